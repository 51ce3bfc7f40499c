import Derived.Test.YthjfindbamdacaaGreatDoorAuditFindsZd
import Derived.Test.YthjfindbamdacaaGreatDoorAuditFindsZx
open Nat renaming beq->bT,blt->bJ,lt_succ_self->cO
open List renaming getD->aK,length->dK,append->cR,take->dB,drop->dC,set->dG
open Int renaming toNat->dF
open UInt8 renaming toNat->eW
set_option maxRecDepth 100000
set_option linter.all false
namespace Go.Proofs.YthjfindbamdacaaGreatDoor
open Go Go.GD Go.IntKind
noncomputable section
instance R6 {α β:Type} [Inhabited β]:Inhabited (α⊕β):=⟨.inr default⟩
def Qsk(src:List UInt8)(z:(Int)×(List Int)):Nat:=((Z3r src).2.1.length-z.1).toNat
def Qt3(src:List UInt8)(v0:Int×List Int)(z:(Int)×(List Int)):Nat:=(1024-z.1).toNat
def NU(src:List UInt8):Tree ((List Int)×tq):=
.an (Qml src) (.lv (Z3r src) λ(x0:List ob×List kz×tq)=>.br (x0.2.2.Af !=0) (.lf ([],x0.2.2)) (.lp inferInstance (Qsk src (0,[])+1) ((True/\rZ/\True/\True/\True/\rE (0:Int)/\True)/\(rE (0:Int)/\rE (0:Int)/\True)/\rE x0.1/\rE x0.2.1/\rE ([]:List Int)/\True) (0,[]) λ(v0:Int×List Int)=>.br (decide (v0.1<(x0.2.1.length:Int))) (.cn (bT 6 6&&bJ 0 6&&decide (0<=v0.1/\v0.1<(x0.2.1.length:Int))) (let E4:=x0.2.1.getD v0.1.toNat (RK.cq RK.ai);let T1:Tree ((Int×List Int)⊕(((List Int)×tq))):=.lp inferInstance (Qt3 src v0 (0,v0.2)+1) ((True/\rZ/\True/\True/\True/\rE v0.1/\rZ/\rE (0:Int)/\True)/\(rE (0:Int)/\rE (0:Int)/\True)/\rE x0.1/\rE x0.2.1/\(rE ((x0.2.1.getD v0.1.toNat (RK.cq RK.ai)).ee:List UInt8)/\rE ((x0.2.1.getD v0.1.toNat (RK.cq RK.ai)).op:Int)/\((ao.Nil (D.toEs (aK (ao.get (ao.av RK.ai x0.2.1) v0.1.toNat) ((0:Nat)+(1:Nat)+(1:Nat)) D.dead))\/rE (3:Nat))/\rE ((x0.2.1.getD v0.1.toNat (RK.cq RK.ai)).l:List (RK.T RK.bb)))/\rE ((x0.2.1.getD v0.1.toNat (RK.cq RK.ai)).D7:Int)/\rE ((x0.2.1.getD v0.1.toNat (RK.cq RK.ai)).at_:Int)/\rE ((x0.2.1.getD v0.1.toNat (RK.cq RK.ai)).size:Int)/\True)/\rE v0.2/\True) (0,v0.2) λ(v1:Int×List Int)=>.br (decide (v1.1<E4.size)) (.cn (decide (4*(v1.2.length+1)<=140737488355328)) (.nx ((True/\rZ/\True/\True/\True/\rE v0.1/\rZ/\rE ((wrap i64 (v1.1+1)):Int)/\True)/\(rE (0:Int)/\rE (0:Int)/\True)/\rE x0.1/\rE x0.2.1/\(rE ((x0.2.1.getD v0.1.toNat (RK.cq RK.ai)).ee:List UInt8)/\rE ((x0.2.1.getD v0.1.toNat (RK.cq RK.ai)).op:Int)/\((ao.Nil (ao.av RK.bb (x0.2.1.getD v0.1.toNat (RK.cq RK.ai)).l)\/rE (3:Nat))/\rE ((x0.2.1.getD v0.1.toNat (RK.cq RK.ai)).l:List (RK.T RK.bb)))/\rE ((x0.2.1.getD v0.1.toNat (RK.cq RK.ai)).D7:Int)/\rE ((x0.2.1.getD v0.1.toNat (RK.cq RK.ai)).at_:Int)/\rE ((x0.2.1.getD v0.1.toNat (RK.cq RK.ai)).size:Int)/\True)/\rE ((v1.2++[0]):List Int)/\True) (Sum.inl (wrap i64 (v1.1+1),v1.2++[0])))) (.nx ((True/\rZ/\True/\True/\True/\rE ((wrap i64 (v0.1+1)):Int)/\True)/\(rE (0:Int)/\rE (0:Int)/\True)/\rE x0.1/\rE x0.2.1/\rE v1.2/\True) (Sum.inr (Sum.inl (wrap i64 (v0.1+1),v1.2))));let E5:=bT 3 3&&bJ 0 3&&decide ((0:Int)<=(0:Int)/\0<(↑(dK E4.l):Int));let E7:=aK E4.l (dF 0) (RK.cq RK.bb);let E8:=decide (4*(v0.2.length+1)<=140737488355328);let T2:Tree ((Int×List Int)⊕(((List Int)×tq))):=.cn E5 (.cn (bT 3 3&&bJ 0 3&&decide ((0:Int)<=(1:Int)/\1<(↑(dK E4.l):Int))) (.lv (oQ {Op:=16,A:=E7.kF,B:=(aK E4.l (dF 1) (RK.cq RK.bb)).kF,C:=0,bn:=0}) λ(x4:Int×Bool)=>.cn E8 (.nx ((True/\rZ/\True/\True/\True/\rE ((wrap i64 (v0.1+1)):Int)/\True)/\(rE (0:Int)/\rE (0:Int)/\True)/\rE x0.1/\rE x0.2.1/\rE ((v0.2++[x4.1]):List Int)/\True) (Sum.inl (wrap i64 (v0.1+1),v0.2++[x4.1])))));let T3:Tree ((Int×List Int)⊕(((List Int)×tq))):=.lv (oQ {Op:=16,A:=0,B:=0,C:=0,bn:=0}) λ(x5:Int×Bool)=>.cn E8 (.nx ((True/\rZ/\True/\True/\True/\rE ((wrap i64 (v0.1+1)):Int)/\True)/\(rE (0:Int)/\rE (0:Int)/\True)/\rE x0.1/\rE x0.2.1/\rE ((v0.2++[x5.1]):List Int)/\True) (Sum.inl (wrap i64 (v0.1+1),v0.2++[x5.1])));let E9:=decide (E4.ee=[(46:UInt8),115,112,97,99,101]);let nh:=decide (E4.ee=[(46:UInt8),119,111,114,100]);let oW:=decide (E4.ee=[(110:UInt8),111,112]);let Bz:=decide (4*(v0.2.length+2)<=140737488355328);let H4:=decide (E4.ee=[(108:UInt8),105]);let H5:=decide (E4.ee=[(109:UInt8),118]);.br (decide ((↑(dK E4.l):Int)>(0:Int))) (.cn (bT 3 3&&bJ 0 3&&decide (0<=wrap i64 ((↑(dK E4.l):Int)-(1:Int))/\wrap i64 ((↑(dK E4.l):Int)-(1:Int))<(↑(dK E4.l):Int))) (let E6:=aK E4.l (dF (wrap i64 ((↑(dK E4.l):Int)-(1:Int)))) (RK.cq RK.bb);.br (!decide (E6.label=[])) (.an (GB x0.1 E6.label) (.lv (Qpb x0.1 E6.label) λ(x1:Int×Bool)=>.br (!x1.2) (.lf (Sum.inr ([],{Af:=302,nB:=E4.D7}))) (.br (decide (E4.op>0)) (let nW:=wrap i64 (wrap i64 (Int.tdiv (wrap i64 x1.1) 4)-E4.at_);.br nh (.cn E8 (.nx ((True/\rZ/\True/\True/\True/\rE ((wrap i64 (v0.1+1)):Int)/\True)/\(rE (0:Int)/\rE (0:Int)/\True)/\rE x0.1/\rE x0.2.1/\rE ((v0.2++[wrap u32 (wrap i64 (wrap i64 (Int.tdiv (wrap i64 x1.1) 4)-(x0.2.1.getD v0.1.toNat (RK.cq RK.ai)).at_))]):List Int)/\True) (Sum.inl (wrap i64 (v0.1+1),v0.2++[wrap u32 nW])))) (.br E9 T1 (.br H4 (.cn E5 (.lv (oQ {Op:=24,A:=E7.kF,B:=0,C:=0,bn:=wrap i32 (bg u32 (wrap u32 nW) 16)}) λ(x2:Int×Bool)=>.cn E5 (.cn E5 (.lv (oQ {Op:=18,A:=E7.kF,B:=E7.kF,C:=0,bn:=wrap i32 (bf u32 (wrap u32 nW) 65535)}) λ(x3:Int×Bool)=>.cn Bz (.nx ((True/\rZ/\True/\True/\True/\rE ((wrap i64 (v0.1+1)):Int)/\True)/\(rE (0:Int)/\rE (0:Int)/\True)/\rE x0.1/\rE x0.2.1/\rE ((v0.2++[x2.1,x3.1]):List Int)/\True) (Sum.inl (wrap i64 (v0.1+1),v0.2++[x2.1,x3.1]))))))) (.br H5 T2 (.br oW T3 (.an (NS E4 nW) (.lv (VF E4 nW) λ(x6:Int×Bool)=>.br (!x6.2) (.lf (Sum.inr ([],{Af:=304,nB:=E4.D7}))) (.cn E8 (.nx ((True/\rZ/\True/\True/\True/\rE ((wrap i64 (v0.1+1)):Int)/\True)/\(rE (0:Int)/\rE (0:Int)/\True)/\rE x0.1/\rE x0.2.1/\rE ((v0.2++[x6.1]):List Int)/\True) (Sum.inl (wrap i64 (v0.1+1),v0.2++[x6.1]))))))))))) (.br nh (.cn E8 (.nx ((True/\rZ/\True/\True/\True/\rE ((wrap i64 (v0.1+1)):Int)/\True)/\(rE (0:Int)/\rE (0:Int)/\True)/\rE x0.1/\rE x0.2.1/\rE ((v0.2++[wrap u32 (wrap i64 x1.1)]):List Int)/\True) (Sum.inl (wrap i64 (v0.1+1),v0.2++[wrap u32 (wrap i64 x1.1)])))) (.br E9 T1 (.br H4 (.cn E5 (.lv (oQ {Op:=24,A:=E7.kF,B:=0,C:=0,bn:=wrap i32 (bg u32 (wrap u32 (wrap i64 x1.1)) 16)}) λ(x7:Int×Bool)=>.cn E5 (.cn E5 (.lv (oQ {Op:=18,A:=E7.kF,B:=E7.kF,C:=0,bn:=wrap i32 (bf u32 (wrap u32 (wrap i64 x1.1)) 65535)}) λ(x8:Int×Bool)=>.cn Bz (.nx ((True/\rZ/\True/\True/\True/\rE ((wrap i64 (v0.1+1)):Int)/\True)/\(rE (0:Int)/\rE (0:Int)/\True)/\rE x0.1/\rE x0.2.1/\rE ((v0.2++[x7.1,x8.1]):List Int)/\True) (Sum.inl (wrap i64 (v0.1+1),v0.2++[x7.1,x8.1]))))))) (.br H5 T2 (.br oW T3 (.an (NS E4 (wrap i64 x1.1)) (.lv (VF E4 (wrap i64 x1.1)) λ(mr:Int×Bool)=>.br (!mr.2) (.lf (Sum.inr ([],{Af:=304,nB:=E4.D7}))) (.cn E8 (.nx ((True/\rZ/\True/\True/\True/\rE ((wrap i64 (v0.1+1)):Int)/\True)/\(rE (0:Int)/\rE (0:Int)/\True)/\rE x0.1/\rE x0.2.1/\rE ((v0.2++[mr.1]):List Int)/\True) (Sum.inl (wrap i64 (v0.1+1),v0.2++[mr.1])))))))))))))) (.br nh (.cn E8 (.nx ((True/\rZ/\True/\True/\True/\rE ((wrap i64 (v0.1+1)):Int)/\True)/\(rE (0:Int)/\rE (0:Int)/\True)/\rE x0.1/\rE x0.2.1/\rE ((v0.2++[wrap u32 (aK (x0.2.1.getD v0.1.toNat (RK.cq RK.ai)).l (dF (wrap i64 ((↑(dK (x0.2.1.getD v0.1.toNat (RK.cq RK.ai)).l):Int)-(1:Int)))) (RK.cq RK.bb)).num]):List Int)/\True) (Sum.inl (wrap i64 (v0.1+1),v0.2++[wrap u32 E6.num])))) (.br E9 T1 (.br H4 (.cn E5 (.lv (oQ {Op:=24,A:=E7.kF,B:=0,C:=0,bn:=wrap i32 (bg u32 (wrap u32 E6.num) 16)}) λ(kS:Int×Bool)=>.cn E5 (.cn E5 (.lv (oQ {Op:=18,A:=E7.kF,B:=E7.kF,C:=0,bn:=wrap i32 (bf u32 (wrap u32 E6.num) 65535)}) λ(lU:Int×Bool)=>.cn Bz (.nx ((True/\rZ/\True/\True/\True/\rE ((wrap i64 (v0.1+1)):Int)/\True)/\(rE (0:Int)/\rE (0:Int)/\True)/\rE x0.1/\rE x0.2.1/\rE ((v0.2++[kS.1,lU.1]):List Int)/\True) (Sum.inl (wrap i64 (v0.1+1),v0.2++[kS.1,lU.1]))))))) (.br H5 T2 (.br oW T3 (.an (NS E4 E6.num) (.lv (VF E4 E6.num) λ(uA:Int×Bool)=>.br (!uA.2) (.lf (Sum.inr ([],{Af:=304,nB:=E4.D7}))) (.cn E8 (.nx ((True/\rZ/\True/\True/\True/\rE ((wrap i64 (v0.1+1)):Int)/\True)/\(rE (0:Int)/\rE (0:Int)/\True)/\rE x0.1/\rE x0.2.1/\rE ((v0.2++[uA.1]):List Int)/\True) (Sum.inl (wrap i64 (v0.1+1),v0.2++[uA.1]))))))))))))) (.br nh (.cn E8 (.nx ((True/\rZ/\True/\True/\True/\rE ((wrap i64 (v0.1+1)):Int)/\True)/\(rE (0:Int)/\rE (0:Int)/\True)/\rE x0.1/\rE x0.2.1/\rE ((v0.2++[wrap u32 0]):List Int)/\True) (Sum.inl (wrap i64 (v0.1+1),v0.2++[wrap u32 0])))) (.br E9 T1 (.br H4 (.cn E5 (.lv (oQ {Op:=24,A:=E7.kF,B:=0,C:=0,bn:=wrap i32 (bg u32 (wrap u32 0) 16)}) λ(Hg:Int×Bool)=>.cn E5 (.cn E5 (.lv (oQ {Op:=18,A:=E7.kF,B:=E7.kF,C:=0,bn:=wrap i32 (bf u32 (wrap u32 0) 65535)}) λ(Hh:Int×Bool)=>.cn Bz (.nx ((True/\rZ/\True/\True/\True/\rE ((wrap i64 (v0.1+1)):Int)/\True)/\(rE (0:Int)/\rE (0:Int)/\True)/\rE x0.1/\rE x0.2.1/\rE ((v0.2++[Hg.1,Hh.1]):List Int)/\True) (Sum.inl (wrap i64 (v0.1+1),v0.2++[Hg.1,Hh.1]))))))) (.br H5 T2 (.br oW T3 (.an (NS E4 0) (.lv (VF E4 0) λ(FC:Int×Bool)=>.br (!FC.2) (.lf (Sum.inr ([],{Af:=304,nB:=E4.D7}))) (.cn E8 (.nx ((True/\rZ/\True/\True/\True/\rE ((wrap i64 (v0.1+1)):Int)/\True)/\(rE (0:Int)/\rE (0:Int)/\True)/\rE x0.1/\rE x0.2.1/\rE ((v0.2++[FC.1]):List Int)/\True) (Sum.inl (wrap i64 (v0.1+1),v0.2++[FC.1]))))))))))))) (.lf (Sum.inr (v0.2,{Af:=0,nB:=0})))))
def K0 src:=(NU src).m
abbrev WV src:=(NU src).p
def Z02:bu:={
 α:=(Int)×(List Int)
 F:=λst a=>([(2,(lk st 2)),(3,.ptr 0 0 0),(4,.all 1),(5,.all 2),(7,.all 3),(8,.int i64 a.1)],[⟨true,112,2,.gen [[(cT st 3 0),(cT st 3 1)]]⟩,⟨false,238,2,ph st.rows (rN st 4)⟩,⟨false,175,6,ph st.rows (rN st 5)⟩,⟨false,23,1,.ints u32 a.2⟩])
 a0:=λst=>((lk st 8).toInt,(oP st.rows (rN st 7)))
 jn:=λst=>[]++[(rX st 3 0),(rX st 4 1),(rX st 5 2),(rX st 7 3)]}
def Z0a:bu:={
 α:=(Int)×(List Int)
 F:=λst a=>([(2,(lk st 2)),(3,.ptr 0 0 0),(4,.all 1),(5,.all 2),(7,.all 4),(8,(lk st 8)),(9,.ptr 3 0 0),(14,.int i64 a.1)],[⟨true,112,2,.gen [[(cT st 3 0),(cT st 3 1)]]⟩,⟨false,238,2,ph st.rows (rN st 4)⟩,⟨false,175,6,ph st.rows (rN st 5)⟩,⟨true,175,6,.gen [[(cT st 9 0),(cT st 9 1),(cT st 9 2),(cT st 9 3),(cT st 9 4),(cT st 9 5)]]⟩,⟨false,23,1,.ints u32 a.2⟩])
 a0:=λst=>((lk st 14).toInt,(oP st.rows (rN st 7)))
 jn:=λst=>[]++[(rX st 3 0),(rX st 4 1),(rX st 5 2),(rX st 9 3),(rX st 7 4)]}
def Qth:List (Nat×bu):=[(6,Z02),(29,Z0a)]
def Z2o:bc:=mT 49 [] true [.one (.str)] [] (λa r=>NU (il a 0)) (λX=>.dt [.all 0,.agg (tq.cells (X.2))]) (λX=>[⟨false,23,1,.ints .u32 (X.1)⟩])
theorem Z0r:bj pG Z2o:=oT (.cons Zet (.cons Qnq (.cons Qk1 (.cons Zhi (.nil))))) Tryz.func49 Tryz.call49 [.row 23 1 (.ints .u32)] Qth 3
end
noncomputable section
instance R7 {α β:Type} [Inhabited β]:Inhabited (α⊕β):=⟨.inr default⟩
def K1(m:au):Tree cw:=
.an (R8 m) (.lv (Jk m) λ(x0:au)=>.lf ({A0:=x0,B3:=0,C7:=[],B0:=[]}))
def Ma m:=(K1 m).m
abbrev Qeb m:=(K1 m).p
def Qsv:bc:=mT 136 [] true [.agg au.sig] [] (λa r=>K1 (au.of (aC a 0))) (λX=>.agg (cw.ez X (.all 0) (.all 1) (.all 2))) (λX=>[⟨false,23,1,.ints .u32 X.A0.Mem⟩,⟨false,103,4,.av .ab X.C7⟩,⟨false,72,3,.av .bd X.B0⟩])
theorem Qr3:bj pG Qsv:=oT (.cons Qsl (.nil)) Tryz.func136 Tryz.call136 [.row 23 1 (.ints .u32),.row 103 4 (.av .ab),.row 72 3 (.av .bd)] [] 2
def Fh(r:cw)(n:Int):Tree (cw×(List dx)):=
.lv (AM n 3) λ(x0:Int)=>.br (Int.tmod x0 (3:Int)==(0:Int)) (.an (Qrg n) (.lv (OU n) λ(x1:gx)=>.an (Qn6 r x1) (.lv (Ef r x1) λ(x2:cw×Bool)=>.lf (x2.1,[])))) (.an (Ev (bg i64 x0 4) 12) (.lv (uw (bg i64 x0 4) 12) λ(x3:Int)=>let E1:=wrap u32 (bf i64 (bg i64 x0 12) 255);.an (Qlb r x3 E1) (.lv (Ub r x3 E1) λ(x4:cw×List dx)=>.lf (x4.1,x4.2))))
def wK r n:=(Fh r n).m
abbrev Qtg r n:=(Fh r n).p
def Zl8:bc:=mT 137 [] true [.agg cw.sig,.one (.int .i64)] [] (λa r=>Fh (cw.of (aC a 0)) (aq a 1)) (λX=>.dt [.agg (cw.ez (X.1) (.all 0) (.all 1) (.all 2)),.all 3]) (λX=>[⟨false,23,1,.ints .u32 (X.1).A0.Mem⟩,⟨false,103,4,.av .ab (X.1).C7⟩,⟨false,72,3,.av .bd (X.1).B0⟩,⟨false,137,4,.av .ay (X.2)⟩])
theorem Zfh:bj pG Zl8:=oT (.cons Vy (.cons Z5d (.cons Zdj (.cons Qzx (.cons RY (.nil)))))) Tryz.func137 Tryz.call137 [.row 23 1 (.ints .u32),.row 103 4 (.av .ab),.row 72 3 (.av .bd),.row 137 4 (.av .ay)] [] 2
def WX(m:au)(l:List Int)(z:(Int)×cw×(List dx)):Nat:=(l.length-z.1).toNat
def IN(m:au)(l:List Int):Tree (cw×(List dx)):=
.an (Qeb m) (.lv (Ma m) λ(x0:cw)=>.lp inferInstance (WX m l (0,x0,[])+1) ((((ao.Nil (ao.ints i64 l)\/rE (1:Nat))/\rE (l:List Int))/\rZ/\rZ/\True/\rE (0:Int)/\True)/\(mE zM True (rE (0:Int)/\True/\True/\True))/\(mE x0.A0 True (rE x0.B3/\True/\True/\True))/\rE x0.A0.Mem/\rE x0.C7/\rE x0.B0/\rE ([]:List (RK.T RK.ay))/\True) (0,x0,[]) λ(v0:Int×cw×List dx)=>.br (decide (v0.1<(l.length:Int))) (.cn (bT 1 1&&bJ 0 1&&decide (0<=v0.1/\v0.1<(l.length:Int))) (.an (Qtg v0.2.1 (l.getD v0.1.toNat 0)) (.lv (wK v0.2.1 (l.getD v0.1.toNat 0)) λ(x1:cw×List dx)=>.cn (decide (40*(v0.2.2.length+x1.2.length)<=140737488355328)) (.nx ((((ao.Nil (ao.ints i64 l)\/rE (1:Nat))/\rE (l:List Int))/\rZ/\rZ/\True/\rE ((wrap i64 (v0.1+1)):Int)/\True)/\(mE zM True (rE (0:Int)/\True/\True/\True))/\(mE x1.1.A0 True (rE x1.1.B3/\True/\True/\True))/\rE x1.1.A0.Mem/\rE x1.1.C7/\rE x1.1.B0/\rE ((v0.2.2++x1.2):List (RK.T RK.ay))/\True) (Sum.inl (wrap i64 (v0.1+1),x1.1,v0.2.2++x1.2)))))) (.lf (Sum.inr (v0.2.1,v0.2.2))))
def Yl m l:=(IN m l).m
abbrev Qmh m l:=(IN m l).p
def Zhg:bu:={
 α:=(Int)×cw×(List dx)
 F:=λst a=>([(1,(lk st 1)),(4,.ptr 0 0 0),(6,.ptr 1 0 0),(7,.all 5),(8,.int i64 a.1)],[⟨true,154,52,.gen [[(cT st 4 0),(cT st 4 1),(cT st 4 2),(cT st 4 3),(cT st 4 4),(cT st 4 5),(cT st 4 6),(cT st 4 7),(cT st 4 8),(cT st 4 9),(cT st 4 10),(cT st 4 11),(cT st 4 12),(cT st 4 13),(cT st 4 14),(cT st 4 15),(cT st 4 16),(cT st 4 17),(cT st 4 18),(cT st 4 19),(cT st 4 20),(cT st 4 21),(cT st 4 22),(cT st 4 23),(cT st 4 24),(cT st 4 25),(cT st 4 26),(cT st 4 27),(cT st 4 28),(cT st 4 29),(cT st 4 30),(cT st 4 31),(cT st 4 32),(cT st 4 33),(cT st 4 34),(cT st 4 35),(cT st 4 36),(cT st 4 37),(cT st 4 38),(cT st 4 39),(cT st 4 40),(cT st 4 41),(cT st 4 42),(cT st 4 43),(cT st 4 44),(cT st 4 45),(cT st 4 46),(cT st 4 47),(cT st 4 48),(cT st 4 49),(cT st 4 50),(cT st 4 51)]]⟩,⟨true,154,52,.gen [[.int u32 a.2.1.A0.B1.X.a0,.int u32 a.2.1.A0.B1.X.a1,.int u32 a.2.1.A0.B1.X.a2,.int u32 a.2.1.A0.B1.X.a3,.int u32 a.2.1.A0.B1.X.a4,.int u32 a.2.1.A0.B1.X.a5,.int u32 a.2.1.A0.B1.X.a6,.int u32 a.2.1.A0.B1.X.a7,.int u32 a.2.1.A0.B1.X.a8,.int u32 a.2.1.A0.B1.X.a9,.int u32 a.2.1.A0.B1.X.kq,.int u32 a.2.1.A0.B1.X.kr,.int u32 a.2.1.A0.B1.X.a12,.int u32 a.2.1.A0.B1.X.ku,.int u32 a.2.1.A0.B1.X.kv,.int u32 a.2.1.A0.B1.X.ky,.int u32 a.2.1.A0.B1.Pc,.int u32 a.2.1.A0.B1.B4.a0,.int u32 a.2.1.A0.B1.B4.a1,.int u32 a.2.1.A0.B1.B4.a2,.int u32 a.2.1.A0.B1.B4.a3,.int u32 a.2.1.A0.B1.B4.a4,.int u32 a.2.1.A0.B1.B4.a5,.int u32 a.2.1.A0.B1.B4.a6,.int u32 a.2.1.A0.B1.B4.a7,.all 2,.str a.2.1.A0.A3.D1,.bool a.2.1.A0.A9.D4,.int u32 a.2.1.A0.A9.C4,.bool a.2.1.A0.A9.D3,.int u32 a.2.1.A0.A7.ag,.int u32 a.2.1.A0.A7.C1,.int u32 a.2.1.A0.A7.Frame,.int i64 a.2.1.A0.A7.B7,.int i64 a.2.1.A0.A7.D5,.int u32 a.2.1.A0.A7.B6,.int u32 a.2.1.A0.A7.B2,.str a.2.1.A0.A7.B8,.int u32 a.2.1.A0.C3.Frame,.int u32 a.2.1.A0.C3.E0,.bool a.2.1.A0.C3.C5,.int u32 a.2.1.A0.C3.B9,.bool a.2.1.A0.C3.B5,.int u32 a.2.1.A0.C3.F1,.int u32 a.2.1.A0.A2.C6,.int u32 a.2.1.A0.A2.C2,.int u64 a.2.1.A0.A1,.bool a.2.1.A0.A4,.bool a.2.1.A0.A6,.int u32 a.2.1.B3,.all 3,.all 4]]⟩,⟨false,23,1,.ints u32 a.2.1.A0.Mem⟩,⟨false,103,4,.av RK.ab a.2.1.C7⟩,⟨false,72,3,.av RK.bd a.2.1.B0⟩,⟨false,137,4,.av RK.ay a.2.2⟩])
 a0:=λst=>((lk st 8).toInt,(⟨(mR (cT st 6) (oP st.rows (lz (cT st 6 25) 1000000))),(cT st 6 49).toInt,(tz RK.ab st.rows (lz (cT st 6 50) 1000000)),(tz RK.bd st.rows (lz (cT st 6 51) 1000000))⟩:cw),(tz RK.ay st.rows (rN st 7)))
 jn:=λst=>[]++[(rX st 4 0),(rX st 6 1),(lz (cT st 6 25) (st.rows.length+2)),(lz (cT st 6 50) (st.rows.length+3)),(lz (cT st 6 51) (st.rows.length+4)),(rX st 7 5)]}
def Z5y:List (Nat×bu):=[(4,Zhg)]
def Zk6:bc:=mT 79 [] true [.agg au.sig,.one (.ints .i64)] [] (λa r=>IN (au.of (aC a 0)) (eh .i64 a 1)) (λX=>.dt [.agg (cw.ez (X.1) (.all 0) (.all 1) (.all 2)),.all 3]) (λX=>[⟨false,23,1,.ints .u32 (X.1).A0.Mem⟩,⟨false,103,4,.av .ab (X.1).C7⟩,⟨false,72,3,.av .bd (X.1).B0⟩,⟨false,137,4,.av .ay (X.2)⟩])
theorem Zh4:bj pG Zk6:=oT (.cons Qr3 (.cons Zfh (.nil))) Tryz.func79 Tryz.call79 [.row 23 1 (.ints .u32),.row 103 4 (.av .ab),.row 72 3 (.av .bd),.row 137 4 (.av .ay)] Z5y 3
end
noncomputable section
def Ce:List UInt8:=[(105:UInt8),32,114,49,44,32,104,97,110,100,108,101,114,10,99,115,114,119,32,114,49,44,32,49,10,108,105,32,114,49,44,32,51,49,10,99,115,114,119,32,114]
def KL:List UInt8:=[(49:UInt8),44,32,55,10,108,105,32,114,49,44,32,52,10,99,115,114,119,32,114,49,44,32,54,10,108,105,32,114,50,44,32,53,49,50,10,108,105,32,114,51,44]
def KM:List UInt8:=[(32:UInt8),48,10,108,105,32,114,52,44,32,56,10,109,97,112,58,32,115,104,108,105,32,114,53,44,32,114,51,44,32,56,10,111,114,105,32,114,53,44,32,114,53]
def KN:List UInt8:=[(44:UInt8),32,55,10,115,104,108,105,32,114,54,44,32,114,51,44,32,50,10,97,100,100,32,114,54,44,32,114,54,44,32,114,50,10,115,119,32,114,53,44,32,48,40]
def KO:List UInt8:=[(114:UInt8),54,41,10,97,100,100,105,32,114,51,44,32,114,51,44,32,49,10,98,108,116,32,114,51,44,32,114,52,44,32,109,97,112,10,108,105,32,114,49,44,32]
def KP:List UInt8:=[(54:UInt8),10,111,117,116,32,114,49,44,32,55,10,108,105,32,114,49,44,32,50,10,111,117,116,32,114,49,44,32,57,10,108,105,32,114,49,44,32,49,48,48,10,111]
def KQ:List UInt8:=[(117:UInt8),116,32,114,49,44,32,51,10,108,105,32,114,49,44,32,54,52,48,10,99,115,114,119,32,114,49,44,32,50,10,108,105,32,114,49,44,32,50,49,10,99]
def KR:List UInt8:=[(115:UInt8),114,119,32,114,49,44,32,48,10,101,114,101,116,10,104,97,110,100,108,101,114,58,32,99,115,114,119,32,114,49,44,32,53,10,99,115,114,114,32,114,49,44]
def KS:List UInt8:=[(32:UInt8),51,10,115,108,116,105,32,114,49,44,32,114,49,44,32,49,54,10,98,101,113,32,114,49,44,32,114,48,44,32,105,114,113,10,99,115,114,114,32,114,49]
def KT:List UInt8:=[(44:UInt8),32,50,10,97,100,100,105,32,114,49,44,32,114,49,44,32,52,10,99,115,114,119,32,114,49,44,32,50,10,105,110,32,114,51,44,32,50,10,111,117,116]
def KU:List UInt8:=[(32:UInt8),114,51,44,32,48,10,108,105,32,114,49,44,32,49,10,111,117,116,32,114,49,44,32,52,10,108,105,32,114,49,44,32,55,10,111,117,116,32,114,49,44]
def KV:List UInt8:=[(32:UInt8),53,10,97,110,100,105,32,114,49,44,32,114,50,44,32,49,10,97,100,100,105,32,114,49,44,32,114,49,44,32,49,10,111,117,116,32,114,49,44,32,54,10]
def KW:List UInt8:=[(99:UInt8),115,114,114,32,114,49,44,32,53,10,101,114,101,116,10,105,114,113,58,32,105,110,32,114,49,44,32,48,10,111,117,116,32,114,49,44,32,48,10,111,117]
def KX:List UInt8:=[(116:UInt8),32,114,48,44,32,54,10,111,117,116,32,114,48,44,32,57,10,108,105,32,114,49,44,32,54,10,111,117,116,32,114,49,44,32,55,10,108,105,32,114,49,44]
def KY:List UInt8:=[(32:UInt8),50,10,111,117,116,32,114,49,44,32,57,10,105,110,32,114,49,44,32,50,10,97,100,100,105,32,114,49,44,32,114,49,44,32,50,48,10,111,117,116,32]
def KZ:List UInt8:=[(114:UInt8),49,44,32,51,10,105,110,32,114,49,44,32,49,48,10,111,117,116,32,114,49,44,32,49,48,10,99,115,114,114,32,114,49,44,32,53,10,101,114,101,116,10]
def Tb:List UInt8:=[(108:UInt8),105,32,114,49,44,32,104,97,110,100,108,101,114,10,99,115,114,119,32,114,49,44,32,49,10,108,105,32,114,49,44,32,51,49,10,99,115,114,119,32,114]
instance R9 {α β:Type} [Inhabited β]:Inhabited (α⊕β):=⟨.inr default⟩
def Qke(l:List eu)(z:(Int)):Prop:=1<=z/\(z<=l.length\/z=1)
def Qc8(l:List eu)(z:(Int)):Nat:=(l.length-z).toNat
def VG(l:List eu):Tree Bool:=
.lp inferInstance (Qc8 l 1+1) ((nR RK.ab 4 l/\rE (1:Int)/\True)/\True) 1 λ(v0:Int)=>.br (decide (v0<(l.length:Int))) (let E4:=bT 4 4&&bJ 0 4&&decide (0<=v0/\v0<(l.length:Int));.cn E4 (let E2:=bT 4 4&&bJ 0 4&&decide (0<=wrap i64 (v0-1)/\wrap i64 (v0-1)<(l.length:Int));.cn E2 (let E3:=l.getD (dF (wrap i64 (v0-1))) (RK.cq RK.ab);let E5:=l.getD v0.toNat (RK.cq RK.ab);.br (decide (E5.At<E3.At)) (.lf (Sum.inr false)) (.cn E4 (.cn E2 (let T1:Tree ((Int)⊕(Bool)):=.nx ((nR RK.ab 4 l/\rE ((wrap i64 (v0+1)):Int)/\True)/\True) (Sum.inl (wrap i64 (v0+1)));.br (E5.At==E3.At) (.cn E2 (.br (E3.C8.C0==1) (.lf (Sum.inr false)) T1)) T1)))))) (.lf (Sum.inr true))
def Qz7 l:=(VG l).m
def NF(l:List eu):Prop:=
l.length<=1000000000000
theorem Z03(l:List eu)(hw:NF l):(VG l).p:=by
 simp only[NF]at hw
 unfold Tree.p VG
 repeat'(first|refine fy (inv:=Qke l) (μ:=Qc8 l) ?_ (cO _) (λ_ _=>?_)|exact trivial|refine aa (λ_=>?_) (λ_=>?_)|refine ba ?_ ?_|refine cz ?_ ?_|refine ar (λ_ _=>?_)|refine fg ?_|refine ey ?_|refine And.intro ?_ ?_)
 all_goals((try simp only[Qke,Qc8]at*);exact oI)
def Z4h:bu:={
 α:=(Int)
 F:=λst a=>([(0,(lk st 0)),(3,.int i64 a)],[])
 a0:=λst=>(lk st 3).toInt
 jn:=λst=>[]++[]}
def Qxn:List (Nat×bu):=[(2,Z4h)]
def Z68:bc:=mM 102 [] true [.one (.av .ab)] [] (λa r=>NF (jh .ab a 0)) (λa r=>Qz7 (jh .ab a 0)) (λX=>.bool X) (λX=>[])
theorem Z3u:bj pG Z68:=u5 drawn mN (.nil) Tryz.func102 Tryz.call102 (λa r=>VG (jh .ab a 0)) [] Qxn 3 (hp:=λa r h=>Z03 (jh .ab a 0) h)
def S8(m:au)(script:List eu)(df:Int)(z:au×(List dx)):Nat:=(df-z.1.A1).toNat
def S9(m:au)(script:List eu)(df:Int)(v0:au×List dx)(z:Unit):Nat:=0
def Fc(m:au)(script:List eu)(df:Int):Tree (au×(List dx)×Int×Int):=
.lv (pR m) λ(x0:Bool)=>let E2:=({B1:={X:={a0:=0,a1:=0,a2:=0,a3:=0,a4:=0,a5:=0,a6:=0,a7:=0,a8:=0,a9:=0,kq:=0,kr:=0,a12:=0,ku:=0,kv:=0,ky:=0},Pc:=0,B4:={a0:=0,a1:=0,a2:=0,a3:=0,a4:=0,a5:=0,a6:=0,a7:=0}},Mem:=[],A3:={D1:=[]},A9:={D4:=false,C4:=0,D3:=false},A7:={ag:=0,C1:=0,Frame:=0,B7:=0,D5:=0,B6:=0,B2:=0,B8:=[]},C3:={Frame:=0,E0:=0,C5:=false,B9:=0,B5:=false,F1:=0},A2:={C6:=0,C2:=0},A1:=0,A4:=false,A6:=false}:au);let T1:Tree ((au×(List dx)×Int×Int)):=.lf (E2,[],0,1300);.br (!x0) T1 (.br (decide (df<m.A1)) T1 (.br (decide (wrap u64 (df-m.A1)>4000)) T1 (.an (NF []) (.lv (Qz7 []) λ(x1:Bool)=>.br (!x1) (.lf (E2,[],0,1301)) (.an (R8 m) (.lv (Jk m) λ(x2:au)=>.lp inferInstance (S8 m script df (x2,[])+1) ((((ao.Nil (ao.gen [])\/rE (0:Nat))/\rE ([]:List (List D)))/\rE (df:Int)/\rZ/\rZ/\True/\rE (0:Int)/\True)/\(mE x2 True True)/\rE x2.Mem/\(mE zM True True)/\rE ([]:List (RK.T RK.ay))/\True) (x2,[]) λ(v0:au×List dx)=>.br (decide (v0.1.A1<df)) (.br (decide (v0.1.A1<1152921504606846976)) (.lp inferInstance (S9 m script df v0 ()+1) ((((ao.Nil (ao.gen [])\/rE (0:Nat))/\rE ([]:List (List D)))/\rE (df:Int)/\rZ/\rZ/\True/\rE (0:Int)/\(rE (0:Nat)/\rE (46:Nat))/\rE v0.1.A1/\rE ((decide (v0.1.A1<1152921504606846976)):Bool)/\True)/\(mE v0.1 True True)/\rE v0.1.Mem/\(mE zM True True)/\rE v0.2/\True) () λ(v1:PUnit)=>.br v0.1.A6 (.lf (Sum.inr (Sum.inr (v0.1,v0.2,0,0)))) (.an (Qln v0.1) (.lv (tG v0.1) λ(x3:Bool)=>.br x3 (.lf (Sum.inr (Sum.inr (v0.1,v0.2,0,0)))) (.an (Qk0 v0.1) (.lv (pS v0.1) λ(x4:Bool)=>.br (!false==x4) (.lf (Sum.inr (Sum.inr (E2,[],0,1302)))) (.an (Qfq v0.1 0) (.lv (ga v0.1 0) λ(x5:List dx×au)=>.cn (decide (40*(v0.2.length+x5.1.length)<=140737488355328)) (.nx ((((ao.Nil (ao.gen [])\/rE (0:Nat))/\rE ([]:List (List D)))/\rE (df:Int)/\rZ/\rZ/\True/\rE (0:Int)/\True)/\(mE x5.2 True True)/\rE x5.2.Mem/\(mE zM True True)/\rE ((v0.2++x5.1):List (RK.T RK.ay))/\True) (Sum.inr (Sum.inl (x5.2,v0.2++x5.1))))))))))) (.lf (Sum.inr (v0.1,v0.2,0,0)))) (.lf (Sum.inr (v0.1,v0.2,0,0)))))))))
def IP m script df:=(Fc m script df).m
abbrev VH m script df:=(Fc m script df).p
def Zd9:bu:={
 α:=au×(List dx)
 F:=λst a=>([(1,(lk st 1)),(2,(lk st 2)),(3,.ptr 0 0 0),(6,.ptr 2 0 0),(10,.all 3),(11,(lk st 11))],[⟨true,42,49,.gen [mD a.1 (.all 1)]⟩,⟨false,23,1,.ints u32 a.1.Mem⟩,⟨true,42,49,.gen [mB (cT st 6)]⟩,⟨false,137,4,.av RK.ay a.2⟩])
 a0:=λst=>((mR (cT st 3) (oP st.rows (lz (cT st 3 25) 1000000))),(tz RK.ay st.rows (rN st 10)))
 jn:=λst=>[]++[(rX st 3 0),(lz (cT st 3 25) (st.rows.length+1)),(rX st 6 2),(rX st 10 3)]}
def Zbu:bu:={
 α:=Unit
 F:=λst a=>([(1,(lk st 1)),(2,(lk st 2)),(3,.ptr 0 0 0),(6,.ptr 2 0 0),(10,.all 3),(11,(lk st 11)),(61,.ptr 0 0 46),(62,(lk st 62)),(63,(lk st 63))],[⟨true,42,49,.gen [[(cT st 3 0),(cT st 3 1),(cT st 3 2),(cT st 3 3),(cT st 3 4),(cT st 3 5),(cT st 3 6),(cT st 3 7),(cT st 3 8),(cT st 3 9),(cT st 3 10),(cT st 3 11),(cT st 3 12),(cT st 3 13),(cT st 3 14),(cT st 3 15),(cT st 3 16),(cT st 3 17),(cT st 3 18),(cT st 3 19),(cT st 3 20),(cT st 3 21),(cT st 3 22),(cT st 3 23),(cT st 3 24),.all 1,(cT st 3 26),(cT st 3 27),(cT st 3 28),(cT st 3 29),(cT st 3 30),(cT st 3 31),(cT st 3 32),(cT st 3 33),(cT st 3 34),(cT st 3 35),(cT st 3 36),(cT st 3 37),(cT st 3 38),(cT st 3 39),(cT st 3 40),(cT st 3 41),(cT st 3 42),(cT st 3 43),(cT st 3 44),(cT st 3 45),(cT st 3 46),(cT st 3 47),(cT st 3 48)]]⟩,⟨false,23,1,ph st.rows (lz (cT st 3 25) 1000000)⟩,⟨true,42,49,.gen [mB (cT st 6)]⟩,⟨false,137,4,ph st.rows (rN st 10)⟩])
 a0:=λst=>()
 jn:=λst=>[]++[(rX st 3 0),(lz (cT st 3 25) (st.rows.length+1)),(rX st 6 2),(rX st 10 3)]}
def Z4o:List (Nat×bu):=[(8,Zd9),(9,Zbu)]
def Zi0:bc:=mT 52 [] true [.agg au.sig,.one .nil,.one (.int .u64)] [] (λa r=>Fc (au.of (aC a 0)) (jh .ab a 1) (aq a 2)) (λX=>.dt [.agg (au.ez (X.1) (.all 0)),.all 1,.int .i64 (X.2.2.1),.int .i64 (X.2.2.2)]) (λX=>[⟨false,23,1,.ints .u32 (X.1).Mem⟩,⟨false,137,4,.av .ay (X.2.1)⟩])
theorem Zd3:bj pG Zi0:=oT (.cons Qt2 (.cons Z3u (.cons Qsl (.cons Zcd (.cons Qz9 (.cons Qvn (.cons Z32 (.nil)))))))) Tryz.func52 Tryz.call52 [.row 23 1 (.ints .u32),.row 137 4 (.av .ay)] Z4o 3
def Td(kind:Int)(l z:List Int):Nat:=160-z.length
def Ff(kind:Int)(l:List Int):Tree au:=
.an (Ev kind 3) (.lv (uw kind 3) λ(x0:Int)=>.br (decide (x0<2)) (.an (WV ((108:UInt8)::(Ce++KL++(KM++KN)++(KO++KP++(KQ++KR))++(KS++KT++(KU++KV)++(KW++KX++(KY++KZ)))))) (.lv (K0 (cR (cR (cR (cR Tb KL) (cR KM KN)) (cR (cR KO KP) (cR KQ KR))) (cR (cR (cR KS KT) (cR KU KV)) (cR (cR KW KX) (cR KY KZ))))) λ(x1:List Int×tq)=>.lp inferInstance (Td kind l x1.1+1) ((rE (x0:Int)/\((ao.Nil (ao.ints i64 l)\/rE (1:Nat))/\rE (l:List Int))/\rZ/\True/\True)/\(mE zM True True)/\rE x1.1/\True) x1.1 λ(v0:List Int)=>.br (decide ((v0.length:Int)<(160:Int))) (.cn (decide (4*(v0.length+1)<=140737488355328)) (.nx ((rE (x0:Int)/\((ao.Nil (ao.ints i64 l)\/rE (1:Nat))/\rE (l:List Int))/\rZ/\True/\True)/\(mE zM True True)/\rE ((v0++[0]):List Int)/\True) (Sum.inl (v0++[0])))) (.an (Qlm l) (.lv (Mb l) λ(x2:List Int)=>.cn (decide (4*(v0.length+x2.length)<=140737488355328)) (.br (decide ((↑(dK (v0++x2)):Int)>(256:Int))) (.cn (bT 1 1&&bJ 0 1&&decide ((0:Int)<=(0:Int)/\(0:Int)<=(256:Int)/\256<=(↑(dK (v0++x2)):Int))) (let E1:=dB (dF 256-dF 0) (dC (dF 0) (v0++x2));.an (Vz 8 4 E1) (.lv (k9 8 4 E1) λ(x3:au×Bool)=>.br (x0==1) (.an (VH x3.1 [] 87) (.lv (IP x3.1 [] 87) λ(x4:au×List dx×Int×Int)=>.lf (Sum.inr x4.1))) (.lf (Sum.inr x3.1))))) (.an (Vz 8 4 (v0++x2)) (.lv (k9 8 4 (v0++x2)) λ(x5:au×Bool)=>.br (x0==1) (.an (VH x5.1 [] 87) (.lv (IP x5.1 [] 87) λ(x6:au×List dx×Int×Int)=>.lf (Sum.inr x6.1))) (.lf (Sum.inr x5.1))))))))) (.an (Qlm l) (.lv (Mb l) λ(x7:List Int)=>.cn (decide (4*(0+x7.length)<=140737488355328)) (.br (decide ((x7.length:Int)>(256:Int))) (.cn (bT 1 1&&bJ 0 1&&decide ((0:Int)<=(0:Int)/\(0:Int)<=(256:Int)/\256<=(x7.length:Int))) (let E2:=dB (dF 256-dF 0) (dC (dF 0) x7);.an (Vz 8 4 E2) (.lv (k9 8 4 E2) λ(x8:au×Bool)=>.br (x0==1) (.an (VH x8.1 [] 87) (.lv (IP x8.1 [] 87) λ(x9:au×List dx×Int×Int)=>.lf x9.1)) (.lf x8.1)))) (.an (Vz 8 4 x7) (.lv (k9 8 4 x7) λ(jM:au×Bool)=>.br (x0==1) (.an (VH jM.1 [] 87) (.lv (IP jM.1 [] 87) λ(mr:au×List dx×Int×Int)=>.lf mr.1)) (.lf jM.1)))))))
def Fz kind l:=(Ff kind l).m
abbrev Yq kind l:=(Ff kind l).p
def Z4l:bu:={
 α:=(List Int)
 F:=λst a=>([(0,(lk st 0)),(1,(lk st 1)),(4,.ptr 0 0 0),(5,.all 1)],[⟨true,42,49,.gen [mB (cT st 4)]⟩,⟨false,23,1,.ints u32 a⟩])
 a0:=λst=>(oP st.rows (rN st 5))
 jn:=λst=>[]++[(rX st 4 0),(rX st 5 1)]}
def Qxk:List (Nat×bu):=[(5,Z4l)]
def Z6r:bc:=mT 13 [] true [.one (.int .i64),.one (.ints .i64)] [] (λa r=>Ff (aq a 0) (eh .i64 a 1)) (λX=>.agg (au.ez X (.all 0))) (λX=>[⟨false,23,1,.ints .u32 X.Mem⟩])
theorem Qnz:bj pG Z6r:=oT (.cons RY (.cons Z0r (.cons Zhd (.cons Zjx (.cons Zd3 (.nil)))))) Tryz.func13 Tryz.call13 [.row 23 1 (.ints .u32)] Qxk 3
end
noncomputable section
def Z2u(m:au)(clock:Int):Tree (au×(List dx)):=
.an (R8 m) (.lv (Jk m) λ(x0:au)=>.an (VI x0) (.lv (nb x0) λ(x1:Bool)=>.br x1 (.lf (x0,[])) (.an (Qfq x0 clock) (.lv (ga x0 clock) λ(x2:List dx×au)=>.lf (x2.2,x2.1)))))
def X8 m clock:=(Z2u m clock).m
def T8(m:au)(e:gx):Tree (au×Bool):=
.an (R8 m) (.lv (Jk m) λ(x0:au)=>.lv (pR x0) λ(x1:Bool)=>.br (!x1) (.lf (x0,false)) (.an (Qs5 x0 e) (.lv (lK x0 e) λ(x2:Bool×au)=>.lf (x2.2,x2.1))))
def OQ m e:=(T8 m e).m
def W3(t:iU):Tree (iU×Bool):=
.br (!t.D4) (.lf (t,false)) (.lf ({D4:=false,C4:=t.C4,D3:=true},true))
def Tg t:=(W3 t).m
def Zhw:bc:=mS 74 [] true [.agg iU.sig] [] (λa r=>W3 (iU.of (aC a 0))) (λX=>.dt [.agg (iU.cells (X.1)),.bool (X.2)]) (λX=>[])
theorem Zas:bj pG Zhw:=oS (.nil) Tryz.func74 Tryz.call74 [] [] 2
def N2(c:iT)(b:Int):Tree (iT×Bool):=
.br (decide ((c.D1.length:Int)>=(16:Int))) (.lf (c,false)) (.cn (decide (c.D1.length+1<=maxLen)) (.lf ({D1:=c.D1++[(λ(n:Int)=>UInt8.ofNat n.toNat) b]},true)))
def Qpj c b:=(N2 c b).m
abbrev Qn4 c b:=(N2 c b).p
def Z71:bc:=mT 75 [] true [.agg iT.sig,.one (.int .u8)] [] (λa r=>N2 (iT.of (aC a 0)) (aq a 1)) (λX=>.dt [.agg (iT.cells (X.1)),.bool (X.2)]) (λX=>[])
theorem Z4e:bj pG Z71:=oT (.nil) Tryz.func75 Tryz.call75 [] [] 2
def K5(d0:fp)(m:List Int)(e:gx):Tree (fp×(List Int)×Bool):=
let T2:Tree ((fp×(List Int)×Bool)):=.an (mJ m) (.lv (jC m) λ(x0:List Int)=>.lf (d0,x0,false));.br (d0.B7 !=1) T2 (.br (e.C0 !=4) T2 (.br (decide (e.N>1)) T2 (.an (mJ m) (.lv (jC m) λ(x3:List Int)=>let E3:=({ag:=d0.ag,C1:=d0.C1,Frame:=d0.Frame,B7:=2,D5:=0,B6:=0,B2:=0,B8:=[]}:fp);let E4:=({ag:=d0.ag,C1:=d0.C1,Frame:=d0.Frame,B7:=3,D5:=0,B6:=0,B2:=0,B8:=[]}:fp);let T1:Tree ((fp×(List Int)×Bool)):=.br (!decide (e.C9=[])) (.lf (d0,x3,false)) (.br (e.N==1) (.lf (E3,x3,true)) (.lf (E4,x3,true)));.br (e.N==1) (.br (d0.D5==1) (.lv (IT m d0.B2) λ(x4:Bool)=>.br (!x4) (.lf (d0,x3,false)) (.an (Q8h m (wrap i64 d0.B2) e.C9) (.lv (DY m (wrap i64 d0.B2) e.C9) λ(x5:List Int×Bool)=>.br (!x5.2) (.lf (d0,x5.1,false)) (.br (e.N==1) (.lf (E3,x5.1,true)) (.lf (E4,x5.1,true)))))) T1) T1))))
def XR d0 m e:=(K5 d0 m e).m
abbrev Ql1 d0 m e:=(K5 d0 m e).p
def Z31:bc:=mT 76 [] true [.agg fp.sig,.one (.ints .u32),.agg gx.sig] [] (λa r=>K5 (fp.of (aC a 0)) (eh .u32 a 1) (gx.of (aC a 2))) (λX=>.dt [.agg (fp.cells (X.1)),.all 0,.bool (X.2.2)]) (λX=>[⟨false,23,1,.ints .u32 (X.2.1)⟩])
theorem Z0m:bj pG Z31:=oT (.cons Ew (.cons Qrx (.cons Qe (.nil)))) Tryz.func76 Tryz.call76 [.row 23 1 (.ints .u32)] [] 2
def K6(n:ia)(m:List Int)(frame:List UInt8):Tree (ia×(List Int)×Bool):=
let T1:Tree ((ia×(List Int)×Bool)):=.an (mJ m) (.lv (jC m) λ(x0:List Int)=>.lf (n,x0,false));.br (!n.C5) T1 (.br (decide ((frame.length:Int)<(1:Int))) T1 (.br (decide ((frame.length:Int)>(128:Int))) T1 (.lv (Qa m n.B9) λ(x3:Bool)=>.br (!x3) T1 (.an (Qcl m (wrap i64 n.B9)) (.lv (DX m (wrap i64 n.B9)) λ(x5:List UInt8×Bool)=>.cn (decide (0<=(frame.length:Int)/\(frame.length:Int)<=(x5.1.length:Int)/\(x5.1.length:Int)<=(x5.1.length:Int))) (let E2:=dF (x5.1.length:Int)-dF (frame.length:Int);let E3:=dC (dF (frame.length:Int)) x5.1;.cn (decide (frame.length+dK (dB E2 E3)<=maxLen)) (.an (Q8h m (wrap i64 n.B9) (frame++dB E2 E3)) (.lv (DY m (wrap i64 n.B9) (frame++dB E2 E3)) λ(x6:List Int×Bool)=>.lf ({Frame:=n.Frame,E0:=n.E0,C5:=false,B9:=0,B5:=true,F1:=wrap u32 (frame.length:Int)},x6.1,true)))))))))
def XS n m frame:=(K6 n m frame).m
abbrev Qog n m frame:=(K6 n m frame).p
def Zb:bc:=mT 77 [] true [.agg ia.sig,.one (.ints .u32),.one (.str)] [] (λa r=>K6 (ia.of (aC a 0)) (eh .u32 a 1) (il a 2)) (λX=>.dt [.agg (ia.cells (X.1)),.all 0,.bool (X.2.2)]) (λX=>[⟨false,23,1,.ints .u32 (X.2.1)⟩])
theorem Z78:bj pG Zb:=oT (.cons Qmf (.cons Ew (.cons Qk5 (.cons Qe (.nil))))) Tryz.func77 Tryz.call77 [.row 23 1 (.ints .u32)] [] 2
def GQ(m:au)(e:gx):Tree (au×Bool):=
.an (mJ m.Mem) (.lv (jC m.Mem) λ(x0:List Int)=>let E2:=({B1:=m.B1,Mem:=x0,A3:=m.A3,A9:=m.A9,A7:=m.A7,C3:=m.C3,A2:=m.A2,A1:=m.A1,A4:=m.A4,A6:=m.A6}:au);.an (RM E2) (.lv (mZ E2) λ(x1:Bool)=>let T1:Tree ((au×Bool)):=.lf (E2,false);.br (!x1) T1 (.br m.A6 T1 (.br (e.C0==2) (.br (e.N==0) (.br (decide (e.C9=[])) (.lv (Tg m.A9) λ(x2:iU×Bool)=>.lf ({B1:=m.B1,Mem:=x0,A3:=m.A3,A9:=x2.1,A7:=m.A7,C3:=m.C3,A2:=m.A2,A1:=m.A1,A4:=m.A4,A6:=m.A6},x2.2)) T1) T1) (.br (e.C0==3) (.br (decide (e.N<=255)) (.br (decide (e.C9=[])) (.an (Qn4 m.A3 (wrap u8 e.N)) (.lv (Qpj m.A3 (wrap u8 e.N)) λ(x3:iT×Bool)=>.lf ({B1:=m.B1,Mem:=x0,A3:=x3.1,A9:=m.A9,A7:=m.A7,C3:=m.C3,A2:=m.A2,A1:=m.A1,A4:=m.A4,A6:=m.A6},x3.2))) T1) T1) (.br (e.C0==4) (.an (Ql1 m.A7 x0 e) (.lv (XR m.A7 x0 e) λ(x4:fp×List Int×Bool)=>.lf ({B1:=m.B1,Mem:=x4.2.1,A3:=m.A3,A9:=m.A9,A7:=x4.1,C3:=m.C3,A2:=m.A2,A1:=m.A1,A4:=m.A4,A6:=m.A6},x4.2.2))) (.br (e.C0==5) (.br (e.N==0) (.an (Qog m.C3 x0 e.C9) (.lv (XS m.C3 x0 e.C9) λ(x5:ia×List Int×Bool)=>.lf ({B1:=m.B1,Mem:=x5.2.1,A3:=m.A3,A9:=m.A9,A7:=m.A7,C3:=x5.1,A2:=m.A2,A1:=m.A1,A4:=m.A4,A6:=m.A6},x5.2.2))) T1) (.br (e.C0==6) (.br (decide (e.C9=[])) (.lf ({B1:=m.B1,Mem:=x0,A3:=m.A3,A9:=m.A9,A7:=m.A7,C3:=m.C3,A2:={C6:=e.N,C2:=m.A2.C2},A1:=m.A1,A4:=m.A4,A6:=m.A6},true)) T1) T1))))))))
def LZ m e:=(GQ m e).m
abbrev Qdh m e:=(GQ m e).p
def Z4b:bc:=mT 32 [] true [.agg au.sig,.agg gx.sig] [] (λa r=>GQ (au.of (aC a 0)) (gx.of (aC a 1))) (λX=>.dt [.agg (au.ez (X.1) (.all 0)),.bool (X.2)]) (λX=>[⟨false,23,1,.ints .u32 (X.1).Mem⟩])
theorem Qzw:bj pG Z4b:=oT (.cons Ew (.cons Qjt (.cons Zas (.cons Z4e (.cons Z0m (.cons Z78 (.nil))))))) Tryz.func32 Tryz.call32 [.row 23 1 (.ints .u32)] [] 2
end
noncomputable section
instance Sa {α β:Type} [Inhabited β]:Inhabited (α⊕β):=⟨.inr default⟩
def VJ(b:List Int):(List Int):=
b
def Qbt(b:List Int):List D:=[.ptr 0 0 0]
def Qbm(b:List Int):List Row:=[⟨true,293,2,.gen [[.c8 0,.all 1]]⟩,⟨false,5,1,.ints .u8 b⟩]
def Q74(X:List Int):D:=.dt []
def Q77(X:List Int):List Row:=[⟨true,293,2,.gen [[.c8 0,.all 1]]⟩,⟨false,5,1,.ints .u8 X⟩]
def Qck:List PT:=[.ptr 0]
def Qbn:List RT:=[.box 293 2 [.self 0,.row 1],.arr 5 1 (.ints .u8)]
def Qme(args:List D)(rows:List Row):(List Int):=VJ (gj .u8 rows 1)
def Qpq:bc:=ED 301 [true] true Qck Qbn Qme Q74 Q77
theorem Qk(b:List Int):Q3 pG 301 (Qbt b) (Qbm b) (Q74 (VJ b)) (Q77 (VJ b)):=by
 exact qI (ρ:=Tryz.jR) {Tryz.rF with} Tryz.ja.toX72 (by kernel_rfl) _
set_option maxRecDepth 100000 in
theorem Qkh(args:List D)(rows:List Row):me Qck args 0=Qbt (gj .u8 rows 1):=by kernel_rfl
set_option maxRecDepth 100000 in
theorem Qjx(args:List D)(rows:List Row):lr Qbn rows 0=Qbm (gj .u8 rows 1):=by kernel_rfl
set_option maxRecDepth 100000 in
theorem Qne(X:List Int):(uZ (Q74 X)&&jH (Q77 X))=true:=by kernel_rfl
theorem Qnd:bj pG Qpq:=xac Tryz.call301 (λa r=>by rw[Qkh a r,Qjx a r];exact Qk (gj .u8 r 1)) (λ_ X=>Qne X)
def O3(b:List Int)(s:List UInt8):Tree (Int×Unit×(List Int)):=
.lv (VJ b) λ(x0:List Int)=>.cn (decide (1*(x0.length+dK (Q2 s))<=140737488355328)) (.lf ((s.length:Int),(),x0++Q2 s))
def Q98 b s:=(O3 b s).m
abbrev Q6b b s:=(O3 b s).p
def Qm8:bc:=lW 1 258 [true,false] [.ptr 0,.one (.str)] [.box 293 2 [.self 0,.row 1],.arr 5 1 (.ints .u8)] (λa r=>Q6b (gj .u8 r 1) (il a 1)) (λa r=>Q98 (gj .u8 r 1) (il a 1)) (λX=>.dt [.int .i64 (X.1),.jI]) (λX=>[⟨true,293,2,.gen [[.c8 0,.all 1]]⟩,⟨false,5,1,.ints .u8 (X.2.2)⟩])
theorem Qbl:bj pG Qm8:=Eu drawn mN (.cons Qnd (.nil)) Tryz.func258 Tryz.call258 (λa r=>O3 (gj .u8 r 1) (il a 1)) [.row 5 1 (.ints .u8)] [] 2 (λ_ _ _=>by kernel_rfl) (λ_ _=>rfl) (λ_ _ h=>h)
def Qeu(x:Int)(z:(Int)×(List Int)):Nat:=z.1.toNat
def O1(x:Int):Tree (List UInt8):=
.lp inferInstance (Qeu x (x,[])+1) ((rE (x:Int)/\True/\True)/\rE ([]:List Int)/\True) (x,[]) λ(v0:Int×List Int)=>let E1:=decide (1*(v0.2.length+1)<=140737488355328);.br (decide (v0.1>=128)) (.cn E1 (.nx ((rE ((bg u64 v0.1 7):Int)/\True/\True)/\rE ((v0.2++[iq u8 (wrap u8 v0.1) 128]):List Int)/\True) (Sum.inl (bg u64 v0.1 7,v0.2++[iq u8 (wrap u8 v0.1) 128])))) (.cn E1 (.lf (Sum.inr (bytesOf (v0.2++[wrap u8 v0.1])))))
def Qom x:=(O1 x).m
abbrev Qis x:=(O1 x).p
def Qua:bu:={
 α:=(Int)×(List Int)
 F:=λst a=>([(0,.int u64 a.1),(3,.all 0)],[⟨false,5,1,.ints u8 a.2⟩])
 a0:=λst=>((lk st 0).toInt,(oP st.rows (rN st 3)))
 jn:=λst=>[]++[(rX st 3 0)]}
def Qr:List (Nat×bu):=[(2,Qua)]
def Qwe:bc:=mT 286 [] true [.one (.int .u64)] [] (λa r=>O1 (aq a 0)) (λX=>.str X) (λX=>[])
theorem Qul:bj pG Qwe:=oT (.nil) Tryz.func286 Tryz.call286 [] Qr 3
def Q9g(c list:List Int)(z:(Int)×(List Int)):Nat:=(list.length-z.1).toNat
def O4(c list:List Int):Tree (List Int):=
.lp inferInstance (Q9g c list (0,c)+1) ((rZ/\((ao.Nil (ao.ints u64 list)\/rE (1:Nat))/\rE (list:List Int))/\rE ((list.length:Int):Int)/\rE (0:Int)/\True)/\(True/\True/\True)/\rE (c:List Int)/\True) (0,c) λ(v0:Int×List Int)=>.br (decide (v0.1<(list.length:Int))) (.cn (bT 1 1&&bJ 0 1&&decide (0<=v0.1/\v0.1<(list.length:Int))) (.an (Qis (list.getD v0.1.toNat 0)) (.lv (Qom (list.getD v0.1.toNat 0)) λ(x0:List UInt8)=>.an (Q6b v0.2 x0) (.lv (Q98 v0.2 x0) λ(x1:Int×Unit×List Int)=>.nx ((rZ/\((ao.Nil (ao.ints u64 list)\/rE (1:Nat))/\rE (list:List Int))/\rE ((list.length:Int):Int)/\rE ((wrap i64 (v0.1+1)):Int)/\True)/\(True/\True/\True)/\rE x1.2.2/\True) (Sum.inl (wrap i64 (v0.1+1),x1.2.2)))))) (.lf (Sum.inr v0.2))
def H6 c list:=(O4 c list).m
abbrev H7 c list:=(O4 c list).p
def Qk8:bu:={
 α:=(Int)×(List Int)
 F:=λst a=>([(0,.ptr 0 0 0),(6,(lk st 6)),(7,(lk st 7)),(8,.int i64 a.1)],[⟨true,293,2,.gen [[.c8 0,.all 1]]⟩,⟨false,5,1,.ints u8 a.2⟩])
 a0:=λst=>((lk st 8).toInt,(oP st.rows (lz (iQ st.rows 0 1) 1000000)))
 jn:=λst=>[0]++[(lz (iQ st.rows 0 1) (st.rows.length+1))]}
def Qj:List (Nat×bu):=[(1,Qk8)]
def Qlw:bc:=lW 1 227 [true,false] [.ptr 0,.one (.ints .u64)] [.box 293 2 [.self 0,.row 1],.arr 5 1 (.ints .u8)] (λa r=>H7 (gj .u8 r 1) (eh .u64 a 1)) (λa r=>H6 (gj .u8 r 1) (eh .u64 a 1)) (λX=>.dt []) (λX=>[⟨true,293,2,.gen [[.c8 0,.all 1]]⟩,⟨false,5,1,.ints .u8 X⟩])
theorem VK:bj pG Qlw:=Eu drawn mN (.cons Qbl (.cons Qul (.nil))) Tryz.func227 Tryz.call227 (λa r=>O4 (gj .u8 r 1) (eh .u64 a 1)) [.row 5 1 (.ints .u8)] Qj 3 (λ_ _ _=>by kernel_rfl) (λ_ _=>rfl) (λ_ _ h=>h)
def Qac(c list:List Int)(z:(Int)×(List Int)):Nat:=(list.length-z.1).toNat
def O5(c list:List Int):Tree (List Int):=
.lp inferInstance (Qac c list (0,c)+1) ((rZ/\((ao.Nil (ao.ints u32 list)\/rE (1:Nat))/\rE (list:List Int))/\rE ((list.length:Int):Int)/\rE (0:Int)/\True)/\(True/\True/\True)/\rE (c:List Int)/\True) (0,c) λ(v0:Int×List Int)=>.br (decide (v0.1<(list.length:Int))) (.cn (bT 1 1&&bJ 0 1&&decide (0<=v0.1/\v0.1<(list.length:Int))) (.an (H7 v0.2 [wrap u64 (list.getD v0.1.toNat 0)]) (.lv (H6 v0.2 [wrap u64 (list.getD v0.1.toNat 0)]) λ(x0:List Int)=>.nx ((rZ/\((ao.Nil (ao.ints u32 list)\/rE (1:Nat))/\rE (list:List Int))/\rE ((list.length:Int):Int)/\rE ((wrap i64 (v0.1+1)):Int)/\True)/\(True/\True/\True)/\rE (x0:List Int)/\True) (Sum.inl (wrap i64 (v0.1+1),x0))))) (.lf (Sum.inr v0.2))
def BA c list:=(O5 c list).m
abbrev BB c list:=(O5 c list).p
def Qno:bu:={
 α:=(Int)×(List Int)
 F:=λst a=>([(0,.ptr 0 0 0),(6,(lk st 6)),(7,(lk st 7)),(8,.int i64 a.1)],[⟨true,293,2,.gen [[.c8 0,.all 1]]⟩,⟨false,5,1,.ints u8 a.2⟩])
 a0:=λst=>((lk st 8).toInt,(oP st.rows (lz (iQ st.rows 0 1) 1000000)))
 jn:=λst=>[0]++[(lz (iQ st.rows 0 1) (st.rows.length+1))]}
def Ql8:List (Nat×bu):=[(1,Qno)]
def Qoi:bc:=lW 1 226 [true,false] [.ptr 0,.one (.ints .u32)] [.box 293 2 [.self 0,.row 1],.arr 5 1 (.ints .u8)] (λa r=>BB (gj .u8 r 1) (eh .u32 a 1)) (λa r=>BA (gj .u8 r 1) (eh .u32 a 1)) (λX=>.dt []) (λX=>[⟨true,293,2,.gen [[.c8 0,.all 1]]⟩,⟨false,5,1,.ints .u8 X⟩])
theorem Qnj:bj pG Qoi:=Eu drawn mN (.cons VK (.nil)) Tryz.func226 Tryz.call226 (λa r=>O5 (gj .u8 r 1) (eh .u32 a 1)) [.row 5 1 (.ints .u8)] Ql8 3 (λ_ _ _=>by kernel_rfl) (λ_ _=>rfl) (λ_ _ h=>h)
def O7(c:List Int)(s:List UInt8):Tree (List Int):=
.an (H7 c [wrap u64 (s.length:Int)]) (.lv (H6 c [wrap u64 (s.length:Int)]) λ(x0:List Int)=>.an (Q6b x0 s) (.lv (Q98 x0 s) λ(x1:Int×Unit×List Int)=>.lf x1.2.2))
def Qbg c s:=(O7 c s).m
abbrev Q75 c s:=(O7 c s).p
def Qo7:bc:=lW 1 228 [true,false] [.ptr 0,.one (.str)] [.box 293 2 [.self 0,.row 1],.arr 5 1 (.ints .u8)] (λa r=>Q75 (gj .u8 r 1) (il a 1)) (λa r=>Qbg (gj .u8 r 1) (il a 1)) (λX=>.dt []) (λX=>[⟨true,293,2,.gen [[.c8 0,.all 1]]⟩,⟨false,5,1,.ints .u8 X⟩])
theorem Qng:bj pG Qo7:=Eu drawn mN (.cons VK (.cons Qbl (.nil))) Tryz.func228 Tryz.call228 (λa r=>O7 (gj .u8 r 1) (il a 1)) [.row 5 1 (.ints .u8)] [] 2 (λ_ _ _=>by kernel_rfl) (λ_ _=>rfl) (λ_ _ h=>h)
def O6(c:List Int)(DB:Bool):Tree (List Int):=
.br DB (.an (H7 c [1]) (.lv (H6 c [1]) λ(x0:List Int)=>.lf x0)) (.an (H7 c [0]) (.lv (H6 c [0]) λ(x1:List Int)=>.lf x1))
def Kj c DB:=(O6 c DB).m
abbrev Kk c DB:=(O6 c DB).p
def Qr1:bc:=lW 1 229 [true,false] [.ptr 0,.one (.bool)] [.box 293 2 [.self 0,.row 1],.arr 5 1 (.ints .u8)] (λa r=>Kk (gj .u8 r 1) (uT a 1)) (λa r=>Kj (gj .u8 r 1) (uT a 1)) (λX=>.dt []) (λX=>[⟨true,293,2,.gen [[.c8 0,.all 1]]⟩,⟨false,5,1,.ints .u8 X⟩])
theorem Qph:bj pG Qr1:=Eu drawn mN (.cons VK (.nil)) Tryz.func229 Tryz.call229 (λa r=>O6 (gj .u8 r 1) (uT a 1)) [.row 5 1 (.ints .u8)] [] 2 (λ_ _ _=>by kernel_rfl) (λ_ _=>rfl) (λ_ _ h=>h)
def VL(b:List Int):((List UInt8)×(List Int)):=
(bytesOf b,b)
def Qf7(b:List Int):List D:=[.ptr 0 0 0]
def Qep(b:List Int):List Row:=[⟨true,293,2,.gen [[.c8 0,.all 1]]⟩,⟨false,5,1,.ints .u8 b⟩]
def Qfx(X:((List UInt8)×(List Int))):D:=.str (X.1)
def Qg0(X:((List UInt8)×(List Int))):List Row:=[⟨true,293,2,.gen [[.c8 0,.sl 1 (.ints .u8 X.2) false]]⟩]
def Qft:List PT:=[.ptr 0]
def Qew:List RT:=[.box 293 2 [.self 0,.row 1],.arr 5 1 (.ints .u8)]
def Qqu(args:List D)(rows:List Row):((List UInt8)×(List Int)):=VL (gj .u8 rows 1)
def Qtt:bc:=Vo 1 230 [true] Qft Qew Qqu Qfx Qg0
theorem Qnf(b:List Int):sF pG 230 1 (Qf7 b) (Qep b) (Qfx (VL b)) (Qg0 (VL b)):=by
 exact ye (ρ:=Tryz.jR) (by decide) {Tryz.rF with} Tryz.ja _
set_option maxRecDepth 100000 in
theorem Qnp(args:List D)(rows:List Row):me Qft args 0=Qf7 (gj .u8 rows 1):=by kernel_rfl
set_option maxRecDepth 100000 in
theorem Qnk(args:List D)(rows:List Row):lr Qew rows 0=Qep (gj .u8 rows 1):=by kernel_rfl
theorem Qsm:bj pG Qtt:=zaR (λ_=>Tryz.call230) (λa r=>by rw[Qnp a r,Qnk a r];exact Qnf (gj .u8 r 1))
def Pb(m:au):Tree (List UInt8):=
.an (BB [] [m.B1.X.a0,m.B1.X.a1,m.B1.X.a2,m.B1.X.a3,m.B1.X.a4,m.B1.X.a5,m.B1.X.a6,m.B1.X.a7,m.B1.X.a8,m.B1.X.a9,m.B1.X.kq,m.B1.X.kr,m.B1.X.a12,m.B1.X.ku,m.B1.X.kv,m.B1.X.ky]) (.lv (BA [] [m.B1.X.a0,m.B1.X.a1,m.B1.X.a2,m.B1.X.a3,m.B1.X.a4,m.B1.X.a5,m.B1.X.a6,m.B1.X.a7,m.B1.X.a8,m.B1.X.a9,m.B1.X.kq,m.B1.X.kr,m.B1.X.a12,m.B1.X.ku,m.B1.X.kv,m.B1.X.ky]) λ(x0:List Int)=>.an (BB x0 [m.B1.Pc]) (.lv (BA x0 [m.B1.Pc]) λ(x1:List Int)=>.an (BB x1 [m.B1.B4.a0,m.B1.B4.a1,m.B1.B4.a2,m.B1.B4.a3,m.B1.B4.a4,m.B1.B4.a5,m.B1.B4.a6,m.B1.B4.a7]) (.lv (BA x1 [m.B1.B4.a0,m.B1.B4.a1,m.B1.B4.a2,m.B1.B4.a3,m.B1.B4.a4,m.B1.B4.a5,m.B1.B4.a6,m.B1.B4.a7]) λ(x2:List Int)=>.an (H7 x2 [wrap u64 (m.Mem.length:Int)]) (.lv (H6 x2 [wrap u64 (m.Mem.length:Int)]) λ(x3:List Int)=>.an (BB x3 m.Mem) (.lv (BA x3 m.Mem) λ(x4:List Int)=>.an (Q75 x4 m.A3.D1) (.lv (Qbg x4 m.A3.D1) λ(x5:List Int)=>.an (Kk x5 m.A9.D4) (.lv (Kj x5 m.A9.D4) λ(x6:List Int)=>.an (BB x6 [m.A9.C4]) (.lv (BA x6 [m.A9.C4]) λ(x7:List Int)=>.an (Kk x7 m.A9.D3) (.lv (Kj x7 m.A9.D3) λ(x8:List Int)=>.an (BB x8 [m.A7.ag,m.A7.C1,m.A7.Frame]) (.lv (BA x8 [m.A7.ag,m.A7.C1,m.A7.Frame]) λ(x9:List Int)=>.an (H7 x9 [wrap u64 m.A7.B7,wrap u64 m.A7.D5]) (.lv (H6 x9 [wrap u64 m.A7.B7,wrap u64 m.A7.D5]) λ(jM:List Int)=>.an (BB jM [m.A7.B6,m.A7.B2]) (.lv (BA jM [m.A7.B6,m.A7.B2]) λ(mr:List Int)=>.an (Q75 mr m.A7.B8) (.lv (Qbg mr m.A7.B8) λ(kS:List Int)=>.an (BB kS [m.C3.Frame,m.C3.E0]) (.lv (BA kS [m.C3.Frame,m.C3.E0]) λ(lU:List Int)=>.an (Kk lU m.C3.C5) (.lv (Kj lU m.C3.C5) λ(uz:List Int)=>.an (BB uz [m.C3.B9]) (.lv (BA uz [m.C3.B9]) λ(Jr:List Int)=>.an (Kk Jr m.C3.B5) (.lv (Kj Jr m.C3.B5) λ(uA:List Int)=>.an (BB uA [m.C3.F1]) (.lv (BA uA [m.C3.F1]) λ(Hg:List Int)=>.an (BB Hg [m.A2.C6,m.A2.C2]) (.lv (BA Hg [m.A2.C6,m.A2.C2]) λ(Hh:List Int)=>.an (H7 Hh [m.A1]) (.lv (H6 Hh [m.A1]) λ(Ue:List Int)=>.an (Kk Ue m.A4) (.lv (Kj Ue m.A4) λ(Uf:List Int)=>.an (Kk Uf m.A6) (.lv (Kj Uf m.A6) λ(FC:List Int)=>.lv (VL FC) λ(FD:List UInt8×List Int)=>.lf FD.1))))))))))))))))))))))
def YD m:=(Pb m).m
abbrev Qjq m:=(Pb m).p
def Z04:bc:=mT 150 [] true [.agg au.sig] [] (λa r=>Pb (au.of (aC a 0))) (λX=>.str X) (λX=>[])
theorem Qwd:bj pG Z04:=oT (.cons Qnj (.cons VK (.cons Qng (.cons Qph (.cons Qsm (.nil)))))) Tryz.func150 Tryz.call150 [] [] 2
def Qs0(h0:Int)(s:List UInt8)(z:(Int)×(Int)):Prop:=0<=z.2/\z.2<=s.length
def Qhz(h0:Int)(s:List UInt8)(z:(Int)×(Int)):Nat:=(s.length-z.2).toNat
def VM(h0:Int)(s:List UInt8):Tree Int:=
.lp inferInstance (Qhz h0 s (h0,0)+1) ((rE (h0:Int)/\rE (s:List UInt8)/\rE ((s.length:Int):Int)/\rE (0:Int)/\True)/\True) (h0,0) λ(v0:Int×Int)=>.br (decide (v0.2<(s.length:Int))) (.cn (decide (0<=v0.2/\v0.2<(s.length:Int))) (.nx ((rE ((wrap u64 (jN u64 v0.1 (wrap u64 (↑(eW (s.getD v0.2.toNat (0:UInt8))):Int))*1099511628211)):Int)/\rE (s:List UInt8)/\rE ((s.length:Int):Int)/\rE ((wrap i64 (v0.2+1)):Int)/\True)/\True) (Sum.inl (wrap u64 (jN u64 v0.1 (wrap u64 (↑(eW (s.getD v0.2.toNat (0:UInt8))):Int))*1099511628211),wrap i64 (v0.2+1))))) (.lf (Sum.inr v0.1))
def Pe h0 s:=(VM h0 s).m
def VN(h0:Int)(s:List UInt8):Prop:=
s.length<=1000000000000
theorem Zau(h0:Int)(s:List UInt8)(hw:VN h0 s):(VM h0 s).p:=by
 simp only[VN]at hw
 unfold Tree.p VM
 repeat'(first|refine fy (inv:=Qs0 h0 s) (μ:=Qhz h0 s) ?_ (cO _) (λ_ _=>?_)|exact trivial|refine aa (λ_=>?_) (λ_=>?_)|refine ba ?_ ?_|refine cz ?_ ?_|refine ar (λ_ _=>?_)|refine fg ?_|refine ey ?_|refine And.intro ?_ ?_)
 all_goals((try simp only[Qs0,Qhz]at*);exact oI)
def Zgl:bu:={
 α:=(Int)×(Int)
 F:=λst a=>([(0,.int u64 a.1),(1,(lk st 1)),(7,(lk st 7)),(8,.int i64 a.2)],[])
 a0:=λst=>((lk st 0).toInt,(lk st 8).toInt)
 jn:=λst=>[]++[]}
def Z6h:List (Nat×bu):=[(2,Zgl)]
def Zja:bc:=mM 149 [] true [.one (.int .u64),.one (.str)] [] (λa r=>VN (aq a 0) (il a 1)) (λa r=>Pe (aq a 0) (il a 1)) (λX=>.int .u64 X) (λX=>[])
theorem Zf0:bj pG Zja:=u5 drawn mN (.nil) Tryz.func149 Tryz.call149 (λa r=>VM (aq a 0) (il a 1)) [] Z6h 3 (hp:=λa r h=>Zau (aq a 0) (il a 1) h)
def Pg(m:au):Tree Int:=
.an (Qjq m) (.lv (YD m) λ(x0:List UInt8)=>.an (VN 14695981039346656037 x0) (.lv (Pe 14695981039346656037 x0) λ(x1:Int)=>.lf x1))
def Ui m:=(Pg m).m
abbrev Uh m:=(Pg m).p
def Z7q:bc:=mT 93 [] true [.agg au.sig] [] (λa r=>Pg (au.of (aC a 0))) (λX=>.int .u64 X) (λX=>[])
theorem Qok:bj pG Z7q:=oT (.cons Zf0 (.cons Qwd (.nil))) Tryz.func93 Tryz.call93 [] [] 2
end
noncomputable section
instance Sb {α β:Type} [Inhabited β]:Inhabited (α⊕β):=⟨.inr default⟩
def Qpe(h0:Int)(s:List UInt8)(z:(Int)×(Int)):Nat:=(s.length-z.2).toNat
def YC(h0:Int)(s:List UInt8):Tree Int:=
.lp inferInstance (Qpe h0 s (h0,0)+1) ((rE (h0:Int)/\rE (s:List UInt8)/\rE (0:Int)/\True)/\True) (h0,0) λ(v0:Int×Int)=>.br (decide (v0.2<(s.length:Int))) (.cn (decide (0<=v0.2/\v0.2<(s.length:Int))) (.nx ((rE ((wrap u64 (jN u64 v0.1 (wrap u64 (↑(eW (s.getD v0.2.toNat (0:UInt8))):Int))*1099511628211)):Int)/\rE (s:List UInt8)/\rE ((wrap i64 (v0.2+1)):Int)/\True)/\True) (Sum.inl (wrap u64 (jN u64 v0.1 (wrap u64 (↑(eW (s.getD v0.2.toNat (0:UInt8))):Int))*1099511628211),wrap i64 (v0.2+1))))) (.lf (Sum.inr v0.1))
def Pf h0 s:=(YC h0 s).m
end
noncomputable section
instance Sc {α β:Type} [Inhabited β]:Inhabited (α⊕β):=⟨.inr default⟩
def Qla(script:List eu)(z:(Int)):Prop:=1<=z/\(z<=script.length\/z=1)
def Mf(script:List eu)(z:(Int)):Nat:=(script.length-z).toNat
def Me(script:List eu):Tree Bool:=
.lp inferInstance (Mf script 1+1) ((nR RK.ab 4 script/\rE (1:Int)/\True)/\True) 1 λ(v0:Int)=>.br (decide (v0<(script.length:Int))) (.cn (bT 4 4&&bJ 0 4&&decide (0<=wrap i64 (v0-1)/\wrap i64 (v0-1)<(script.length:Int))) (.cn (bT 4 4&&bJ 0 4&&decide (0<=v0/\v0<(script.length:Int))) (let E2:=script.getD (dF (wrap i64 (v0-1))) (RK.cq RK.ab);let E3:=script.getD v0.toNat (RK.cq RK.ab);.br (decide (E3.At<E2.At)) (.lf (Sum.inr false)) (let T1:Tree ((Int)⊕(Bool)):=.nx ((nR RK.ab 4 script/\rE ((wrap i64 (v0+1)):Int)/\True)/\True) (Sum.inl (wrap i64 (v0+1)));.br (E3.At==E2.At) (.br (E2.C8.C0==1) (.lf (Sum.inr false)) T1) T1)))) (.lf (Sum.inr true))
def Qz script:=(Me script).m
def VO(script:List eu):Prop:=
script.length<=1000000000000
theorem Z09(script:List eu)(hw:VO script):(Me script).p:=by
 simp only[VO]at hw
 unfold Tree.p Me
 repeat'(first|refine fy (inv:=Qla script) (μ:=Mf script) ?_ (cO _) (λ_ _=>?_)|exact trivial|refine aa (λ_=>?_) (λ_=>?_)|refine ba ?_ ?_|refine cz ?_ ?_|refine ar (λ_ _=>?_)|refine fg ?_|refine ey ?_|refine And.intro ?_ ?_)
 all_goals((try simp only[Qla,Mf]at*);exact oI)
def Z54:bu:={
 α:=(Int)
 F:=λst a=>([(0,(lk st 0)),(3,.int i64 a)],[])
 a0:=λst=>(lk st 3).toInt
 jn:=λst=>[]++[]}
def Qx7:List (Nat×bu):=[(2,Z54)]
def Z5q:bc:=mM 268 [] true [.one (.av .ab)] [] (λa r=>VO (jh .ab a 0)) (λa r=>Qz (jh .ab a 0)) (λX=>.bool X) (λX=>[])
theorem Z24:bj pG Z5q:=u5 drawn mN (.nil) Tryz.func268 Tryz.call268 (λa r=>Me (jh .ab a 0)) [] Qx7 3 (hp:=λa r h=>Z09 (jh .ab a 0) h)
def Qmu(m:au)(script:List eu)(df:Int)(z:(Int)):Nat:=(script.length-z).toNat
def Pm(m:au)(script:List eu)(df:Int):Tree Int:=
.an (RM m) (.lv (mZ m) λ(x0:Bool)=>.br (!x0) (.lf 1300) (.br (decide (df<m.A1)) (.lf 1300) (.br (decide (wrap u64 (df-m.A1)>4000)) (.lf 1300) (.br (decide ((script.length:Int)>(400:Int))) (.lf 1300) (.an (VO script) (.lv (Qz script) λ(x1:Bool)=>.br (!x1) (.lf 1301) (.lp inferInstance (Qmu m script df 0+1) ((rZ/\nR RK.ab 4 script/\rE ((script.length:Int):Int)/\rE (0:Int)/\True)/\(mE m (((ao.Nil (ao.ints u32 m.Mem)\/rE (1:Nat))/\rE m.Mem)) True)/\True) 0 λ(v0:Int)=>.br (decide (v0<(script.length:Int))) (.cn (bT 4 4&&bJ 0 4&&decide (0<=v0/\v0<(script.length:Int))) (.br (decide ((script.getD v0.toNat (RK.cq RK.ab)).At<m.A1)) (.lf (Sum.inr 1301)) (.nx ((rZ/\nR RK.ab 4 script/\rE ((script.length:Int):Int)/\rE ((wrap i64 (v0+1)):Int)/\True)/\(mE m (((ao.Nil (ao.ints u32 m.Mem)\/rE (1:Nat))/\rE m.Mem)) True)/\True) (Sum.inl (wrap i64 (v0+1)))))) (.lf (Sum.inr 0)))))))))
def Z93 m script df:=(Pm m script df).m
abbrev Qrt m script df:=(Pm m script df).p
def Zb0:bu:={
 α:=(Int)
 F:=λst a=>([(3,.ptr 0 0 0),(33,(lk st 33)),(34,(lk st 34)),(35,.int i64 a)],[⟨true,42,49,.gen [mB (cT st 3)]⟩])
 a0:=λst=>(lk st 35).toInt
 jn:=λst=>[]++[(rX st 3 0)]}
def Z3x:List (Nat×bu):=[(6,Zb0)]
def Zig:bc:=mT 202 [] true [.agg au.sig,.one (.av .ab),.one (.int .u64)] [] (λa r=>Pm (au.of (aC a 0)) (jh .ab a 1) (aq a 2)) (λX=>.int .i64 X) (λX=>[])
theorem Zcg:bj pG Zig:=oT (.cons Qjt (.cons Z24 (.nil))) Tryz.func202 Tryz.call202 [] Z3x 3
def Qrl(m:au)(script:List eu)(df:Int)(z:(Int)×au×(List dx)):Nat:=(df-z.2.1.A1).toNat
def Qrp(m:au)(script:List eu)(df:Int)(v0:Int×au×List dx)(z:(Int)×au):Nat:=(script.length-z.1).toNat
def Pn(m:au)(script:List eu)(df:Int):Tree (au×(List dx)×Int×Int):=
.an (Qrt m script df) (.lv (Z93 m script df) λ(x0:Int)=>let E4:=({B1:={X:={a0:=0,a1:=0,a2:=0,a3:=0,a4:=0,a5:=0,a6:=0,a7:=0,a8:=0,a9:=0,kq:=0,kr:=0,a12:=0,ku:=0,kv:=0,ky:=0},Pc:=0,B4:={a0:=0,a1:=0,a2:=0,a3:=0,a4:=0,a5:=0,a6:=0,a7:=0}},Mem:=[],A3:={D1:=[]},A9:={D4:=false,C4:=0,D3:=false},A7:={ag:=0,C1:=0,Frame:=0,B7:=0,D5:=0,B6:=0,B2:=0,B8:=[]},C3:={Frame:=0,E0:=0,C5:=false,B9:=0,B5:=false,F1:=0},A2:={C6:=0,C2:=0},A1:=0,A4:=false,A6:=false}:au);.br (x0 !=0) (.lf (E4,[],0,x0)) (.an (mJ m.Mem) (.lv (jC m.Mem) λ(x1:List Int)=>let E7:=({B1:=m.B1,Mem:=x1,A3:=m.A3,A9:=m.A9,A7:=m.A7,C3:=m.C3,A2:=m.A2,A1:=m.A1,A4:=m.A4,A6:=m.A6}:au);.lp inferInstance (Qrl m script df (0,E7,[])+1) ((nR RK.ab 4 script/\rE (df:Int)/\rZ/\rZ/\True/\rE (0:Int)/\rE (0:Int)/\True)/\(mE m (rE (x1:List Int)) True)/\(mE zM True True)/\rE ([]:List (RK.T RK.ay))/\True) (0,E7,[]) λ(v0:Int×au×List dx)=>.br (decide (v0.2.1.A1<df)) (.br (decide (v0.2.1.A1<1152921504606846976)) (.lp inferInstance (Qrp m script df v0 (v0.1,v0.2.1)+1) ((nR RK.ab 4 script/\rE (df:Int)/\rZ/\rZ/\True/\rE (0:Int)/\rE v0.1/\(rE (0:Nat)/\rE (46:Nat))/\rE v0.2.1.A1/\rE ((decide (v0.2.1.A1<1152921504606846976)):Bool)/\True)/\(mE v0.2.1 (((ao.Nil (ao.ints u32 v0.2.1.Mem)\/oH Nat 1 1)/\rE v0.2.1.Mem)) True)/\(mE zM True True)/\rE v0.2.2/\True) (v0.1,v0.2.1) λ(v1:Int×au)=>let E5:=bT 4 4&&bJ 0 4&&decide (0<=v1.1/\v1.1<(script.length:Int));let E6:=script.getD v1.1.toNat (RK.cq RK.ab);let E8:=decide (v1.1<(script.length:Int));let T1:Tree ((Int×au)⊕((Int×au×List dx)⊕((au×(List dx)×Int×Int)))):=.br v1.2.A6 (.lf (Sum.inr (Sum.inr (v1.2,v0.2.2,v1.1,0)))) (.an (Yo v1.2) (.lv (Ll v1.2) λ(x3:Bool)=>.br x3 (.br E8 (.lf (Sum.inr (Sum.inr (E4,[],0,1303)))) (.lf (Sum.inr (Sum.inr (v1.2,v0.2.2,v1.1,0))))) (let T2:Tree ((Int×au)⊕((Int×au×List dx)⊕((au×(List dx)×Int×Int)))):=.an (OR v1.2 0) (.lv (AK v1.2 0) λ(x6:au×List dx)=>.cn (decide (40*(v0.2.2.length+x6.2.length)<=140737488355328)) (.nx ((nR RK.ab 4 script/\rE (df:Int)/\rZ/\rZ/\True/\rE (0:Int)/\rE v1.1/\True)/\(mE x6.1 (((ao.Nil (ao.ints u32 x6.1.Mem)\/rE (1:Nat))/\rE x6.1.Mem)) True)/\(mE zM True True)/\rE ((v0.2.2++x6.2):List (RK.T RK.ay))/\True) (Sum.inr (Sum.inl (v1.1,x6.1,v0.2.2++x6.2)))));let T3:Tree ((Int×au)⊕((Int×au×List dx)⊕((au×(List dx)×Int×Int)))):=.lf (Sum.inr (Sum.inr (E4,[],0,1302)));.br E8 (.cn E5 (.an (Q8d v1.2) (.lv (OW v1.2) λ(x4:Bool)=>.br (!x4==(E6.At==v1.2.A1)) T3 (.br (E6.At==v1.2.A1) (.cn E5 (.an (OR v1.2 E6.C8.N) (.lv (AK v1.2 E6.C8.N) λ(x5:au×List dx)=>.cn (decide (40*(v0.2.2.length+x5.2.length)<=140737488355328)) (.nx ((nR RK.ab 4 script/\rE (df:Int)/\rZ/\rZ/\True/\rE (0:Int)/\rE ((wrap i64 (v1.1+1)):Int)/\True)/\(mE x5.1 (((ao.Nil (ao.ints u32 x5.1.Mem)\/rE (1:Nat))/\rE x5.1.Mem)) True)/\(mE zM True True)/\rE ((v0.2.2++x5.2):List (RK.T RK.ay))/\True) (Sum.inr (Sum.inl (wrap i64 (v1.1+1),x5.1,v0.2.2++x5.2))))))) T2)))) (.an (Q8d v1.2) (.lv (OW v1.2) λ(x7:Bool)=>.br (!x7==false) T3 T2)))));.br E8 (.cn E5 (.br (E6.At==v1.2.A1) (.cn E5 (.br (E6.C8.C0 !=1) (.cn E5 (.an (Qdh v1.2 E6.C8) (.lv (LZ v1.2 E6.C8) λ(x2:au×Bool)=>.nx ((nR RK.ab 4 script/\rE (df:Int)/\rZ/\rZ/\True/\rE (0:Int)/\rE ((wrap i64 (v1.1+1)):Int)/\(rE (0:Nat)/\rE (46:Nat))/\rE v0.2.1.A1/\rE ((decide (v0.2.1.A1<1152921504606846976)):Bool)/\True)/\(mE x2.1 (rE x2.1.Mem) True)/\(mE zM True True)/\rE v0.2.2/\True) (Sum.inl (wrap i64 (v1.1+1),x2.1))))) T1)) T1)) T1) (.lf (Sum.inr (v0.2.1,v0.2.2,v0.1,0)))) (.lf (Sum.inr (v0.2.1,v0.2.2,v0.1,0))))))
def VP m script df:=(Pn m script df).m
abbrev PB m script df:=(Pn m script df).p
def Zl7:bu:={
 α:=(Int)×au×(List dx)
 F:=λst a=>([(1,(lk st 1)),(2,(lk st 2)),(3,.ptr 0 0 0),(6,.ptr 1 0 0),(11,.all 2),(12,(lk st 12)),(13,.int i64 a.1)],[⟨true,42,49,.gen [mD a.2.1 (.sl 1 (.ints u32 a.2.1.Mem) false)]⟩,⟨true,42,49,.gen [mB (cT st 6)]⟩,⟨false,137,4,.av RK.ay a.2.2⟩])
 a0:=λst=>((lk st 13).toInt,(mR (cT st 3) (Nq u32 st.rows (cT st 3 25))),(tz RK.ay st.rows (rN st 11)))
 jn:=λst=>[]++[(rX st 3 0),(rX st 6 1),(rX st 11 2)]}
def Zlj:bu:={
 α:=(Int)×au
 F:=λst a=>([(1,(lk st 1)),(2,(lk st 2)),(3,.ptr 0 0 0),(6,.ptr 1 0 0),(11,.all 2),(12,(lk st 12)),(13,.int i64 a.1),(34,.ptr 0 0 46),(35,(lk st 35)),(36,(lk st 36))],[⟨true,42,49,.gen [mD a.2 (.sl 1 (.ints u32 a.2.Mem) false)]⟩,⟨true,42,49,.gen [mB (cT st 6)]⟩,⟨false,137,4,ph st.rows (rN st 11)⟩])
 a0:=λst=>((lk st 13).toInt,(mR (cT st 3) (Nq u32 st.rows (cT st 3 25))))
 jn:=λst=>[]++[(rX st 3 0),(rX st 6 1),(rX st 11 2)]}
def Zcy:List (Nat×bu):=[(8,Zl7),(9,Zlj)]
def Zpy:bc:=bc.fz<|mM 138 [] false [.agg au.sig,.one (.av .ab),.one (.int .u64)] [] (λa r=>PB (au.of (aC a 0)) (jh .ab a 1) (aq a 2)) (λa r=>VP (au.of (aC a 0)) (jh .ab a 1) (aq a 2)) (λX=>.dt [.agg (au.cells (X.1)),.all 0,.int .i64 (X.2.2.1),.int .i64 (X.2.2.2)]) (λX=>[⟨false,137,4,.av .ay (X.2.1)⟩])
theorem Qtc:bj pG Zpy:=MK<|u5 drawn mN (.cons Zcg (.cons Ew (.cons Qzw (.cons Qp9 (.cons Qo8 (.cons Z5c (.nil))))))) Tryz.func138 Tryz.call138 (λa r=>Pn (au.of (aC a 0)) (jh .ab a 1) (aq a 2)) [.sl (.ints .u32) false,.row 137 4 (.av .ay)] Zcy 3 (λ_ _ _=>by kernel_rfl) (λ_ _=>rfl) (λ_ _ h=>h) (λh=>by cases h)
end
noncomputable section
def Qle(m:au)(script:List eu)(dh:List Int)(z:(Int)×(Int)):Nat:=(dh.length-z.2).toNat
def Pv(m:au)(script:List eu)(dh:List Int):Tree Int:=
.br (decide ((dh.length:Int)>(400:Int))) (.lf 4300) (.lp inferInstance (Qle m script dh (m.A1,0)+1) ((nR RK.ab 4 script/\rZ/\rE m.A1/\((ao.Nil (ao.ints u64 dh)\/rE (1:Nat))/\rE (dh:List Int))/\rE ((dh.length:Int):Int)/\rE (0:Int)/\True)/\(mE m (((ao.Nil (ao.ints u32 m.Mem)\/rE (1:Nat))/\rE m.Mem)) True)/\True) (m.A1,0) λ(v0:Int×Int)=>.br (decide (v0.2<(dh.length:Int))) (.cn (bT 1 1&&bJ 0 1&&decide (0<=v0.2/\v0.2<(dh.length:Int))) (.br (decide (dh.getD v0.2.toNat 0<v0.1)) (.lf (Sum.inr 4300)) (.br (decide (wrap u64 (dh.getD v0.2.toNat 0-v0.1)>4000)) (.lf (Sum.inr 4300)) (.nx ((nR RK.ab 4 script/\rZ/\rE ((dh.getD v0.2.toNat 0):Int)/\((ao.Nil (ao.ints u64 dh)\/rE (1:Nat))/\rE (dh:List Int))/\rE ((dh.length:Int):Int)/\rE ((wrap i64 (v0.2+1)):Int)/\True)/\(mE m (((ao.Nil (ao.ints u32 m.Mem)\/rE (1:Nat))/\rE m.Mem)) True)/\True) (Sum.inl (dh.getD v0.2.toNat 0,wrap i64 (v0.2+1))))))) (.an (PB m script m.A1) (.lv (VP m script m.A1) λ(x0:au×List dx×Int×Int)=>.lf (Sum.inr x0.2.2.2))))
def Qs8 m script dh:=(Pv m script dh).m
abbrev Qif m script dh:=(Pv m script dh).p
def Z6y:bu:={
 α:=(Int)×(Int)
 F:=λst a=>([(1,(lk st 1)),(3,.ptr 0 0 0),(7,.int u64 a.1),(19,(lk st 19)),(20,(lk st 20)),(21,.int i64 a.2)],[⟨true,42,49,.gen [mB (cT st 3)]⟩])
 a0:=λst=>((lk st 7).toInt,(lk st 21).toInt)
 jn:=λst=>[]++[(rX st 3 0)]}
def Qzz:List (Nat×bu):=[(5,Z6y)]
def Zcj:bc:=mT 80 [] true [.agg au.sig,.one (.av .ab),.one (.ints .u64)] [] (λa r=>Pv (au.of (aC a 0)) (jh .ab a 1) (eh .u64 a 2)) (λX=>.int .i64 X) (λX=>[])
theorem Qr7:bj pG Zcj:=oT (.cons Qtc (.nil)) Tryz.func80 Tryz.call80 [] Qzz 3
def PD(kind:Int)(prog events:List Int):Tree (au×(List eu)):=
.an (Yq kind prog) (.lv (Fz kind prog) λ(x0:au)=>.an (Qmh x0 events) (.lv (Yl x0 events) λ(x1:cw×List dx)=>.lf (x0,x1.1.C7)))
def Qrz kind prog events:=(PD kind prog events).m
abbrev Qj9 kind prog events:=(PD kind prog events).p
def Z0f:bc:=mT 36 [] true [.one (.int .i64),.one (.ints .i64),.one (.ints .i64)] [] (λa r=>PD (aq a 0) (eh .i64 a 1) (eh .i64 a 2)) (λX=>.dt [.agg (au.ez (X.1) (.all 0)),.all 1]) (λX=>[⟨false,23,1,.ints .u32 (X.1).Mem⟩,⟨false,103,4,.av .ab (X.2)⟩])
theorem Qw6:bj pG Z0f:=oT (.cons Qnz (.cons Zh4 (.nil))) Tryz.func36 Tryz.call36 [.row 23 1 (.ints .u32),.row 103 4 (.av .ab)] [] 2
def Qez(m:au)(l:List Int)(z:(Int)×(Int)×(List Int)):Nat:=(l.length-z.2.1).toNat
def PE(m:au)(l:List Int):Tree (List Int):=
.lp inferInstance (Qez m l (m.A1,0,[])+1) ((((ao.Nil (ao.ints i64 l)\/rE (1:Nat))/\rE (l:List Int))/\True/\rE m.A1/\rE (0:Int)/\True)/\rE ([]:List Int)/\True) (m.A1,0,[]) λ(v0:Int×Int×List Int)=>.br (decide (v0.2.1<(l.length:Int))) (.cn (bT 1 1&&bJ 0 1&&decide (0<=v0.2.1/\v0.2.1<(l.length:Int))) (.an (Ev (l.getD v0.2.1.toNat 0) 20) (.lv (uw (l.getD v0.2.1.toNat 0) 20) λ(x0:Int)=>.cn (decide (8*(v0.2.2.length+1)<=140737488355328)) (.nx ((((ao.Nil (ao.ints i64 l)\/rE (1:Nat))/\rE (l:List Int))/\True/\rE ((wrap u64 (v0.1+wrap u64 x0)):Int)/\rE ((wrap i64 (v0.2.1+1)):Int)/\True)/\rE ((v0.2.2++[wrap u64 (v0.1+wrap u64 x0)]):List Int)/\True) (Sum.inl (wrap u64 (v0.1+wrap u64 x0),wrap i64 (v0.2.1+1),v0.2.2++[wrap u64 (v0.1+wrap u64 x0)])))))) (.lf (Sum.inr v0.2.2))
def Qpd m l:=(PE m l).m
abbrev Qio m l:=(PE m l).p
def Qvy:bu:={
 α:=(Int)×(Int)×(List Int)
 F:=λst a=>([(1,(lk st 1)),(5,.all 0),(6,.int u64 a.1),(7,.int i64 a.2.1)],[⟨false,40,1,.ints u64 a.2.2⟩])
 a0:=λst=>((lk st 6).toInt,(lk st 7).toInt,(oP st.rows (rN st 5)))
 jn:=λst=>[]++[(rX st 5 0)]}
def Qqs:List (Nat×bu):=[(4,Qvy)]
def Qx1:bc:=mT 38 [] true [.agg au.sig,.one (.ints .i64)] [] (λa r=>PE (au.of (aC a 0)) (eh .i64 a 1)) (λX=>.all 0) (λX=>[⟨false,40,1,.ints .u64 X⟩])
theorem Qu9:bj pG Qx1:=oT (.cons RY (.nil)) Tryz.func38 Tryz.call38 [.row 40 1 (.ints .u64)] Qqs 3
end
noncomputable section
end
noncomputable section
end
noncomputable section
def Pw(i hash err:Int)(kT:List gl)(lg:List Int)(tJ:Int):Tree (Bool×(List gl)×(List Int)×Int):=
.cn (bT 1 1&&bJ 0 1&&decide (0<=i/\i<(lg.length:Int))) (.cn (decide (16*(kT.length+1)<=140737488355328)) (.lf (true,kT++[{At:=lg.getD i.toNat 0,D2:=hash}],lg,err)))
def Qlu i hash err kT lg tJ:=(Pw i hash err kT lg tJ).m
abbrev Qdx i hash err kT lg tJ:=(Pw i hash err kT lg tJ).p
def Z50:bc:=lW 3 82 [false,false,false,true,true,true] [.one (.int .i64),.one (.int .u64),.one (.int .i64),.ptr 0,.ptr 1,.ptr 2] [.box 87 1 [.row 3],.box 91 1 [.ints .u64],.box 88 1 [.int .i64],.arr 100 2 (.av .ae)] (λa r=>Qdx (aq a 0) (aq a 1) (aq a 2) (jO .ae r 3) (nD .u64 (nV r 1 0)) (nV r 2 0).toInt) (λa r=>Qlu (aq a 0) (aq a 1) (aq a 2) (jO .ae r 3) (nD .u64 (nV r 1 0)) (nV r 2 0).toInt) (λX=>.bool (X.1)) (λX=>[⟨true,87,1,.gen [[.all 3]]⟩,⟨true,91,1,.gen [[.sl 1 (.ints .u64 X.2.2.1) false]]⟩,⟨true,88,1,.gen [[.int .i64 X.2.2.2]]⟩,⟨false,100,2,.av .ae (X.2.1)⟩])
theorem Qn1:bj pG Z50:=Eu drawn mN (.nil) Tryz.func82 Tryz.call82 (λa r=>Pw (aq a 0) (aq a 1) (aq a 2) (jO .ae r 3) (nD .u64 (nV r 1 0)) (nV r 2 0).toInt) [.row 100 2 (.av .ae),.sl (.ints .u64) false] [] 2 (λ_ _ _=>by kernel_rfl) (λ_ _=>rfl) (λ_ _ h=>h)
def Qfz(m:au)(script:List eu)(dh:List Int)(vl:List gl)(va:List Int)(vf:Int)(z:(List eu)×(Int)×(List Int)×(Int)×(List gl)×au):Nat:=(dh.length-z.2.1).toNat
def Px(m:au)(script:List eu)(dh:List Int)(vl:List gl)(va:List Int)(vf:Int):Tree ((List gl)×(List Int)×Int):=
.lp inferInstance (Qfz m script dh vl va vf (script,0,va,vf,vl,m)+1) ((nR RK.ab 4 script/\True/\rZ/\((ao.Nil (ao.ints u64 dh)\/rE (1:Nat))/\rE (dh:List Int))/\rE ((dh.length:Int):Int)/\rE (0:Int)/\True)/\(True/\True)/\(((ao.Nil (ao.ints u64 va)\/rE (1:Nat))/\rE (va:List Int))/\True)/\(rE (vf:Int)/\True)/\rE (vl:List (RK.T RK.ae))/\(mE m (((ao.Nil (ao.ints u32 m.Mem)\/rE (1:Nat))/\rE m.Mem)) True)/\True) (script,0,va,vf,vl,m) λ(v0:List eu×Int×List Int×Int×List gl×au)=>.br (decide (v0.2.1<(dh.length:Int))) (.cn (bT 1 1&&bJ 0 1&&decide (0<=v0.2.1/\v0.2.1<(dh.length:Int))) (let E1:=dh.getD v0.2.1.toNat 0;.an (PB v0.2.2.2.2.2 v0.1 E1) (.lv (VP v0.2.2.2.2.2 v0.1 E1) λ(x0:au×List dx×Int×Int)=>.br (x0.2.2.2 !=0) (.an (Qdx v0.2.1 0 x0.2.2.2 v0.2.2.2.2.1 v0.2.2.1 v0.2.2.2.1) (.lv (Qlu v0.2.1 0 x0.2.2.2 v0.2.2.2.2.1 v0.2.2.1 v0.2.2.2.1) λ(x1:Bool×List gl×List Int×Int)=>.lf (Sum.inr (x1.2.1,x1.2.2.1,x1.2.2.2)))) (.cn (bT 4 4&&bJ 0 4&&decide (0<=x0.2.2.1/\x0.2.2.1<=(v0.1.length:Int)/\(v0.1.length:Int)<=(v0.1.length:Int))) (.an (Uh x0.1) (.lv (Ui x0.1) λ(x2:Int)=>.an (Qdx v0.2.1 x2 0 v0.2.2.2.2.1 v0.2.2.1 v0.2.2.2.1) (.lv (Qlu v0.2.1 x2 0 v0.2.2.2.2.1 v0.2.2.1 v0.2.2.2.1) λ(x3:Bool×List gl×List Int×Int)=>.br (!x3.1) (.lf (Sum.inr (x3.2.1,x3.2.2.1,x3.2.2.2))) (.nx ((((ao.Nil (ao.av RK.ab (dB (dF (v0.1.length:Int)-dF x0.2.2.1) (dC x0.2.2.1.toNat v0.1)))\/oH Nat 4 4)/\rE ((dB (dF (v0.1.length:Int)-dF x0.2.2.1) (dC x0.2.2.1.toNat v0.1)):List (RK.T RK.ab)))/\True/\rZ/\((ao.Nil (ao.ints u64 dh)\/rE (1:Nat))/\rE (dh:List Int))/\rE ((dh.length:Int):Int)/\rE ((wrap i64 (v0.2.1+1)):Int)/\True)/\(True/\True)/\(((ao.Nil (ao.ints u64 x3.2.2.1)\/oH Nat 1 1)/\rE x3.2.2.1)/\True)/\(rE x3.2.2.2/\True)/\rE x3.2.1/\(mE x0.1 (((ao.Nil (ao.ints u32 x0.1.Mem)\/oH Nat 1 1)/\rE x0.1.Mem)) True)/\True) (Sum.inl (dB (dF (v0.1.length:Int)-dF x0.2.2.1) (dC x0.2.2.1.toNat v0.1),wrap i64 (v0.2.1+1),x3.2.2.1,x3.2.2.2,x3.2.1,x0.1)))))))))) (.lf (Sum.inr (v0.2.2.2.2.1,v0.2.2.1,v0.2.2.2.1)))
def Qs1 m script dh vl va vf:=(Px m script dh vl va vf).m
abbrev Qjd m script dh vl va vf:=(Px m script dh vl va vf).p
def Qxj:bu:={
 α:=(List eu)×(Int)×(List Int)×(Int)×(List gl)×au
 F:=λst a=>([(1,.sl 4 (.av RK.ab a.1) false),(3,.gn 82 [.ptr 0 0 0,.ptr 1 0 0,.ptr 2 0 0]),(4,.ptr 4 0 0),(14,(lk st 14)),(15,(lk st 15)),(16,.int i64 a.2.1)],[⟨true,87,1,.gen [[.all 3]]⟩,⟨true,91,1,.gen [[.sl 1 (.ints u64 a.2.2.1) false]]⟩,⟨true,88,1,.gen [[.int i64 a.2.2.2.1]]⟩,⟨false,100,2,.av RK.ae a.2.2.2.2.1⟩,⟨true,42,49,.gen [mD a.2.2.2.2.2 (.sl 1 (.ints u32 a.2.2.2.2.2.Mem) false)]⟩])
 a0:=λst=>((tt RK.ab (lk st 1)),(lk st 16).toInt,(nD u64 (iQ st.rows 1 0)),(iQ st.rows 2 0).toInt,(tz RK.ae st.rows (lz (iQ st.rows 0 0) 1000000)),(mR (cT st 4) (nD u32 (cT st 4 25))))
 jn:=λst=>[0,1,2]++[(lz (iQ st.rows 0 0) (st.rows.length+3)),(rX st 4 4)]}
def Qsf:List (Nat×bu):=[(2,Qxj)]
def Z0d:bc:=lW 3 81 [false,false,false,true] [.agg au.sig,.one (.av .ab),.one (.ints .u64),.gn 82 [.ptr 0 0 0,.ptr 1 0 0,.ptr 2 0 0]] [.box 87 1 [.row 3],.box 91 1 [.ints .u64],.box 88 1 [.int .i64],.arr 100 2 (.av .ae)] (λa r=>Qjd (au.of (aC a 0)) (jh .ab a 1) (eh .u64 a 2) (jO .ae r 3) (nD .u64 (nV r 1 0)) (nV r 2 0).toInt) (λa r=>Qs1 (au.of (aC a 0)) (jh .ab a 1) (eh .u64 a 2) (jO .ae r 3) (nD .u64 (nV r 1 0)) (nV r 2 0).toInt) (λX=>.dt []) (λX=>[⟨true,87,1,.gen [[.all 3]]⟩,⟨true,91,1,.gen [[.sl 1 (.ints .u64 X.2.1) false]]⟩,⟨true,88,1,.gen [[.int .i64 X.2.2]]⟩,⟨false,100,2,.av .ae (X.1)⟩])
theorem Ql4:bj pG Z0d:=Eu drawn mN (.cons Qtc (.cons Qok (.cons Qn1 (.nil)))) Tryz.func81 Tryz.call81 (λa r=>Px (au.of (aC a 0)) (jh .ab a 1) (eh .u64 a 2) (jO .ae r 3) (nD .u64 (nV r 1 0)) (nV r 2 0).toInt) [.row 100 2 (.av .ae),.sl (.ints .u64) false] Qsf 3 (λ_ _ _=>by kernel_rfl) (λ_ _=>rfl) (λ_ _ h=>h)
def Py(m:au)(script:List eu)(dh:List Int):Tree ((List gl)×Int):=
.an (Qif m script dh) (.lv (Qs8 m script dh) λ(x0:Int)=>.br (x0 !=0) (.lf ([],x0)) (.an (Qjd m script dh [] dh 0) (.lv (Qs1 m script dh [] dh 0) λ(x1:List gl×List Int×Int)=>.br (x1.2.2 !=0) (.lf ([],x1.2.2)) (.lf (x1.1,0)))))
def Qsa m script dh:=(Py m script dh).m
abbrev Qhs m script dh:=(Py m script dh).p
def Zc3:bc:=mT 37 [] true [.agg au.sig,.one (.av .ab),.one (.ints .u64)] [] (λa r=>Py (au.of (aC a 0)) (jh .ab a 1) (eh .u64 a 2)) (λX=>.dt [.all 0,.int .i64 (X.2)]) (λX=>[⟨false,100,2,.av .ae (X.1)⟩])
theorem Qri:bj pG Zc3:=oT (.cons Qr7 (.cons Ql4 (.cons Qn1 (.cons Ql4 (.nil))))) Tryz.func37 Tryz.call37 [.row 100 2 (.av .ae)] [] 2
def Pz(i hash err:Int)(kT:List gl)(lg:au)(tJ:jQ)(nT:List Int):Tree (Bool×(List gl)×au×jQ×(List Int)):=
let T1:Tree ((Bool×(List gl)×au×jQ×(List Int))):=.br (decide (i>0)) (.cn (bT 1 1&&bJ 0 1&&decide (0<=wrap i64 (i-1)/\wrap i64 (i-1)<(nT.length:Int))) (.lf (false,kT,lg,{Good:=false,D8:=i,At:=nT.getD (dF (wrap i64 (i-1))) 0},nT))) (.lf (false,kT,lg,{Good:=false,D8:=i,At:=lg.A1},nT));.br (err==0) (.cn (bT 2 2&&bJ 0 2&&decide (0<=i/\i<(kT.length:Int))) (.br (hash==(kT.getD i.toNat (RK.cq RK.ae)).D2) (.lf (true,kT,lg,tJ,nT)) T1)) T1
def Qm i hash err kT lg tJ nT:=(Pz i hash err kT lg tJ nT).m
abbrev Qdw i hash err kT lg tJ nT:=(Pz i hash err kT lg tJ nT).p
def Z3b:bc:=lW 4 86 [false,false,false,true,true,true,true] [.one (.int .i64),.one (.int .u64),.one (.int .i64),.ptr 0,.ptr 1,.ptr 2,.ptr 3] [.box 87 1 [.av .ae],.box 42 49 au.sig,.box 95 3 jQ.sig,.box 91 1 [.ints .u64]] (λa r=>Qdw (aq a 0) (aq a 1) (aq a 2) (tt .ae (nV r 0 0)) (au.of (r.getD 1 default).cs) (jQ.of (r.getD 2 default).cs) (nD .u64 (nV r 3 0))) (λa r=>Qm (aq a 0) (aq a 1) (aq a 2) (tt .ae (nV r 0 0)) (au.of (r.getD 1 default).cs) (jQ.of (r.getD 2 default).cs) (nD .u64 (nV r 3 0))) (λX=>.bool (X.1)) (λX=>[⟨true,87,1,.gen [[.sl 2 (.av .ae X.2.1) false]]⟩,⟨true,42,49,.gen [(au.cells (X.2.2.1))]⟩,⟨true,95,3,.gen [(jQ.cells (X.2.2.2.1))]⟩,⟨true,91,1,.gen [[.sl 1 (.ints .u64 X.2.2.2.2) false]]⟩])
theorem Qna:bj pG Z3b:=Eu drawn mN (.nil) Tryz.func86 Tryz.call86 (λa r=>Pz (aq a 0) (aq a 1) (aq a 2) (tt .ae (nV r 0 0)) (au.of (r.getD 1 default).cs) (jQ.of (r.getD 2 default).cs) (nD .u64 (nV r 3 0))) [.sl (.av .ae) false,.sl (.ints .u32) false,.sl (.ints .u64) false] [] 2 (λ_ _ _=>by kernel_rfl) (λ_ _=>rfl) (λ_ _ h=>h)
def Qg2(m:au)(script:List eu)(dh:List Int)(vl:List gl)(vm:au)(vv:jQ)(va:List Int)(z:(List eu)×(Int)×(List gl)×au×jQ×(List Int)×au):Nat:=(dh.length-z.2.1).toNat
def PA(m:au)(script:List eu)(dh:List Int)(vl:List gl)(vm:au)(vv:jQ)(va:List Int):Tree ((List gl)×au×jQ×(List Int)):=
.lp inferInstance (Qg2 m script dh vl vm vv va (script,0,vl,vm,vv,va,m)+1) ((nR RK.ab 4 script/\True/\rZ/\((ao.Nil (ao.ints u64 dh)\/rE (1:Nat))/\rE (dh:List Int))/\rE ((dh.length:Int):Int)/\rE (0:Int)/\True)/\(nR RK.ae 2 vl/\True)/\(mE vm (((ao.Nil (ao.ints u32 vm.Mem)\/rE (1:Nat))/\rE vm.Mem)) True)/\(rE vv.Good/\rE vv.D8/\rE vv.At/\True)/\(((ao.Nil (ao.ints u64 va)\/rE (1:Nat))/\rE (va:List Int))/\True)/\(mE m (((ao.Nil (ao.ints u32 m.Mem)\/rE (1:Nat))/\rE m.Mem)) True)/\True) (script,0,vl,vm,vv,va,m) λ(v0:List eu×Int×List gl×au×jQ×List Int×au)=>.br (decide (v0.2.1<(dh.length:Int))) (.cn (bT 1 1&&bJ 0 1&&decide (0<=v0.2.1/\v0.2.1<(dh.length:Int))) (let E1:=dh.getD v0.2.1.toNat 0;.an (PB v0.2.2.2.2.2.2 v0.1 E1) (.lv (VP v0.2.2.2.2.2.2 v0.1 E1) λ(x0:au×List dx×Int×Int)=>.br (x0.2.2.2 !=0) (.an (Qdw v0.2.1 0 x0.2.2.2 v0.2.2.1 v0.2.2.2.1 v0.2.2.2.2.1 v0.2.2.2.2.2.1) (.lv (Qm v0.2.1 0 x0.2.2.2 v0.2.2.1 v0.2.2.2.1 v0.2.2.2.2.1 v0.2.2.2.2.2.1) λ(x1:Bool×List gl×au×jQ×List Int)=>.lf (Sum.inr (x1.2.1,x1.2.2.1,x1.2.2.2.1,x1.2.2.2.2)))) (.cn (bT 4 4&&bJ 0 4&&decide (0<=x0.2.2.1/\x0.2.2.1<=(v0.1.length:Int)/\(v0.1.length:Int)<=(v0.1.length:Int))) (.an (Uh x0.1) (.lv (Ui x0.1) λ(x2:Int)=>.an (Qdw v0.2.1 x2 0 v0.2.2.1 v0.2.2.2.1 v0.2.2.2.2.1 v0.2.2.2.2.2.1) (.lv (Qm v0.2.1 x2 0 v0.2.2.1 v0.2.2.2.1 v0.2.2.2.2.1 v0.2.2.2.2.2.1) λ(x3:Bool×List gl×au×jQ×List Int)=>.br (!x3.1) (.lf (Sum.inr (x3.2.1,x3.2.2.1,x3.2.2.2.1,x3.2.2.2.2))) (.nx ((((ao.Nil (ao.av RK.ab (dB (dF (v0.1.length:Int)-dF x0.2.2.1) (dC x0.2.2.1.toNat v0.1)))\/oH Nat 4 4)/\rE ((dB (dF (v0.1.length:Int)-dF x0.2.2.1) (dC x0.2.2.1.toNat v0.1)):List (RK.T RK.ab)))/\True/\rZ/\((ao.Nil (ao.ints u64 dh)\/rE (1:Nat))/\rE (dh:List Int))/\rE ((dh.length:Int):Int)/\rE ((wrap i64 (v0.2.1+1)):Int)/\True)/\(((ao.Nil (ao.av RK.ae x3.2.1)\/oH Nat 2 2)/\rE x3.2.1)/\True)/\(mE x3.2.2.1 (((ao.Nil (ao.ints u32 x3.2.2.1.Mem)\/oH Nat 1 1)/\rE x3.2.2.1.Mem)) True)/\(rE x3.2.2.2.1.Good/\rE x3.2.2.2.1.D8/\rE x3.2.2.2.1.At/\True)/\(((ao.Nil (ao.ints u64 x3.2.2.2.2)\/oH Nat 1 1)/\rE x3.2.2.2.2)/\True)/\(mE x0.1 (((ao.Nil (ao.ints u32 x0.1.Mem)\/oH Nat 1 1)/\rE x0.1.Mem)) True)/\True) (Sum.inl (dB (dF (v0.1.length:Int)-dF x0.2.2.1) (dC x0.2.2.1.toNat v0.1),wrap i64 (v0.2.1+1),x3.2.1,x3.2.2.1,x3.2.2.2.1,x3.2.2.2.2,x0.1)))))))))) (.lf (Sum.inr (v0.2.2.1,v0.2.2.2.1,v0.2.2.2.2.1,v0.2.2.2.2.2.1)))
def Qry m script dh vl vm vv va:=(PA m script dh vl vm vv va).m
abbrev Qjh m script dh vl vm vv va:=(PA m script dh vl vm vv va).p
def Qwt:bu:={
 α:=(List eu)×(Int)×(List gl)×au×jQ×(List Int)×au
 F:=λst a=>([(1,.sl 4 (.av RK.ab a.1) false),(3,.gn 86 [.ptr 0 0 0,.ptr 1 0 0,.ptr 2 0 0,.ptr 3 0 0]),(4,.ptr 4 0 0),(14,(lk st 14)),(15,(lk st 15)),(16,.int i64 a.2.1)],[⟨true,87,1,.gen [[.sl 2 (.av RK.ae a.2.2.1) false]]⟩,⟨true,42,49,.gen [mD a.2.2.2.1 (.sl 1 (.ints u32 a.2.2.2.1.Mem) false)]⟩,⟨true,95,3,.gen [[.bool a.2.2.2.2.1.Good,.int i64 a.2.2.2.2.1.D8,.int u64 a.2.2.2.2.1.At]]⟩,⟨true,91,1,.gen [[.sl 1 (.ints u64 a.2.2.2.2.2.1) false]]⟩,⟨true,42,49,.gen [mD a.2.2.2.2.2.2 (.sl 1 (.ints u32 a.2.2.2.2.2.2.Mem) false)]⟩])
 a0:=λst=>((tt RK.ab (lk st 1)),(lk st 16).toInt,(tt RK.ae (iQ st.rows 0 0)),(⟨(⟨(⟨(iQ st.rows 1 0).toInt,(iQ st.rows 1 1).toInt,(iQ st.rows 1 2).toInt,(iQ st.rows 1 3).toInt,(iQ st.rows 1 4).toInt,(iQ st.rows 1 5).toInt,(iQ st.rows 1 6).toInt,(iQ st.rows 1 7).toInt,(iQ st.rows 1 8).toInt,(iQ st.rows 1 9).toInt,(iQ st.rows 1 10).toInt,(iQ st.rows 1 11).toInt,(iQ st.rows 1 12).toInt,(iQ st.rows 1 13).toInt,(iQ st.rows 1 14).toInt,(iQ st.rows 1 15).toInt⟩:(iS Int)),(iQ st.rows 1 16).toInt,(⟨(iQ st.rows 1 17).toInt,(iQ st.rows 1 18).toInt,(iQ st.rows 1 19).toInt,(iQ st.rows 1 20).toInt,(iQ st.rows 1 21).toInt,(iQ st.rows 1 22).toInt,(iQ st.rows 1 23).toInt,(iQ st.rows 1 24).toInt⟩:(A8 Int))⟩:bh),(nD u32 (iQ st.rows 1 25)),(⟨(iQ st.rows 1 26).toStr⟩:iT),(⟨(iQ st.rows 1 27).toBool,(iQ st.rows 1 28).toInt,(iQ st.rows 1 29).toBool⟩:iU),(⟨(iQ st.rows 1 30).toInt,(iQ st.rows 1 31).toInt,(iQ st.rows 1 32).toInt,(iQ st.rows 1 33).toInt,(iQ st.rows 1 34).toInt,(iQ st.rows 1 35).toInt,(iQ st.rows 1 36).toInt,(iQ st.rows 1 37).toStr⟩:fp),(⟨(iQ st.rows 1 38).toInt,(iQ st.rows 1 39).toInt,(iQ st.rows 1 40).toBool,(iQ st.rows 1 41).toInt,(iQ st.rows 1 42).toBool,(iQ st.rows 1 43).toInt⟩:ia),(⟨(iQ st.rows 1 44).toInt,(iQ st.rows 1 45).toInt⟩:gv),(iQ st.rows 1 46).toInt,(iQ st.rows 1 47).toBool,(iQ st.rows 1 48).toBool⟩:au),(⟨(iQ st.rows 2 0).toBool,(iQ st.rows 2 1).toInt,(iQ st.rows 2 2).toInt⟩:jQ),(nD u64 (iQ st.rows 3 0)),(mR (cT st 4) (nD u32 (cT st 4 25))))
 jn:=λst=>[0,1,2,3]++[(rX st 4 4)]}
def Qtd:List (Nat×bu):=[(2,Qwt)]
def Z0h:bc:=bc.fz<|lW 4 81 [false,false,false,true] [.agg au.sig,.one (.av .ab),.one (.ints .u64),.gn 86 [.ptr 0 0 0,.ptr 1 0 0,.ptr 2 0 0,.ptr 3 0 0]] [.box 87 1 [.av .ae],.box 42 49 au.sig,.box 95 3 jQ.sig,.box 91 1 [.ints .u64]] (λa r=>Qjh (au.of (aC a 0)) (jh .ab a 1) (eh .u64 a 2) (tt .ae (nV r 0 0)) (au.of (r.getD 1 default).cs) (jQ.of (r.getD 2 default).cs) (nD .u64 (nV r 3 0))) (λa r=>Qry (au.of (aC a 0)) (jh .ab a 1) (eh .u64 a 2) (tt .ae (nV r 0 0)) (au.of (r.getD 1 default).cs) (jQ.of (r.getD 2 default).cs) (nD .u64 (nV r 3 0))) (λX=>.dt []) (λX=>[⟨true,87,1,.gen [[.sl 2 (.av .ae X.1) false]]⟩,⟨true,42,49,.gen [(au.cells (X.2.1))]⟩,⟨true,95,3,.gen [(jQ.cells (X.2.2.1))]⟩,⟨true,91,1,.gen [[.sl 1 (.ints .u64 X.2.2.2) false]]⟩])
theorem Qwc:bj pG Z0h:=MK<|Eu drawn mN (.cons Qtc (.cons Qok (.cons Qna (.nil)))) Tryz.func81 Tryz.call81 (λa r=>PA (au.of (aC a 0)) (jh .ab a 1) (eh .u64 a 2) (tt .ae (nV r 0 0)) (au.of (r.getD 1 default).cs) (jQ.of (r.getD 2 default).cs) (nD .u64 (nV r 3 0))) [.sl (.av .ae) false,.sl (.ints .u32) false,.sl (.ints .u64) false] Qtd 3 (λ_ _ _=>by kernel_rfl) (λ_ _=>rfl) (λ_ _ h=>h)
def Ql6(m:au)(script:List eu)(l:List gl)(z:(Int)×(List Int)):Nat:=(l.length-z.1).toNat
def PC(m:au)(script:List eu)(l:List gl):Tree (jQ×Int):=
.lp inferInstance (Ql6 m script l (0,[])+1) ((nR RK.ab 4 script/\rZ/\rZ/\rZ/\rZ/\nR RK.ae 2 l/\rE ((l.length:Int):Int)/\rE (0:Int)/\True)/\(mE m (((ao.Nil (ao.ints u32 m.Mem)\/rE (1:Nat))/\rE m.Mem)) True)/\(nR RK.ae 2 l/\True)/\(rE (false:Bool)/\rE (0:Int)/\rE (0:Int)/\True)/\(True/\True)/\rE ([]:List Int)/\True) (0,[]) λ(v0:Int×List Int)=>.br (decide (v0.1<(l.length:Int))) (.cn (bT 2 2&&bJ 0 2&&decide (0<=v0.1/\v0.1<(l.length:Int))) (.cn (decide (8*(v0.2.length+1)<=140737488355328)) (.nx ((nR RK.ab 4 script/\rZ/\rZ/\rZ/\rZ/\nR RK.ae 2 l/\rE ((l.length:Int):Int)/\rE ((wrap i64 (v0.1+1)):Int)/\True)/\(mE m (((ao.Nil (ao.ints u32 m.Mem)\/rE (1:Nat))/\rE m.Mem)) True)/\(nR RK.ae 2 l/\True)/\(rE (false:Bool)/\rE (0:Int)/\rE (0:Int)/\True)/\(True/\True)/\rE ((v0.2++[(l.getD v0.1.toNat (RK.cq RK.ae)).At]):List Int)/\True) (Sum.inl (wrap i64 (v0.1+1),v0.2++[(l.getD v0.1.toNat (RK.cq RK.ae)).At]))))) (.an (Qif m script v0.2) (.lv (Qs8 m script v0.2) λ(x0:Int)=>.br (x0 !=0) (.lf (Sum.inr ({Good:=false,D8:=0,At:=0},x0))) (.an (Qjh m script v0.2 l m {Good:=true,D8:=0,At:=0} v0.2) (.lv (Qry m script v0.2 l m {Good:=true,D8:=0,At:=0} v0.2) λ(x1:List gl×au×jQ×List Int)=>.lf (Sum.inr (x1.2.2.1,0))))))
def Qlj m script l:=(PC m script l).m
abbrev Qc9 m script l:=(PC m script l).p
def Z6j:bu:={
 α:=(Int)×(List Int)
 F:=λst a=>([(1,(lk st 1)),(3,.ptr 0 0 0),(5,.ptr 1 0 0),(6,.ptr 2 0 0),(8,.ptr 3 0 0),(13,(lk st 13)),(14,(lk st 14)),(15,.int i64 a.1)],[⟨true,42,49,.gen [mB (cT st 3)]⟩,⟨true,87,1,.gen [[(cT st 5 0)]]⟩,⟨true,95,3,.gen [[(cT st 6 0),(cT st 6 1),(cT st 6 2)]]⟩,⟨true,91,1,.gen [[.all 4]]⟩,⟨false,40,1,.ints u64 a.2⟩])
 a0:=λst=>((lk st 15).toInt,(oP st.rows (lz (cT st 8 0) 1000000)))
 jn:=λst=>[]++[(rX st 3 0),(rX st 5 1),(rX st 6 2),(rX st 8 3),(lz (cT st 8 0) (st.rows.length+4))]}
def Z0p:List (Nat×bu):=[(3,Z6j)]
def Zbn:bc:=mT 41 [] true [.agg au.sig,.one (.av .ab),.one (.av .ae)] [] (λa r=>PC (au.of (aC a 0)) (jh .ab a 1) (jh .ae a 2)) (λX=>.dt [.agg (jQ.cells (X.1)),.int .i64 (X.2)]) (λX=>[])
theorem Qrj:bj pG Zbn:=oT (.cons Qr7 (.cons Qna (.cons Qwc (.nil)))) Tryz.func41 Tryz.call41 [] Z0p 3
end
noncomputable section
def strconv_Itoa(i:Int):(List UInt8):=
Lib.decDigits i.toNat
def Hn(i:Int):Prop:=
0<=i/\i<=9223372036854775807
def Qkj(i:Int):List D:=[.int .i64 i]
def Qlh(i:Int):List Row:=[]
def Qff(X:List UInt8):D:=.str X
def Qfl(X:List UInt8):List Row:=[]
def Qmp:List PT:=[.one (.int .i64)]
def Qlf:List RT:=[]
def Z0i(args:List D)(rows:List Row):(List UInt8):=strconv_Itoa (aq args 0)
def Z0b(args:List D)(rows:List Row):Prop:=Hn (aq args 0)
def Z6a:bc:=mM 147 [] true Qmp Qlf Z0b Z0i Qff Qfl
theorem Qto(i:Int)(hw:Hn i):Q3 pG 147 (Qkj i) (Qlh i) (Qff (strconv_Itoa i)) (Qfl (strconv_Itoa i)):=by
 exact zah Tryz.strconv_Itoa (by kernel_rfl) Zqc hw.1 hw.2
set_option maxRecDepth 100000 in
theorem Qw8(args:List D)(rows:List Row):me Qmp args 0=Qkj (aq args 0):=by kernel_rfl
set_option maxRecDepth 100000 in
theorem Qtp(args:List D)(rows:List Row):lr Qlf rows 0=Qlh (aq args 0):=by kernel_rfl
set_option maxRecDepth 100000 in
theorem Z4z(X:List UInt8):(uZ (Qff X)&&jH (Qfl X))=true:=by kernel_rfl
theorem Qou:bj pG Z6a:=ML Tryz.call147 (λargs rows hp=>by rw[Qw8 args rows,Qtp args rows];exact Qto (aq args 0) hp) (λ_ X=>Z4z X)
def Qnm(a b:bh)(z:(Int)):Nat:=(16-z).toNat
def Qnc(a b:bh)(z:(Int)):Nat:=(8-z).toNat
def PF(a b:bh):Tree (List UInt8):=
.lp inferInstance (Qnm a b 0+1) ((rZ/\rZ/\rE (0:Int)/\True)/\(rE a.X.a0/\rE a.X.a1/\rE a.X.a2/\rE a.X.a3/\rE a.X.a4/\rE a.X.a5/\rE a.X.a6/\rE a.X.a7/\rE a.X.a8/\rE a.X.a9/\rE a.X.kq/\rE a.X.kr/\rE a.X.a12/\rE a.X.ku/\rE a.X.kv/\rE a.X.ky/\rE a.Pc/\rE a.B4.a0/\rE a.B4.a1/\rE a.B4.a2/\rE a.B4.a3/\rE a.B4.a4/\rE a.B4.a5/\rE a.B4.a6/\rE a.B4.a7/\True)/\(rE b.X.a0/\rE b.X.a1/\rE b.X.a2/\rE b.X.a3/\rE b.X.a4/\rE b.X.a5/\rE b.X.a6/\rE b.X.a7/\rE b.X.a8/\rE b.X.a9/\rE b.X.kq/\rE b.X.kr/\rE b.X.a12/\rE b.X.ku/\rE b.X.kv/\rE b.X.ky/\rE b.Pc/\rE b.B4.a0/\rE b.B4.a1/\rE b.B4.a2/\rE b.B4.a3/\rE b.B4.a4/\rE b.B4.a5/\rE b.B4.a6/\rE b.B4.a7/\True)/\True) 0 λ(v0:Int)=>.br (decide (v0<16)) (let E1:=bJ 0 1&&decide (0<=v0/\v0<(↑16:Int));.cn E1 (.cn E1 (.br (aK (iS.l a.X) v0.toNat 0 !=aK (iS.l b.X) v0.toNat 0) (.an (Hn v0) (.lv (strconv_Itoa v0) λ(x0:List UInt8)=>.cn (decide (2+x0.length<=maxLen)) (.lf (Sum.inr ((120:UInt8)::([(32:UInt8)]++x0)))))) (.nx ((rZ/\rZ/\rE ((wrap i64 (v0+1)):Int)/\True)/\(rE a.X.a0/\rE a.X.a1/\rE a.X.a2/\rE a.X.a3/\rE a.X.a4/\rE a.X.a5/\rE a.X.a6/\rE a.X.a7/\rE a.X.a8/\rE a.X.a9/\rE a.X.kq/\rE a.X.kr/\rE a.X.a12/\rE a.X.ku/\rE a.X.kv/\rE a.X.ky/\rE a.Pc/\rE a.B4.a0/\rE a.B4.a1/\rE a.B4.a2/\rE a.B4.a3/\rE a.B4.a4/\rE a.B4.a5/\rE a.B4.a6/\rE a.B4.a7/\True)/\(rE b.X.a0/\rE b.X.a1/\rE b.X.a2/\rE b.X.a3/\rE b.X.a4/\rE b.X.a5/\rE b.X.a6/\rE b.X.a7/\rE b.X.a8/\rE b.X.a9/\rE b.X.kq/\rE b.X.kr/\rE b.X.a12/\rE b.X.ku/\rE b.X.kv/\rE b.X.ky/\rE b.Pc/\rE b.B4.a0/\rE b.B4.a1/\rE b.B4.a2/\rE b.B4.a3/\rE b.B4.a4/\rE b.B4.a5/\rE b.B4.a6/\rE b.B4.a7/\True)/\True) (Sum.inl (wrap i64 (v0+1))))))) (.br (a.Pc !=b.Pc) (.lf (Sum.inr [(112:UInt8),99])) (.lp inferInstance (Qnc a b 0+1) ((rZ/\rZ/\rE (0:Int)/\True)/\(rE a.X.a0/\rE a.X.a1/\rE a.X.a2/\rE a.X.a3/\rE a.X.a4/\rE a.X.a5/\rE a.X.a6/\rE a.X.a7/\rE a.X.a8/\rE a.X.a9/\rE a.X.kq/\rE a.X.kr/\rE a.X.a12/\rE a.X.ku/\rE a.X.kv/\rE a.X.ky/\rE a.Pc/\rE a.B4.a0/\rE a.B4.a1/\rE a.B4.a2/\rE a.B4.a3/\rE a.B4.a4/\rE a.B4.a5/\rE a.B4.a6/\rE a.B4.a7/\True)/\(rE b.X.a0/\rE b.X.a1/\rE b.X.a2/\rE b.X.a3/\rE b.X.a4/\rE b.X.a5/\rE b.X.a6/\rE b.X.a7/\rE b.X.a8/\rE b.X.a9/\rE b.X.kq/\rE b.X.kr/\rE b.X.a12/\rE b.X.ku/\rE b.X.kv/\rE b.X.ky/\rE b.Pc/\rE b.B4.a0/\rE b.B4.a1/\rE b.B4.a2/\rE b.B4.a3/\rE b.B4.a4/\rE b.B4.a5/\rE b.B4.a6/\rE b.B4.a7/\True)/\True) 0 λ(v1:Int)=>.br (decide (v1<8)) (let E2:=bJ 0 1&&decide (0<=v1/\v1<(↑8:Int));.cn E2 (.cn E2 (.br (aK (A8.l a.B4) v1.toNat 0 !=aK (A8.l b.B4) v1.toNat 0) (.an (Hn v1) (.lv (strconv_Itoa v1) λ(x1:List UInt8)=>.cn (decide (4+x1.length<=maxLen)) (.lf (Sum.inr (Sum.inr ((99:UInt8)::([(115:UInt8),114,32]++x1))))))) (.nx ((rZ/\rZ/\rE ((wrap i64 (v1+1)):Int)/\True)/\(rE a.X.a0/\rE a.X.a1/\rE a.X.a2/\rE a.X.a3/\rE a.X.a4/\rE a.X.a5/\rE a.X.a6/\rE a.X.a7/\rE a.X.a8/\rE a.X.a9/\rE a.X.kq/\rE a.X.kr/\rE a.X.a12/\rE a.X.ku/\rE a.X.kv/\rE a.X.ky/\rE a.Pc/\rE a.B4.a0/\rE a.B4.a1/\rE a.B4.a2/\rE a.B4.a3/\rE a.B4.a4/\rE a.B4.a5/\rE a.B4.a6/\rE a.B4.a7/\True)/\(rE b.X.a0/\rE b.X.a1/\rE b.X.a2/\rE b.X.a3/\rE b.X.a4/\rE b.X.a5/\rE b.X.a6/\rE b.X.a7/\rE b.X.a8/\rE b.X.a9/\rE b.X.kq/\rE b.X.kr/\rE b.X.a12/\rE b.X.ku/\rE b.X.kv/\rE b.X.ky/\rE b.Pc/\rE b.B4.a0/\rE b.B4.a1/\rE b.B4.a2/\rE b.B4.a3/\rE b.B4.a4/\rE b.B4.a5/\rE b.B4.a6/\rE b.B4.a7/\True)/\True) (Sum.inl (wrap i64 (v1+1))))))) (.lf (Sum.inr (Sum.inr [])))))
def Qn9 a b:=(PF a b).m
abbrev Qa7 a b:=(PF a b).p
def Qsq:bu:={
 α:=(Int)
 F:=λst a=>([(2,.ptr 0 0 0),(3,.ptr 1 0 0),(7,.int i64 a)],[⟨true,28,25,.gen [[(cT st 2 0),(cT st 2 1),(cT st 2 2),(cT st 2 3),(cT st 2 4),(cT st 2 5),(cT st 2 6),(cT st 2 7),(cT st 2 8),(cT st 2 9),(cT st 2 10),(cT st 2 11),(cT st 2 12),(cT st 2 13),(cT st 2 14),(cT st 2 15),(cT st 2 16),(cT st 2 17),(cT st 2 18),(cT st 2 19),(cT st 2 20),(cT st 2 21),(cT st 2 22),(cT st 2 23),(cT st 2 24)]]⟩,⟨true,28,25,.gen [[(cT st 3 0),(cT st 3 1),(cT st 3 2),(cT st 3 3),(cT st 3 4),(cT st 3 5),(cT st 3 6),(cT st 3 7),(cT st 3 8),(cT st 3 9),(cT st 3 10),(cT st 3 11),(cT st 3 12),(cT st 3 13),(cT st 3 14),(cT st 3 15),(cT st 3 16),(cT st 3 17),(cT st 3 18),(cT st 3 19),(cT st 3 20),(cT st 3 21),(cT st 3 22),(cT st 3 23),(cT st 3 24)]]⟩])
 a0:=λst=>(lk st 7).toInt
 jn:=λst=>[]++[(rX st 2 0),(rX st 3 1)]}
def Qt9:bu:={
 α:=(Int)
 F:=λst a=>([(2,.ptr 0 0 0),(3,.ptr 1 0 0),(28,.int i64 a)],[⟨true,28,25,.gen [[(cT st 2 0),(cT st 2 1),(cT st 2 2),(cT st 2 3),(cT st 2 4),(cT st 2 5),(cT st 2 6),(cT st 2 7),(cT st 2 8),(cT st 2 9),(cT st 2 10),(cT st 2 11),(cT st 2 12),(cT st 2 13),(cT st 2 14),(cT st 2 15),(cT st 2 16),(cT st 2 17),(cT st 2 18),(cT st 2 19),(cT st 2 20),(cT st 2 21),(cT st 2 22),(cT st 2 23),(cT st 2 24)]]⟩,⟨true,28,25,.gen [[(cT st 3 0),(cT st 3 1),(cT st 3 2),(cT st 3 3),(cT st 3 4),(cT st 3 5),(cT st 3 6),(cT st 3 7),(cT st 3 8),(cT st 3 9),(cT st 3 10),(cT st 3 11),(cT st 3 12),(cT st 3 13),(cT st 3 14),(cT st 3 15),(cT st 3 16),(cT st 3 17),(cT st 3 18),(cT st 3 19),(cT st 3 20),(cT st 3 21),(cT st 3 22),(cT st 3 23),(cT st 3 24)]]⟩])
 a0:=λst=>(lk st 28).toInt
 jn:=λst=>[]++[(rX st 2 0),(rX st 3 1)]}
def Qpc:List (Nat×bu):=[(2,Qsq),(10,Qt9)]
def Qtz:bc:=mT 90 [] true [.agg bh.sig,.agg bh.sig] [] (λa r=>PF (bh.of (aC a 0)) (bh.of (aC a 1))) (λX=>.str X) (λX=>[])
theorem Qsp:bj pG Qtz:=oT (.cons Qou (.nil)) Tryz.func90 Tryz.call90 [] Qpc 3
def Qni(a b:List Int)(z:(Int)):Nat:=(a.length-z).toNat
def PG(a b:List Int):Tree (List UInt8):=
.br ((a.length:Int) !=(b.length:Int)) (.lf ([(109:UInt8),101,109])) (.lp inferInstance (Qni a b 0+1) ((((ao.Nil (ao.ints u32 a)\/rE (1:Nat))/\rE (a:List Int))/\((ao.Nil (ao.ints u32 b)\/rE (1:Nat))/\rE (b:List Int))/\rE ((a.length:Int):Int)/\rE (0:Int)/\True)/\True) 0 λ(v0:Int)=>.br (decide (v0<(a.length:Int))) (.cn (bT 1 1&&bJ 0 1&&decide (0<=v0/\v0<(a.length:Int))) (.cn (bT 1 1&&bJ 0 1&&decide (0<=v0/\v0<(b.length:Int))) (.br (a.getD v0.toNat 0 !=b.getD v0.toNat 0) (.an (Hn v0) (.lv (strconv_Itoa v0) λ(x0:List UInt8)=>.cn (decide (4+x0.length<=maxLen)) (.lf (Sum.inr ((109:UInt8)::([(101:UInt8),109,32]++x0)))))) (.nx ((((ao.Nil (ao.ints u32 a)\/rE (1:Nat))/\rE (a:List Int))/\((ao.Nil (ao.ints u32 b)\/rE (1:Nat))/\rE (b:List Int))/\rE ((a.length:Int):Int)/\rE ((wrap i64 (v0+1)):Int)/\True)/\True) (Sum.inl (wrap i64 (v0+1))))))) (.lf (Sum.inr [])))
def Qn5 a b:=(PG a b).m
abbrev Qa6 a b:=(PG a b).p
def Qst:bu:={
 α:=(Int)
 F:=λst a=>([(0,(lk st 0)),(1,(lk st 1)),(12,(lk st 12)),(13,.int i64 a)],[])
 a0:=λst=>(lk st 13).toInt
 jn:=λst=>[]++[]}
def Qov:List (Nat×bu):=[(4,Qst)]
def Qw:bc:=mT 91 [] true [.one (.ints .u32),.one (.ints .u32)] [] (λa r=>PG (eh .u32 a 0) (eh .u32 a 1)) (λX=>.str X) (λX=>[])
theorem Qsn:bj pG Qw:=oT (.cons Qou (.nil)) Tryz.func91 Tryz.call91 [] Qov 3
def PH(a b:au):Tree (List UInt8):=
.an (Qa7 a.B1 b.B1) (.lv (Qn9 a.B1 b.B1) λ(x0:List UInt8)=>.br (!decide (x0=[])) (.lf x0) (.an (Qa6 a.Mem b.Mem) (.lv (Qn5 a.Mem b.Mem) λ(x1:List UInt8)=>.br (!decide (x1=[])) (.lf x1) (.br (!eqs [D.str a.A3.D1] [D.str b.A3.D1]) (.lf ([(99:UInt8),111,110,115,111,108,101])) (.br (!eqs [D.bool a.A9.D4,D.int u32 a.A9.C4,D.bool a.A9.D3] [D.bool b.A9.D4,D.int u32 b.A9.C4,D.bool b.A9.D3]) (.lf ([(116:UInt8),105,109,101,114])) (.br (!eqs [D.int u32 a.A7.ag,D.int u32 a.A7.C1,D.int u32 a.A7.Frame,D.int i64 a.A7.B7,D.int i64 a.A7.D5,D.int u32 a.A7.B6,D.int u32 a.A7.B2,D.str a.A7.B8] [D.int u32 b.A7.ag,D.int u32 b.A7.C1,D.int u32 b.A7.Frame,D.int i64 b.A7.B7,D.int i64 b.A7.D5,D.int u32 b.A7.B6,D.int u32 b.A7.B2,D.str b.A7.B8]) (.lf ([(100:UInt8),105,115,107])) (.br (!eqs [D.int u32 a.C3.Frame,D.int u32 a.C3.E0,D.bool a.C3.C5,D.int u32 a.C3.B9,D.bool a.C3.B5,D.int u32 a.C3.F1] [D.int u32 b.C3.Frame,D.int u32 b.C3.E0,D.bool b.C3.C5,D.int u32 b.C3.B9,D.bool b.C3.B5,D.int u32 b.C3.F1]) (.lf ([(110:UInt8),105,99])) (.br (!eqs [D.int u32 a.A2.C6,D.int u32 a.A2.C2] [D.int u32 b.A2.C6,D.int u32 b.A2.C2]) (.lf ([(98:UInt8),97,108,108,111,111,110])) (.br (a.A1 !=b.A1) (.lf ([(99:UInt8),111,117,110,116])) (.br (!a.A4==b.A4) (.lf ([(119:UInt8),97,105,116,105,110,103])) (.br (!a.A6==b.A6) (.lf ([(104:UInt8),97,108,116,101,100])) (.lf ([])))))))))))))
def Um a b:=(PH a b).m
abbrev Q5 a b:=(PH a b).p
def Z21:bc:=mT 43 [] true [.agg au.sig,.agg au.sig] [] (λa r=>PH (au.of (aC a 0)) (au.of (aC a 1))) (λX=>.str X) (λX=>[])
theorem Z0l:bj pG Z21:=oT (.cons Qsp (.cons Qsn (.nil))) Tryz.func43 Tryz.call43 [] [] 2
def PJ:Tree Bool:=
.an (Yq 2 [0]) (.lv (Fz 2 [0]) λ(x0:au)=>.an (Qhs x0 [] [1,3]) (.lv (Qsa x0 [] [1,3]) λ(x1:List gl×Int)=>.br (x1.2 !=0) (.lf false) (.br ((x1.1.length:Int) !=(2:Int)) (.lf false) (.an (Qc9 x0 [] x1.1) (.lv (Qlj x0 [] x1.1) λ(x2:jQ×Int)=>let E3:=bT 2 2&&bJ 0 2&&decide ((0:Int)<=(1:Int)/\1<(x1.1.length:Int));.cn E3 (.cn E3 (let E2:=x1.1.getD (dF 1) (RK.cq RK.ae);.an (Qc9 x0 [] (dG x1.1 (dF 1) {At:=E2.At,D2:=wrap u64 (E2.D2+1)})) (.lv (Qlj x0 [] (dG x1.1 (dF 1) {At:=E2.At,D2:=wrap u64 (E2.D2+1)})) λ(x3:jQ×Int)=>.br (x2.2==0) (.br x2.1.Good (.br (x3.2==0) (.br (!x3.1.Good) (.br (x3.1.D8==1) (.br (x3.1.At==1) (let E1:=({B1:={X:={a0:=x0.B1.X.a0,a1:=x0.B1.X.a1,a2:=x0.B1.X.a2,a3:=x0.B1.X.a3,a4:=x0.B1.X.a4,a5:=7,a6:=x0.B1.X.a6,a7:=x0.B1.X.a7,a8:=x0.B1.X.a8,a9:=x0.B1.X.a9,kq:=x0.B1.X.kq,kr:=x0.B1.X.kr,a12:=x0.B1.X.a12,ku:=x0.B1.X.ku,kv:=x0.B1.X.kv,ky:=x0.B1.X.ky},Pc:=x0.B1.Pc,B4:=x0.B1.B4},Mem:=x0.Mem,A3:=x0.A3,A9:=x0.A9,A7:=x0.A7,C3:=x0.C3,A2:=x0.A2,A1:=x0.A1,A4:=x0.A4,A6:=x0.A6}:au);.an (Q5 x0 E1) (.lv (Um x0 E1) λ(x4:List UInt8)=>.br (decide (x4=[(120:UInt8),32,53])) (.an (Q5 x0 x0) (.lv (Um x0 x0) λ(x5:List UInt8)=>.lf (decide (x5=[])))) (.lf false))) (.lf false)) (.lf false)) (.lf false)) (.lf false)) (.lf false)) (.lf false)))))))))
def El:Bool:=(PJ).m
abbrev FE:Prop:=(PJ).p
def Zax:bc:=mT 35 [] true [] [] (λa r=>PJ) (λX=>.bool X) (λX=>[])
theorem Z5n:bj pG Zax:=oT (.cons Qnz (.cons Qri (.cons Qrj (.cons Z0l (.nil))))) Tryz.func35 Tryz.call35 [] [] 2
end
noncomputable section
def Un(kind:Int)(prog events l:List Int)(jP hash:Int):Tree Bool:=
.br (decide ((prog.length:Int)>(60:Int))) (.an FE (.lv El λ(x0:Bool)=>.lf x0)) (.br (decide ((events.length:Int)>(20:Int))) (.an FE (.lv El λ(x1:Bool)=>.lf x1)) (.br (decide ((l.length:Int)<(1:Int))) (.an FE (.lv El λ(x2:Bool)=>.lf x2)) (.br (decide ((l.length:Int)>(10:Int))) (.an FE (.lv El λ(x3:Bool)=>.lf x3)) (.br (hash==0) (.an FE (.lv El λ(x4:Bool)=>.lf x4)) (.an (Qj9 kind prog events) (.lv (Qrz kind prog events) λ(x5:au×List eu)=>.an (Qio x5.1 l) (.lv (Qpd x5.1 l) λ(x6:List Int)=>.an (Qhs x5.1 x5.2 x6) (.lv (Qsa x5.1 x5.2 x6) λ(x7:List gl×Int)=>.br (x7.2 !=0) (.br ((x7.1.length:Int)==(0:Int)) (.an FE (.lv El λ(x8:Bool)=>.lf x8)) (.lf false)) (.br ((x7.1.length:Int) !=(l.length:Int)) (.lf false) (.an (Ev jP (x7.1.length:Int)) (.lv (uw jP (x7.1.length:Int)) λ(x9:Int)=>.cn (decide (16*(0+x7.1.length)<=140737488355328)) (let E2:=bT 2 2&&bJ 0 2&&decide (0<=x9/\x9<(x7.1.length:Int));.cn E2 (.cn E2 (let E1:=x7.1.getD x9.toNat (RK.cq RK.ae);.an (Qc9 x5.1 x5.2 (dG x7.1 x9.toNat {At:=E1.At,D2:=jN u64 E1.D2 hash})) (.lv (Qlj x5.1 x5.2 (dG x7.1 x9.toNat {At:=E1.At,D2:=jN u64 E1.D2 hash})) λ(jM:jQ×Int)=>.br (decide (x9>0)) (.cn (bT 2 2&&bJ 0 2&&decide (0<=wrap i64 (x9-1)/\wrap i64 (x9-1)<(x7.1.length:Int))) (.br (jM.2==0) (.br (!jM.1.Good) (.br (jM.1.D8==x9) (.br (jM.1.At==(x7.1.getD (dF (wrap i64 (x9-1))) (RK.cq RK.ae)).At) (.an FE (.lv El λ(mr:Bool)=>.lf mr)) (.lf false)) (.lf false)) (.lf false)) (.lf false))) (.br (jM.2==0) (.br (!jM.1.Good) (.br (jM.1.D8==x9) (.br (jM.1.At==x5.1.A1) (.an FE (.lv El λ(kS:Bool)=>.lf kS)) (.lf false)) (.lf false)) (.lf false)) (.lf false)))))))))))))))))
def Qfg kind prog events l jP hash:=(Un kind prog events l jP hash).m
abbrev Qg kind prog events l jP hash:=(Un kind prog events l jP hash).p
def Qui:bc:=mT 7 [] true [.one (.int .i64),.one (.ints .i64),.one (.ints .i64),.one (.ints .i64),.one (.int .i64),.one (.int .u64)] [] (λa r=>Un (aq a 0) (eh .i64 a 1) (eh .i64 a 2) (eh .i64 a 3) (aq a 4) (aq a 5)) (λX=>.bool X) (λX=>[])
theorem Qt7:bj pG Qui:=oT (.cons Z5n (.cons Qw6 (.cons Qri (.cons Qu9 (.cons RY (.cons Qrj (.nil))))))) Tryz.func7 Tryz.call7 [] [] 2

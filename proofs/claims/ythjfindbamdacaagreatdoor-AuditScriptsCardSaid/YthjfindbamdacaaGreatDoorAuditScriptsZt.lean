import Derived.Test.YthjfindbamdacaaGreatDoorAuditScriptsZd
import Derived.Test.YthjfindbamdacaaGreatDoorAuditScriptsZx
open Nat renaming beq->bT,blt->bJ,lt_succ_self->cO
open List renaming getD->aK,length->dK,append->cR,take->dB,drop->dC,set->dG
open Int renaming toNat->dF
open UInt8 renaming toNat->eW
set_option maxRecDepth 100000
set_option linter.all false
namespace Go.Proofs.YthjfindbamdacaaGreatDoor
open Go Go.GD Go.IntKind
noncomputable section
instance Sd {α β:Type} [Inhabited β]:Inhabited (α⊕β):=⟨.inr default⟩
def Qsu(src:List UInt8)(z:(Int)×(List Int)):Nat:=((Z2v src).2.1.length-z.1).toNat
def Qsr(src:List UInt8)(v0:Int×List Int)(z:(Int)×(List Int)):Nat:=(1024-z.1).toNat
def N4(src:List UInt8):Tree ((List Int)×tA):=
.an (Qmg src) (.lv (Z2v src) λ(x0:List ob×List kz×tA)=>.br (x0.2.2.Al !=0) (.lf ([],x0.2.2)) (.lp inferInstance (Qsu src (0,[])+1) ((True/\rZ/\True/\True/\True/\rE (0:Int)/\True)/\(rE (0:Int)/\rE (0:Int)/\True)/\rE x0.1/\rE x0.2.1/\rE ([]:List Int)/\True) (0,[]) λ(v0:Int×List Int)=>.br (decide (v0.1<(x0.2.1.length:Int))) (.cn (bT 6 6&&bJ 0 6&&decide (0<=v0.1/\v0.1<(x0.2.1.length:Int))) (let E4:=x0.2.1.getD v0.1.toNat (RK.cj RK.ai);let T1:Tree ((Int×List Int)⊕(((List Int)×tA))):=.lp inferInstance (Qsr src v0 (0,v0.2)+1) ((True/\rZ/\True/\True/\True/\rE v0.1/\rZ/\rE (0:Int)/\True)/\(rE (0:Int)/\rE (0:Int)/\True)/\rE x0.1/\rE x0.2.1/\(rE ((x0.2.1.getD v0.1.toNat (RK.cj RK.ai)).ee:List UInt8)/\rE ((x0.2.1.getD v0.1.toNat (RK.cj RK.ai)).op:Int)/\((ao.Nil (D.toEs (aK (ao.get (ao.av RK.ai x0.2.1) v0.1.toNat) ((0:Nat)+(1:Nat)+(1:Nat)) D.dead))\/rE (3:Nat))/\rE ((x0.2.1.getD v0.1.toNat (RK.cj RK.ai)).l:List (RK.T RK.bb)))/\rE ((x0.2.1.getD v0.1.toNat (RK.cj RK.ai)).D8:Int)/\rE ((x0.2.1.getD v0.1.toNat (RK.cj RK.ai)).at_:Int)/\rE ((x0.2.1.getD v0.1.toNat (RK.cj RK.ai)).size:Int)/\True)/\rE v0.2/\True) (0,v0.2) λ(v1:Int×List Int)=>.br (decide (v1.1<E4.size)) (.cn (decide (4*(v1.2.length+1)<=140737488355328)) (.nx ((True/\rZ/\True/\True/\True/\rE v0.1/\rZ/\rE ((wrap i64 (v1.1+1)):Int)/\True)/\(rE (0:Int)/\rE (0:Int)/\True)/\rE x0.1/\rE x0.2.1/\(rE ((x0.2.1.getD v0.1.toNat (RK.cj RK.ai)).ee:List UInt8)/\rE ((x0.2.1.getD v0.1.toNat (RK.cj RK.ai)).op:Int)/\((ao.Nil (ao.av RK.bb (x0.2.1.getD v0.1.toNat (RK.cj RK.ai)).l)\/rE (3:Nat))/\rE ((x0.2.1.getD v0.1.toNat (RK.cj RK.ai)).l:List (RK.T RK.bb)))/\rE ((x0.2.1.getD v0.1.toNat (RK.cj RK.ai)).D8:Int)/\rE ((x0.2.1.getD v0.1.toNat (RK.cj RK.ai)).at_:Int)/\rE ((x0.2.1.getD v0.1.toNat (RK.cj RK.ai)).size:Int)/\True)/\rE ((v1.2++[0]):List Int)/\True) (Sum.inl (wrap i64 (v1.1+1),v1.2++[0])))) (.nx ((True/\rZ/\True/\True/\True/\rE ((wrap i64 (v0.1+1)):Int)/\True)/\(rE (0:Int)/\rE (0:Int)/\True)/\rE x0.1/\rE x0.2.1/\rE v1.2/\True) (Sum.inr (Sum.inl (wrap i64 (v0.1+1),v1.2))));let E5:=bT 3 3&&bJ 0 3&&decide ((0:Int)<=(0:Int)/\0<(↑(dK E4.l):Int));let E7:=aK E4.l (dF 0) (RK.cj RK.bb);let E8:=decide (4*(v0.2.length+1)<=140737488355328);let T2:Tree ((Int×List Int)⊕(((List Int)×tA))):=.cn E5 (.cn (bT 3 3&&bJ 0 3&&decide ((0:Int)<=(1:Int)/\1<(↑(dK E4.l):Int))) (.lv (oQ {Op:=16,A:=E7.kF,B:=(aK E4.l (dF 1) (RK.cj RK.bb)).kF,C:=0,bn:=0}) λ(x4:Int×Bool)=>.cn E8 (.nx ((True/\rZ/\True/\True/\True/\rE ((wrap i64 (v0.1+1)):Int)/\True)/\(rE (0:Int)/\rE (0:Int)/\True)/\rE x0.1/\rE x0.2.1/\rE ((v0.2++[x4.1]):List Int)/\True) (Sum.inl (wrap i64 (v0.1+1),v0.2++[x4.1])))));let T3:Tree ((Int×List Int)⊕(((List Int)×tA))):=.lv (oQ {Op:=16,A:=0,B:=0,C:=0,bn:=0}) λ(x5:Int×Bool)=>.cn E8 (.nx ((True/\rZ/\True/\True/\True/\rE ((wrap i64 (v0.1+1)):Int)/\True)/\(rE (0:Int)/\rE (0:Int)/\True)/\rE x0.1/\rE x0.2.1/\rE ((v0.2++[x5.1]):List Int)/\True) (Sum.inl (wrap i64 (v0.1+1),v0.2++[x5.1])));let E9:=decide (E4.ee=[(46:UInt8),115,112,97,99,101]);let nk:=decide (E4.ee=[(46:UInt8),119,111,114,100]);let oX:=decide (E4.ee=[(110:UInt8),111,112]);let BE:=decide (4*(v0.2.length+2)<=140737488355328);let H5:=decide (E4.ee=[(108:UInt8),105]);let H6:=decide (E4.ee=[(109:UInt8),118]);.br (decide ((↑(dK E4.l):Int)>(0:Int))) (.cn (bT 3 3&&bJ 0 3&&decide (0<=wrap i64 ((↑(dK E4.l):Int)-(1:Int))/\wrap i64 ((↑(dK E4.l):Int)-(1:Int))<(↑(dK E4.l):Int))) (let E6:=aK E4.l (dF (wrap i64 ((↑(dK E4.l):Int)-(1:Int)))) (RK.cj RK.bb);.br (!decide (E6.label=[])) (.an (GA x0.1 E6.label) (.lv (Qpo x0.1 E6.label) λ(x1:Int×Bool)=>.br (!x1.2) (.lf (Sum.inr ([],{Al:=302,nC:=E4.D8}))) (.br (decide (E4.op>0)) (let nW:=wrap i64 (wrap i64 (Int.tdiv (wrap i64 x1.1) 4)-E4.at_);.br nk (.cn E8 (.nx ((True/\rZ/\True/\True/\True/\rE ((wrap i64 (v0.1+1)):Int)/\True)/\(rE (0:Int)/\rE (0:Int)/\True)/\rE x0.1/\rE x0.2.1/\rE ((v0.2++[wrap u32 (wrap i64 (wrap i64 (Int.tdiv (wrap i64 x1.1) 4)-(x0.2.1.getD v0.1.toNat (RK.cj RK.ai)).at_))]):List Int)/\True) (Sum.inl (wrap i64 (v0.1+1),v0.2++[wrap u32 nW])))) (.br E9 T1 (.br H5 (.cn E5 (.lv (oQ {Op:=24,A:=E7.kF,B:=0,C:=0,bn:=wrap i32 (bg u32 (wrap u32 nW) 16)}) λ(x2:Int×Bool)=>.cn E5 (.cn E5 (.lv (oQ {Op:=18,A:=E7.kF,B:=E7.kF,C:=0,bn:=wrap i32 (bf u32 (wrap u32 nW) 65535)}) λ(x3:Int×Bool)=>.cn BE (.nx ((True/\rZ/\True/\True/\True/\rE ((wrap i64 (v0.1+1)):Int)/\True)/\(rE (0:Int)/\rE (0:Int)/\True)/\rE x0.1/\rE x0.2.1/\rE ((v0.2++[x2.1,x3.1]):List Int)/\True) (Sum.inl (wrap i64 (v0.1+1),v0.2++[x2.1,x3.1]))))))) (.br H6 T2 (.br oX T3 (.an (N2 E4 nW) (.lv (VP E4 nW) λ(x6:Int×Bool)=>.br (!x6.2) (.lf (Sum.inr ([],{Al:=304,nC:=E4.D8}))) (.cn E8 (.nx ((True/\rZ/\True/\True/\True/\rE ((wrap i64 (v0.1+1)):Int)/\True)/\(rE (0:Int)/\rE (0:Int)/\True)/\rE x0.1/\rE x0.2.1/\rE ((v0.2++[x6.1]):List Int)/\True) (Sum.inl (wrap i64 (v0.1+1),v0.2++[x6.1]))))))))))) (.br nk (.cn E8 (.nx ((True/\rZ/\True/\True/\True/\rE ((wrap i64 (v0.1+1)):Int)/\True)/\(rE (0:Int)/\rE (0:Int)/\True)/\rE x0.1/\rE x0.2.1/\rE ((v0.2++[wrap u32 (wrap i64 x1.1)]):List Int)/\True) (Sum.inl (wrap i64 (v0.1+1),v0.2++[wrap u32 (wrap i64 x1.1)])))) (.br E9 T1 (.br H5 (.cn E5 (.lv (oQ {Op:=24,A:=E7.kF,B:=0,C:=0,bn:=wrap i32 (bg u32 (wrap u32 (wrap i64 x1.1)) 16)}) λ(x7:Int×Bool)=>.cn E5 (.cn E5 (.lv (oQ {Op:=18,A:=E7.kF,B:=E7.kF,C:=0,bn:=wrap i32 (bf u32 (wrap u32 (wrap i64 x1.1)) 65535)}) λ(x8:Int×Bool)=>.cn BE (.nx ((True/\rZ/\True/\True/\True/\rE ((wrap i64 (v0.1+1)):Int)/\True)/\(rE (0:Int)/\rE (0:Int)/\True)/\rE x0.1/\rE x0.2.1/\rE ((v0.2++[x7.1,x8.1]):List Int)/\True) (Sum.inl (wrap i64 (v0.1+1),v0.2++[x7.1,x8.1]))))))) (.br H6 T2 (.br oX T3 (.an (N2 E4 (wrap i64 x1.1)) (.lv (VP E4 (wrap i64 x1.1)) λ(mz:Int×Bool)=>.br (!mz.2) (.lf (Sum.inr ([],{Al:=304,nC:=E4.D8}))) (.cn E8 (.nx ((True/\rZ/\True/\True/\True/\rE ((wrap i64 (v0.1+1)):Int)/\True)/\(rE (0:Int)/\rE (0:Int)/\True)/\rE x0.1/\rE x0.2.1/\rE ((v0.2++[mz.1]):List Int)/\True) (Sum.inl (wrap i64 (v0.1+1),v0.2++[mz.1])))))))))))))) (.br nk (.cn E8 (.nx ((True/\rZ/\True/\True/\True/\rE ((wrap i64 (v0.1+1)):Int)/\True)/\(rE (0:Int)/\rE (0:Int)/\True)/\rE x0.1/\rE x0.2.1/\rE ((v0.2++[wrap u32 (aK (x0.2.1.getD v0.1.toNat (RK.cj RK.ai)).l (dF (wrap i64 ((↑(dK (x0.2.1.getD v0.1.toNat (RK.cj RK.ai)).l):Int)-(1:Int)))) (RK.cj RK.bb)).num]):List Int)/\True) (Sum.inl (wrap i64 (v0.1+1),v0.2++[wrap u32 E6.num])))) (.br E9 T1 (.br H5 (.cn E5 (.lv (oQ {Op:=24,A:=E7.kF,B:=0,C:=0,bn:=wrap i32 (bg u32 (wrap u32 E6.num) 16)}) λ(lH:Int×Bool)=>.cn E5 (.cn E5 (.lv (oQ {Op:=18,A:=E7.kF,B:=E7.kF,C:=0,bn:=wrap i32 (bf u32 (wrap u32 E6.num) 65535)}) λ(lW:Int×Bool)=>.cn BE (.nx ((True/\rZ/\True/\True/\True/\rE ((wrap i64 (v0.1+1)):Int)/\True)/\(rE (0:Int)/\rE (0:Int)/\True)/\rE x0.1/\rE x0.2.1/\rE ((v0.2++[lH.1,lW.1]):List Int)/\True) (Sum.inl (wrap i64 (v0.1+1),v0.2++[lH.1,lW.1]))))))) (.br H6 T2 (.br oX T3 (.an (N2 E4 E6.num) (.lv (VP E4 E6.num) λ(uF:Int×Bool)=>.br (!uF.2) (.lf (Sum.inr ([],{Al:=304,nC:=E4.D8}))) (.cn E8 (.nx ((True/\rZ/\True/\True/\True/\rE ((wrap i64 (v0.1+1)):Int)/\True)/\(rE (0:Int)/\rE (0:Int)/\True)/\rE x0.1/\rE x0.2.1/\rE ((v0.2++[uF.1]):List Int)/\True) (Sum.inl (wrap i64 (v0.1+1),v0.2++[uF.1]))))))))))))) (.br nk (.cn E8 (.nx ((True/\rZ/\True/\True/\True/\rE ((wrap i64 (v0.1+1)):Int)/\True)/\(rE (0:Int)/\rE (0:Int)/\True)/\rE x0.1/\rE x0.2.1/\rE ((v0.2++[wrap u32 0]):List Int)/\True) (Sum.inl (wrap i64 (v0.1+1),v0.2++[wrap u32 0])))) (.br E9 T1 (.br H5 (.cn E5 (.lv (oQ {Op:=24,A:=E7.kF,B:=0,C:=0,bn:=wrap i32 (bg u32 (wrap u32 0) 16)}) λ(Hf:Int×Bool)=>.cn E5 (.cn E5 (.lv (oQ {Op:=18,A:=E7.kF,B:=E7.kF,C:=0,bn:=wrap i32 (bf u32 (wrap u32 0) 65535)}) λ(Hg:Int×Bool)=>.cn BE (.nx ((True/\rZ/\True/\True/\True/\rE ((wrap i64 (v0.1+1)):Int)/\True)/\(rE (0:Int)/\rE (0:Int)/\True)/\rE x0.1/\rE x0.2.1/\rE ((v0.2++[Hf.1,Hg.1]):List Int)/\True) (Sum.inl (wrap i64 (v0.1+1),v0.2++[Hf.1,Hg.1]))))))) (.br H6 T2 (.br oX T3 (.an (N2 E4 0) (.lv (VP E4 0) λ(FB:Int×Bool)=>.br (!FB.2) (.lf (Sum.inr ([],{Al:=304,nC:=E4.D8}))) (.cn E8 (.nx ((True/\rZ/\True/\True/\True/\rE ((wrap i64 (v0.1+1)):Int)/\True)/\(rE (0:Int)/\rE (0:Int)/\True)/\rE x0.1/\rE x0.2.1/\rE ((v0.2++[FB.1]):List Int)/\True) (Sum.inl (wrap i64 (v0.1+1),v0.2++[FB.1]))))))))))))) (.lf (Sum.inr (v0.2,{Al:=0,nC:=0})))))
def K8 src:=(N4 src).m
abbrev W6 src:=(N4 src).p
def Z01:bu:={
 α:=(Int)×(List Int)
 F:=λst a=>([(2,(lk st 2)),(3,.ptr 0 0 0),(4,.all 1),(5,.all 2),(7,.all 3),(8,.int i64 a.1)],[⟨true,112,2,.gen [[(cT st 3 0),(cT st 3 1)]]⟩,⟨false,238,2,pj st.rows (rN st 4)⟩,⟨false,175,6,pj st.rows (rN st 5)⟩,⟨false,23,1,.ints u32 a.2⟩])
 a0:=λst=>((lk st 8).toInt,(oP st.rows (rN st 7)))
 jn:=λst=>[]++[(rX st 3 0),(rX st 4 1),(rX st 5 2),(rX st 7 3)]}
def Z0n:bu:={
 α:=(Int)×(List Int)
 F:=λst a=>([(2,(lk st 2)),(3,.ptr 0 0 0),(4,.all 1),(5,.all 2),(7,.all 4),(8,(lk st 8)),(9,.ptr 3 0 0),(14,.int i64 a.1)],[⟨true,112,2,.gen [[(cT st 3 0),(cT st 3 1)]]⟩,⟨false,238,2,pj st.rows (rN st 4)⟩,⟨false,175,6,pj st.rows (rN st 5)⟩,⟨true,175,6,.gen [[(cT st 9 0),(cT st 9 1),(cT st 9 2),(cT st 9 3),(cT st 9 4),(cT st 9 5)]]⟩,⟨false,23,1,.ints u32 a.2⟩])
 a0:=λst=>((lk st 14).toInt,(oP st.rows (rN st 7)))
 jn:=λst=>[]++[(rX st 3 0),(rX st 4 1),(rX st 5 2),(rX st 9 3),(rX st 7 4)]}
def Qu9:List (Nat×bu):=[(6,Z01),(29,Z0n)]
def Z4m:bc:=mT 49 [] true [.one (.str)] [] (λa r=>N4 (iq a 0)) (λX=>.dt [.all 0,.agg (tA.cells (X.2))]) (λX=>[⟨false,23,1,.ints .u32 (X.1)⟩])
theorem Z0a:bj pG Z4m:=oT (.cons Zef (.cons Qo2 (.cons Qk3 (.cons Zfx (.nil))))) Tryz.func49 Tryz.call49 [.row 23 1 (.ints .u32)] Qu9 3
end
noncomputable section
instance Se {α β:Type} [Inhabited β]:Inhabited (α⊕β):=⟨.inr default⟩
def K9(m:au):Tree cy:=
.an (Qc m) (.lv (Jm m) λ(x0:au)=>.lf ({A0:=x0,B3:=0,C8:=[],B0:=[]}))
def Mf m:=(K9 m).m
abbrev Qei m:=(K9 m).p
def Qso:bc:=mT 136 [] true [.agg au.sig] [] (λa r=>K9 (au.of (aC a 0))) (λX=>.agg (cy.fe X (.all 0) (.all 1) (.all 2))) (λX=>[⟨false,23,1,.ints .u32 X.A0.Mem⟩,⟨false,103,4,.av .ab X.C8⟩,⟨false,72,3,.av .bd X.B0⟩])
theorem Qr1:bj pG Qso:=oT (.cons Qsw (.nil)) Tryz.func136 Tryz.call136 [.row 23 1 (.ints .u32),.row 103 4 (.av .ab),.row 72 3 (.av .bd)] [] 2
def Fg(r:cy)(n:Int):Tree (cy×(List dx)):=
.lv (AS n 3) λ(x0:Int)=>.br (Int.tmod x0 (3:Int)==(0:Int)) (.an (Qrk n) (.lv (O3 n) λ(x1:gx)=>.an (Qmx r x1) (.lv (Ej r x1) λ(x2:cy×Bool)=>.lf (x2.1,[])))) (.an (Ev (bg i64 x0 4) 12) (.lv (tM (bg i64 x0 4) 12) λ(x3:Int)=>let E1:=wrap u32 (bf i64 (bg i64 x0 12) 255);.an (Qle r x3 E1) (.lv (Ug r x3 E1) λ(x4:cy×List dx)=>.lf (x4.1,x4.2))))
def wP r n:=(Fg r n).m
abbrev Qtw r n:=(Fg r n).p
def Zjg:bc:=mT 137 [] true [.agg cy.sig,.one (.int .i64)] [] (λa r=>Fg (cy.of (aC a 0)) (aq a 1)) (λX=>.dt [.agg (cy.fe (X.1) (.all 0) (.all 1) (.all 2)),.all 3]) (λX=>[⟨false,23,1,.ints .u32 (X.1).A0.Mem⟩,⟨false,103,4,.av .ab (X.1).C8⟩,⟨false,72,3,.av .bd (X.1).B0⟩,⟨false,137,4,.av .ay (X.2)⟩])
theorem Zfo:bj pG Zjg:=oT (.cons VI (.cons Z2 (.cons Zco (.cons Z02 (.cons R8 (.nil)))))) Tryz.func137 Tryz.call137 [.row 23 1 (.ints .u32),.row 103 4 (.av .ab),.row 72 3 (.av .bd),.row 137 4 (.av .ay)] [] 2
def W8(m:au)(l:List Int)(z:(Int)×cy×(List dx)):Nat:=(l.length-z.1).toNat
def IQ(m:au)(l:List Int):Tree (cy×(List dx)):=
.an (Qei m) (.lv (Mf m) λ(x0:cy)=>.lp inferInstance (W8 m l (0,x0,[])+1) ((((ao.Nil (ao.ints i64 l)\/rE (1:Nat))/\rE (l:List Int))/\rZ/\rZ/\True/\rE (0:Int)/\True)/\(mE zM True (rE (0:Int)/\True/\True/\True))/\(mE x0.A0 True (rE x0.B3/\True/\True/\True))/\rE x0.A0.Mem/\rE x0.C8/\rE x0.B0/\rE ([]:List (RK.T RK.ay))/\True) (0,x0,[]) λ(v0:Int×cy×List dx)=>.br (decide (v0.1<(l.length:Int))) (.cn (bT 1 1&&bJ 0 1&&decide (0<=v0.1/\v0.1<(l.length:Int))) (.an (Qtw v0.2.1 (l.getD v0.1.toNat 0)) (.lv (wP v0.2.1 (l.getD v0.1.toNat 0)) λ(x1:cy×List dx)=>.cn (decide (40*(v0.2.2.length+x1.2.length)<=140737488355328)) (.nx ((((ao.Nil (ao.ints i64 l)\/rE (1:Nat))/\rE (l:List Int))/\rZ/\rZ/\True/\rE ((wrap i64 (v0.1+1)):Int)/\True)/\(mE zM True (rE (0:Int)/\True/\True/\True))/\(mE x1.1.A0 True (rE x1.1.B3/\True/\True/\True))/\rE x1.1.A0.Mem/\rE x1.1.C8/\rE x1.1.B0/\rE ((v0.2.2++x1.2):List (RK.T RK.ay))/\True) (Sum.inl (wrap i64 (v0.1+1),x1.1,v0.2.2++x1.2)))))) (.lf (Sum.inr (v0.2.1,v0.2.2))))
def Yt m l:=(IQ m l).m
abbrev Qlo m l:=(IQ m l).p
def Zgj:bu:={
 α:=(Int)×cy×(List dx)
 F:=λst a=>([(1,(lk st 1)),(4,.ptr 0 0 0),(6,.ptr 1 0 0),(7,.all 5),(8,.int i64 a.1)],[⟨true,154,52,.gen [[(cT st 4 0),(cT st 4 1),(cT st 4 2),(cT st 4 3),(cT st 4 4),(cT st 4 5),(cT st 4 6),(cT st 4 7),(cT st 4 8),(cT st 4 9),(cT st 4 10),(cT st 4 11),(cT st 4 12),(cT st 4 13),(cT st 4 14),(cT st 4 15),(cT st 4 16),(cT st 4 17),(cT st 4 18),(cT st 4 19),(cT st 4 20),(cT st 4 21),(cT st 4 22),(cT st 4 23),(cT st 4 24),(cT st 4 25),(cT st 4 26),(cT st 4 27),(cT st 4 28),(cT st 4 29),(cT st 4 30),(cT st 4 31),(cT st 4 32),(cT st 4 33),(cT st 4 34),(cT st 4 35),(cT st 4 36),(cT st 4 37),(cT st 4 38),(cT st 4 39),(cT st 4 40),(cT st 4 41),(cT st 4 42),(cT st 4 43),(cT st 4 44),(cT st 4 45),(cT st 4 46),(cT st 4 47),(cT st 4 48),(cT st 4 49),(cT st 4 50),(cT st 4 51)]]⟩,⟨true,154,52,.gen [[.int u32 a.2.1.A0.B1.X.a0,.int u32 a.2.1.A0.B1.X.a1,.int u32 a.2.1.A0.B1.X.a2,.int u32 a.2.1.A0.B1.X.a3,.int u32 a.2.1.A0.B1.X.a4,.int u32 a.2.1.A0.B1.X.a5,.int u32 a.2.1.A0.B1.X.a6,.int u32 a.2.1.A0.B1.X.a7,.int u32 a.2.1.A0.B1.X.a8,.int u32 a.2.1.A0.B1.X.a9,.int u32 a.2.1.A0.B1.X.kq,.int u32 a.2.1.A0.B1.X.kr,.int u32 a.2.1.A0.B1.X.a12,.int u32 a.2.1.A0.B1.X.ku,.int u32 a.2.1.A0.B1.X.kv,.int u32 a.2.1.A0.B1.X.ky,.int u32 a.2.1.A0.B1.Pc,.int u32 a.2.1.A0.B1.B4.a0,.int u32 a.2.1.A0.B1.B4.a1,.int u32 a.2.1.A0.B1.B4.a2,.int u32 a.2.1.A0.B1.B4.a3,.int u32 a.2.1.A0.B1.B4.a4,.int u32 a.2.1.A0.B1.B4.a5,.int u32 a.2.1.A0.B1.B4.a6,.int u32 a.2.1.A0.B1.B4.a7,.all 2,.str a.2.1.A0.A3.D1,.bool a.2.1.A0.A9.D3,.int u32 a.2.1.A0.A9.C4,.bool a.2.1.A0.A9.D2,.int u32 a.2.1.A0.A7.ae,.int u32 a.2.1.A0.A7.C1,.int u32 a.2.1.A0.A7.Frame,.int i64 a.2.1.A0.A7.B7,.int i64 a.2.1.A0.A7.D6,.int u32 a.2.1.A0.A7.B6,.int u32 a.2.1.A0.A7.B2,.str a.2.1.A0.A7.B8,.int u32 a.2.1.A0.C3.Frame,.int u32 a.2.1.A0.C3.E0,.bool a.2.1.A0.C3.C5,.int u32 a.2.1.A0.C3.C0,.bool a.2.1.A0.C3.B5,.int u32 a.2.1.A0.C3.F1,.int u32 a.2.1.A0.A2.C7,.int u32 a.2.1.A0.A2.C2,.int u64 a.2.1.A0.A1,.bool a.2.1.A0.A4,.bool a.2.1.A0.A6,.int u32 a.2.1.B3,.all 3,.all 4]]⟩,⟨false,23,1,.ints u32 a.2.1.A0.Mem⟩,⟨false,103,4,.av RK.ab a.2.1.C8⟩,⟨false,72,3,.av RK.bd a.2.1.B0⟩,⟨false,137,4,.av RK.ay a.2.2⟩])
 a0:=λst=>((lk st 8).toInt,(⟨(mR (cT st 6) (oP st.rows (lz (cT st 6 25) 1000000))),(cT st 6 49).toInt,(tF RK.ab st.rows (lz (cT st 6 50) 1000000)),(tF RK.bd st.rows (lz (cT st 6 51) 1000000))⟩:cy),(tF RK.ay st.rows (rN st 7)))
 jn:=λst=>[]++[(rX st 4 0),(rX st 6 1),(lz (cT st 6 25) (st.rows.length+2)),(lz (cT st 6 50) (st.rows.length+3)),(lz (cT st 6 51) (st.rows.length+4)),(rX st 7 5)]}
def Z6m:List (Nat×bu):=[(4,Zgj)]
def Zk1:bc:=mT 79 [] true [.agg au.sig,.one (.ints .i64)] [] (λa r=>IQ (au.of (aC a 0)) (eh .i64 a 1)) (λX=>.dt [.agg (cy.fe (X.1) (.all 0) (.all 1) (.all 2)),.all 3]) (λX=>[⟨false,23,1,.ints .u32 (X.1).A0.Mem⟩,⟨false,103,4,.av .ab (X.1).C8⟩,⟨false,72,3,.av .bd (X.1).B0⟩,⟨false,137,4,.av .ay (X.2)⟩])
theorem Zig:bj pG Zk1:=oT (.cons Qr1 (.cons Zfo (.nil))) Tryz.func79 Tryz.call79 [.row 23 1 (.ints .u32),.row 103 4 (.av .ab),.row 72 3 (.av .bd),.row 137 4 (.av .ay)] Z6m 3
end
noncomputable section
def Cj:List UInt8:=[(105:UInt8),32,114,49,44,32,104,97,110,100,108,101,114,10,99,115,114,119,32,114,49,44,32,49,10,108,105,32,114,49,44,32,51,49,10,99,115,114,119,32,114]
def KS:List UInt8:=[(49:UInt8),44,32,55,10,108,105,32,114,49,44,32,52,10,99,115,114,119,32,114,49,44,32,54,10,108,105,32,114,50,44,32,53,49,50,10,108,105,32,114,51,44]
def KT:List UInt8:=[(32:UInt8),48,10,108,105,32,114,52,44,32,56,10,109,97,112,58,32,115,104,108,105,32,114,53,44,32,114,51,44,32,56,10,111,114,105,32,114,53,44,32,114,53]
def KU:List UInt8:=[(44:UInt8),32,55,10,115,104,108,105,32,114,54,44,32,114,51,44,32,50,10,97,100,100,32,114,54,44,32,114,54,44,32,114,50,10,115,119,32,114,53,44,32,48,40]
def KV:List UInt8:=[(114:UInt8),54,41,10,97,100,100,105,32,114,51,44,32,114,51,44,32,49,10,98,108,116,32,114,51,44,32,114,52,44,32,109,97,112,10,108,105,32,114,49,44,32]
def KW:List UInt8:=[(54:UInt8),10,111,117,116,32,114,49,44,32,55,10,108,105,32,114,49,44,32,50,10,111,117,116,32,114,49,44,32,57,10,108,105,32,114,49,44,32,49,48,48,10,111]
def KX:List UInt8:=[(117:UInt8),116,32,114,49,44,32,51,10,108,105,32,114,49,44,32,54,52,48,10,99,115,114,119,32,114,49,44,32,50,10,108,105,32,114,49,44,32,50,49,10,99]
def KY:List UInt8:=[(115:UInt8),114,119,32,114,49,44,32,48,10,101,114,101,116,10,104,97,110,100,108,101,114,58,32,99,115,114,119,32,114,49,44,32,53,10,99,115,114,114,32,114,49,44]
def KZ:List UInt8:=[(32:UInt8),51,10,115,108,116,105,32,114,49,44,32,114,49,44,32,49,54,10,98,101,113,32,114,49,44,32,114,48,44,32,105,114,113,10,99,115,114,114,32,114,49]
def K0:List UInt8:=[(44:UInt8),32,50,10,97,100,100,105,32,114,49,44,32,114,49,44,32,52,10,99,115,114,119,32,114,49,44,32,50,10,105,110,32,114,51,44,32,50,10,111,117,116]
def K1:List UInt8:=[(32:UInt8),114,51,44,32,48,10,108,105,32,114,49,44,32,49,10,111,117,116,32,114,49,44,32,52,10,108,105,32,114,49,44,32,55,10,111,117,116,32,114,49,44]
def K3:List UInt8:=[(32:UInt8),53,10,97,110,100,105,32,114,49,44,32,114,50,44,32,49,10,97,100,100,105,32,114,49,44,32,114,49,44,32,49,10,111,117,116,32,114,49,44,32,54,10]
def K4:List UInt8:=[(99:UInt8),115,114,114,32,114,49,44,32,53,10,101,114,101,116,10,105,114,113,58,32,105,110,32,114,49,44,32,48,10,111,117,116,32,114,49,44,32,48,10,111,117]
def K5:List UInt8:=[(116:UInt8),32,114,48,44,32,54,10,111,117,116,32,114,48,44,32,57,10,108,105,32,114,49,44,32,54,10,111,117,116,32,114,49,44,32,55,10,108,105,32,114,49,44]
def K6:List UInt8:=[(32:UInt8),50,10,111,117,116,32,114,49,44,32,57,10,105,110,32,114,49,44,32,50,10,97,100,100,105,32,114,49,44,32,114,49,44,32,50,48,10,111,117,116,32]
def K7:List UInt8:=[(114:UInt8),49,44,32,51,10,105,110,32,114,49,44,32,49,48,10,111,117,116,32,114,49,44,32,49,48,10,99,115,114,114,32,114,49,44,32,53,10,101,114,101,116,10]
def Tg:List UInt8:=[(108:UInt8),105,32,114,49,44,32,104,97,110,100,108,101,114,10,99,115,114,119,32,114,49,44,32,49,10,108,105,32,114,49,44,32,51,49,10,99,115,114,119,32,114]
instance Sf {α β:Type} [Inhabited β]:Inhabited (α⊕β):=⟨.inr default⟩
def Qkz(l:List ei)(z:(Int)):Prop:=1<=z/\(z<=l.length\/z=1)
def Qca(l:List ei)(z:(Int)):Nat:=(l.length-z).toNat
def VQ(l:List ei):Tree Bool:=
.lp inferInstance (Qca l 1+1) ((nR RK.ab 4 l/\rE (1:Int)/\True)/\True) 1 λ(v0:Int)=>.br (decide (v0<(l.length:Int))) (let E4:=bT 4 4&&bJ 0 4&&decide (0<=v0/\v0<(l.length:Int));.cn E4 (let E2:=bT 4 4&&bJ 0 4&&decide (0<=wrap i64 (v0-1)/\wrap i64 (v0-1)<(l.length:Int));.cn E2 (let E3:=l.getD (dF (wrap i64 (v0-1))) (RK.cj RK.ab);let E5:=l.getD v0.toNat (RK.cj RK.ab);.br (decide (E5.At<E3.At)) (.lf (Sum.inr false)) (.cn E4 (.cn E2 (let T1:Tree ((Int)⊕(Bool)):=.nx ((nR RK.ab 4 l/\rE ((wrap i64 (v0+1)):Int)/\True)/\True) (Sum.inl (wrap i64 (v0+1)));.br (E5.At==E3.At) (.cn E2 (.br (E3.C6.B9==1) (.lf (Sum.inr false)) T1)) T1)))))) (.lf (Sum.inr true))
def Qyn l:=(VQ l).m
def NP(l:List ei):Prop:=
l.length<=1000000000000
theorem Z0o(l:List ei)(hw:NP l):(VQ l).p:=by
 simp only[NP]at hw
 unfold Tree.p VQ
 repeat'(first|refine ga (inv:=Qkz l) (μ:=Qca l) ?_ (cO _) (λ_ _=>?_)|exact trivial|refine aa (λ_=>?_) (λ_=>?_)|refine ba ?_ ?_|refine cz ?_ ?_|refine ar (λ_ _=>?_)|refine fh ?_|refine ez ?_|refine And.intro ?_ ?_)
 all_goals((try simp only[Qkz,Qca]at*);exact oI)
def Z1u:bu:={
 α:=(Int)
 F:=λst a=>([(0,(lk st 0)),(3,.int i64 a)],[])
 a0:=λst=>(lk st 3).toInt
 jn:=λst=>[]++[]}
def Qwe:List (Nat×bu):=[(2,Z1u)]
def Z6s:bc:=mP 102 [] true [.one (.av .ab)] [] (λa r=>NP (jh .ab a 0)) (λa r=>Qyn (jh .ab a 0)) (λX=>.bool X) (λX=>[])
theorem Z3f:bj pG Z6s:=wc drawn mQ (.nil) Tryz.func102 Tryz.call102 (λa r=>VQ (jh .ab a 0)) [] Qwe 3 (hp:=λa r h=>Z0o (jh .ab a 0) h)
def Te(m:au)(script:List ei)(df:Int)(z:au×(List dx)):Nat:=(df-z.1.A1).toNat
def Qb(m:au)(script:List ei)(df:Int)(v0:au×List dx)(z:Unit):Nat:=0
def Fb(m:au)(script:List ei)(df:Int):Tree (au×(List dx)×Int×Int):=
.lv (pS m) λ(x0:Bool)=>let E2:=({B1:={X:={a0:=0,a1:=0,a2:=0,a3:=0,a4:=0,a5:=0,a6:=0,a7:=0,a8:=0,a9:=0,kq:=0,kr:=0,a12:=0,ku:=0,kv:=0,ky:=0},Pc:=0,B4:={a0:=0,a1:=0,a2:=0,a3:=0,a4:=0,a5:=0,a6:=0,a7:=0}},Mem:=[],A3:={D1:=[]},A9:={D3:=false,C4:=0,D2:=false},A7:={ae:=0,C1:=0,Frame:=0,B7:=0,D6:=0,B6:=0,B2:=0,B8:=[]},C3:={Frame:=0,E0:=0,C5:=false,C0:=0,B5:=false,F1:=0},A2:={C7:=0,C2:=0},A1:=0,A4:=false,A6:=false}:au);let T1:Tree ((au×(List dx)×Int×Int)):=.lf (E2,[],0,1300);.br (!x0) T1 (.br (decide (df<m.A1)) T1 (.br (decide (wrap u64 (df-m.A1)>4000)) T1 (.an (NP []) (.lv (Qyn []) λ(x1:Bool)=>.br (!x1) (.lf (E2,[],0,1301)) (.an (Qc m) (.lv (Jm m) λ(x2:au)=>.lp inferInstance (Te m script df (x2,[])+1) ((((ao.Nil (ao.gen [])\/rE (0:Nat))/\rE ([]:List (List D)))/\rE (df:Int)/\rZ/\rZ/\True/\rE (0:Int)/\True)/\(mE x2 True True)/\rE x2.Mem/\(mE zM True True)/\rE ([]:List (RK.T RK.ay))/\True) (x2,[]) λ(v0:au×List dx)=>.br (decide (v0.1.A1<df)) (.br (decide (v0.1.A1<1152921504606846976)) (.lp inferInstance (Qb m script df v0 ()+1) ((((ao.Nil (ao.gen [])\/rE (0:Nat))/\rE ([]:List (List D)))/\rE (df:Int)/\rZ/\rZ/\True/\rE (0:Int)/\(rE (0:Nat)/\rE (46:Nat))/\rE v0.1.A1/\rE ((decide (v0.1.A1<1152921504606846976)):Bool)/\True)/\(mE v0.1 True True)/\rE v0.1.Mem/\(mE zM True True)/\rE v0.2/\True) () λ(v1:PUnit)=>.br v0.1.A6 (.lf (Sum.inr (Sum.inr (v0.1,v0.2,0,0)))) (.an (Qmn v0.1) (.lv (sQ v0.1) λ(x3:Bool)=>.br x3 (.lf (Sum.inr (Sum.inr (v0.1,v0.2,0,0)))) (.an (Qju v0.1) (.lv (oV v0.1) λ(x4:Bool)=>.br (!false==x4) (.lf (Sum.inr (Sum.inr (E2,[],0,1302)))) (.an (Qfs v0.1 0) (.lv (fv v0.1 0) λ(x5:List dx×au)=>.cn (decide (40*(v0.2.length+x5.1.length)<=140737488355328)) (.nx ((((ao.Nil (ao.gen [])\/rE (0:Nat))/\rE ([]:List (List D)))/\rE (df:Int)/\rZ/\rZ/\True/\rE (0:Int)/\True)/\(mE x5.2 True True)/\rE x5.2.Mem/\(mE zM True True)/\rE ((v0.2++x5.1):List (RK.T RK.ay))/\True) (Sum.inr (Sum.inl (x5.2,v0.2++x5.1))))))))))) (.lf (Sum.inr (v0.1,v0.2,0,0)))) (.lf (Sum.inr (v0.1,v0.2,0,0)))))))))
def IS m script df:=(Fb m script df).m
abbrev VR m script df:=(Fb m script df).p
def Zdx:bu:={
 α:=au×(List dx)
 F:=λst a=>([(1,(lk st 1)),(2,(lk st 2)),(3,.ptr 0 0 0),(6,.ptr 2 0 0),(10,.all 3),(11,(lk st 11))],[⟨true,42,49,.gen [mD a.1 (.all 1)]⟩,⟨false,23,1,.ints u32 a.1.Mem⟩,⟨true,42,49,.gen [mB (cT st 6)]⟩,⟨false,137,4,.av RK.ay a.2⟩])
 a0:=λst=>((mR (cT st 3) (oP st.rows (lz (cT st 3 25) 1000000))),(tF RK.ay st.rows (rN st 10)))
 jn:=λst=>[]++[(rX st 3 0),(lz (cT st 3 25) (st.rows.length+1)),(rX st 6 2),(rX st 10 3)]}
def Ze1:bu:={
 α:=Unit
 F:=λst a=>([(1,(lk st 1)),(2,(lk st 2)),(3,.ptr 0 0 0),(6,.ptr 2 0 0),(10,.all 3),(11,(lk st 11)),(61,.ptr 0 0 46),(62,(lk st 62)),(63,(lk st 63))],[⟨true,42,49,.gen [[(cT st 3 0),(cT st 3 1),(cT st 3 2),(cT st 3 3),(cT st 3 4),(cT st 3 5),(cT st 3 6),(cT st 3 7),(cT st 3 8),(cT st 3 9),(cT st 3 10),(cT st 3 11),(cT st 3 12),(cT st 3 13),(cT st 3 14),(cT st 3 15),(cT st 3 16),(cT st 3 17),(cT st 3 18),(cT st 3 19),(cT st 3 20),(cT st 3 21),(cT st 3 22),(cT st 3 23),(cT st 3 24),.all 1,(cT st 3 26),(cT st 3 27),(cT st 3 28),(cT st 3 29),(cT st 3 30),(cT st 3 31),(cT st 3 32),(cT st 3 33),(cT st 3 34),(cT st 3 35),(cT st 3 36),(cT st 3 37),(cT st 3 38),(cT st 3 39),(cT st 3 40),(cT st 3 41),(cT st 3 42),(cT st 3 43),(cT st 3 44),(cT st 3 45),(cT st 3 46),(cT st 3 47),(cT st 3 48)]]⟩,⟨false,23,1,pj st.rows (lz (cT st 3 25) 1000000)⟩,⟨true,42,49,.gen [mB (cT st 6)]⟩,⟨false,137,4,pj st.rows (rN st 10)⟩])
 a0:=λst=>()
 jn:=λst=>[]++[(rX st 3 0),(lz (cT st 3 25) (st.rows.length+1)),(rX st 6 2),(rX st 10 3)]}
def Z4t:List (Nat×bu):=[(8,Zdx),(9,Ze1)]
def Zf4:bc:=mT 52 [] true [.agg au.sig,.one .nil,.one (.int .u64)] [] (λa r=>Fb (au.of (aC a 0)) (jh .ab a 1) (aq a 2)) (λX=>.dt [.agg (au.fe (X.1) (.all 0)),.all 1,.int .i64 (X.2.2.1),.int .i64 (X.2.2.2)]) (λX=>[⟨false,23,1,.ints .u32 (X.1).Mem⟩,⟨false,137,4,.av .ay (X.2.1)⟩])
theorem Zd5:bj pG Zf4:=oT (.cons Qt8 (.cons Z3f (.cons Qsw (.cons Zay (.cons Qyk (.cons Qv5 (.cons Z5r (.nil)))))))) Tryz.func52 Tryz.call52 [.row 23 1 (.ints .u32),.row 137 4 (.av .ay)] Z4t 3
def Ti(kind:Int)(l z:List Int):Nat:=160-z.length
def Fe(kind:Int)(l:List Int):Tree au:=
.an (Ev kind 3) (.lv (tM kind 3) λ(x0:Int)=>.br (decide (x0<2)) (.an (W6 ((108:UInt8)::(Cj++KS++(KT++KU)++(KV++KW++(KX++KY))++(KZ++K0++(K1++K3)++(K4++K5++(K6++K7)))))) (.lv (K8 (cR (cR (cR (cR Tg KS) (cR KT KU)) (cR (cR KV KW) (cR KX KY))) (cR (cR (cR KZ K0) (cR K1 K3)) (cR (cR K4 K5) (cR K6 K7))))) λ(x1:List Int×tA)=>.lp inferInstance (Ti kind l x1.1+1) ((rE (x0:Int)/\((ao.Nil (ao.ints i64 l)\/rE (1:Nat))/\rE (l:List Int))/\rZ/\True/\True)/\(mE zM True True)/\rE x1.1/\True) x1.1 λ(v0:List Int)=>.br (decide ((v0.length:Int)<(160:Int))) (.cn (decide (4*(v0.length+1)<=140737488355328)) (.nx ((rE (x0:Int)/\((ao.Nil (ao.ints i64 l)\/rE (1:Nat))/\rE (l:List Int))/\rZ/\True/\True)/\(mE zM True True)/\rE ((v0++[0]):List Int)/\True) (Sum.inl (v0++[0])))) (.an (Qll l) (.lv (Mg l) λ(x2:List Int)=>.cn (decide (4*(v0.length+x2.length)<=140737488355328)) (.br (decide ((↑(dK (v0++x2)):Int)>(256:Int))) (.cn (bT 1 1&&bJ 0 1&&decide ((0:Int)<=(0:Int)/\(0:Int)<=(256:Int)/\256<=(↑(dK (v0++x2)):Int))) (let E1:=dB (dF 256-dF 0) (dC (dF 0) (v0++x2));.an (VJ 8 4 E1) (.lv (k9 8 4 E1) λ(x3:au×Bool)=>.br (x0==1) (.an (VR x3.1 [] 87) (.lv (IS x3.1 [] 87) λ(x4:au×List dx×Int×Int)=>.lf (Sum.inr x4.1))) (.lf (Sum.inr x3.1))))) (.an (VJ 8 4 (v0++x2)) (.lv (k9 8 4 (v0++x2)) λ(x5:au×Bool)=>.br (x0==1) (.an (VR x5.1 [] 87) (.lv (IS x5.1 [] 87) λ(x6:au×List dx×Int×Int)=>.lf (Sum.inr x6.1))) (.lf (Sum.inr x5.1))))))))) (.an (Qll l) (.lv (Mg l) λ(x7:List Int)=>.cn (decide (4*(0+x7.length)<=140737488355328)) (.br (decide ((x7.length:Int)>(256:Int))) (.cn (bT 1 1&&bJ 0 1&&decide ((0:Int)<=(0:Int)/\(0:Int)<=(256:Int)/\256<=(x7.length:Int))) (let E2:=dB (dF 256-dF 0) (dC (dF 0) x7);.an (VJ 8 4 E2) (.lv (k9 8 4 E2) λ(x8:au×Bool)=>.br (x0==1) (.an (VR x8.1 [] 87) (.lv (IS x8.1 [] 87) λ(x9:au×List dx×Int×Int)=>.lf x9.1)) (.lf x8.1)))) (.an (VJ 8 4 x7) (.lv (k9 8 4 x7) λ(kI:au×Bool)=>.br (x0==1) (.an (VR kI.1 [] 87) (.lv (IS kI.1 [] 87) λ(mz:au×List dx×Int×Int)=>.lf mz.1)) (.lf kI.1)))))))
def Fy kind l:=(Fe kind l).m
abbrev Yy kind l:=(Fe kind l).p
def Z4b:bu:={
 α:=(List Int)
 F:=λst a=>([(0,(lk st 0)),(1,(lk st 1)),(4,.ptr 0 0 0),(5,.all 1)],[⟨true,42,49,.gen [mB (cT st 4)]⟩,⟨false,23,1,.ints u32 a⟩])
 a0:=λst=>(oP st.rows (rN st 5))
 jn:=λst=>[]++[(rX st 4 0),(rX st 5 1)]}
def Qw2:List (Nat×bu):=[(5,Z4b)]
def Z7n:bc:=mT 13 [] true [.one (.int .i64),.one (.ints .i64)] [] (λa r=>Fe (aq a 0) (eh .i64 a 1)) (λX=>.agg (au.fe X (.all 0))) (λX=>[⟨false,23,1,.ints .u32 X.Mem⟩])
theorem Qpa:bj pG Z7n:=oT (.cons R8 (.cons Z0a (.cons Zfj (.cons Zl3 (.cons Zd5 (.nil)))))) Tryz.func13 Tryz.call13 [.row 23 1 (.ints .u32)] Qw2 3
end
noncomputable section
def Z27(m:au)(clock:Int):Tree (au×(List dx)):=
.an (Qc m) (.lv (Jm m) λ(x0:au)=>.an (VS x0) (.lv (mN x0) λ(x1:Bool)=>.br x1 (.lf (x0,[])) (.an (Qfs x0 clock) (.lv (fv x0 clock) λ(x2:List dx×au)=>.lf (x2.2,x2.1)))))
def Yh m clock:=(Z27 m clock).m
def Ud(m:au)(e:gx):Tree (au×Bool):=
.an (Qc m) (.lv (Jm m) λ(x0:au)=>.lv (pS x0) λ(x1:Bool)=>.br (!x1) (.lf (x0,false)) (.an (Qrn x0 e) (.lv (lL x0 e) λ(x2:Bool×au)=>.lf (x2.2,x2.1))))
def OZ m e:=(Ud m e).m
def Xc(t:iW):Tree (iW×Bool):=
.br (!t.D3) (.lf (t,false)) (.lf ({D3:=false,C4:=t.C4,D2:=true},true))
def Tl t:=(Xc t).m
def Zgu:bc:=mS 74 [] true [.agg iW.sig] [] (λa r=>Xc (iW.of (aC a 0))) (λX=>.dt [.agg (iW.cells (X.1)),.bool (X.2)]) (λX=>[])
theorem Zc3:bj pG Zgu:=oS (.nil) Tryz.func74 Tryz.call74 [] [] 2
def Oc(c:iV)(b:Int):Tree (iV×Bool):=
.br (decide ((c.D1.length:Int)>=(16:Int))) (.lf (c,false)) (.cn (decide (c.D1.length+1<=maxLen)) (.lf ({D1:=c.D1++[(λ(n:Int)=>UInt8.ofNat n.toNat) b]},true)))
def Qol c b:=(Oc c b).m
abbrev Qn7 c b:=(Oc c b).p
def Z7i:bc:=mT 75 [] true [.agg iV.sig,.one (.int .u8)] [] (λa r=>Oc (iV.of (aC a 0)) (aq a 1)) (λX=>.dt [.agg (iV.cells (X.1)),.bool (X.2)]) (λX=>[])
theorem Z5k:bj pG Z7i:=oT (.nil) Tryz.func75 Tryz.call75 [] [] 2
def Lc(d0:fp)(m:List Int)(e:gx):Tree (fp×(List Int)×Bool):=
let T2:Tree ((fp×(List Int)×Bool)):=.an (mL m) (.lv (jD m) λ(x0:List Int)=>.lf (d0,x0,false));.br (d0.B7 !=1) T2 (.br (e.B9 !=4) T2 (.br (decide (e.N>1)) T2 (.an (mL m) (.lv (jD m) λ(x3:List Int)=>let E3:=({ae:=d0.ae,C1:=d0.C1,Frame:=d0.Frame,B7:=2,D6:=0,B6:=0,B2:=0,B8:=[]}:fp);let E4:=({ae:=d0.ae,C1:=d0.C1,Frame:=d0.Frame,B7:=3,D6:=0,B6:=0,B2:=0,B8:=[]}:fp);let T1:Tree ((fp×(List Int)×Bool)):=.br (!decide (e.C9=[])) (.lf (d0,x3,false)) (.br (e.N==1) (.lf (E3,x3,true)) (.lf (E4,x3,true)));.br (e.N==1) (.br (d0.D6==1) (.lv (IV m d0.B2) λ(x4:Bool)=>.br (!x4) (.lf (d0,x3,false)) (.an (Q8k m (wrap i64 d0.B2) e.C9) (.lv (Ec m (wrap i64 d0.B2) e.C9) λ(x5:List Int×Bool)=>.br (!x5.2) (.lf (d0,x5.1,false)) (.br (e.N==1) (.lf (E3,x5.1,true)) (.lf (E4,x5.1,true)))))) T1) T1))))
def X0 d0 m e:=(Lc d0 m e).m
abbrev Qke d0 m e:=(Lc d0 m e).p
def Z47:bc:=mT 76 [] true [.agg fp.sig,.one (.ints .u32),.agg gx.sig] [] (λa r=>Lc (fp.of (aC a 0)) (eh .u32 a 1) (gx.of (aC a 2))) (λX=>.dt [.agg (fp.cells (X.1)),.all 0,.bool (X.2.2)]) (λX=>[⟨false,23,1,.ints .u32 (X.2.1)⟩])
theorem Z0m:bj pG Z47:=oT (.cons Ew (.cons Qs5 (.cons Qdt (.nil)))) Tryz.func76 Tryz.call76 [.row 23 1 (.ints .u32)] [] 2
def Ld(n:ia)(m:List Int)(frame:List UInt8):Tree (ia×(List Int)×Bool):=
let T1:Tree ((ia×(List Int)×Bool)):=.an (mL m) (.lv (jD m) λ(x0:List Int)=>.lf (n,x0,false));.br (!n.C5) T1 (.br (decide ((frame.length:Int)<(1:Int))) T1 (.br (decide ((frame.length:Int)>(128:Int))) T1 (.lv (GG m n.C0) λ(x3:Bool)=>.br (!x3) T1 (.an (Qcp m (wrap i64 n.C0)) (.lv (Eb m (wrap i64 n.C0)) λ(x5:List UInt8×Bool)=>.cn (decide (0<=(frame.length:Int)/\(frame.length:Int)<=(x5.1.length:Int)/\(x5.1.length:Int)<=(x5.1.length:Int))) (let E2:=dF (x5.1.length:Int)-dF (frame.length:Int);let E3:=dC (dF (frame.length:Int)) x5.1;.cn (decide (frame.length+dK (dB E2 E3)<=maxLen)) (.an (Q8k m (wrap i64 n.C0) (frame++dB E2 E3)) (.lv (Ec m (wrap i64 n.C0) (frame++dB E2 E3)) λ(x6:List Int×Bool)=>.lf ({Frame:=n.Frame,E0:=n.E0,C5:=false,C0:=0,B5:=true,F1:=wrap u32 (frame.length:Int)},x6.1,true)))))))))
def X1 n m frame:=(Ld n m frame).m
abbrev Qp0 n m frame:=(Ld n m frame).p
def Zb0:bc:=mT 77 [] true [.agg ia.sig,.one (.ints .u32),.one (.str)] [] (λa r=>Ld (ia.of (aC a 0)) (eh .u32 a 1) (iq a 2)) (λX=>.dt [.agg (ia.cells (X.1)),.all 0,.bool (X.2.2)]) (λX=>[⟨false,23,1,.ints .u32 (X.2.1)⟩])
theorem Z7k:bj pG Zb0:=oT (.cons Qlt (.cons Ew (.cons Qk7 (.cons Qdt (.nil))))) Tryz.func77 Tryz.call77 [.row 23 1 (.ints .u32)] [] 2
def GQ(m:au)(e:gx):Tree (au×Bool):=
.an (mL m.Mem) (.lv (jD m.Mem) λ(x0:List Int)=>let E2:=({B1:=m.B1,Mem:=x0,A3:=m.A3,A9:=m.A9,A7:=m.A7,C3:=m.C3,A2:=m.A2,A1:=m.A1,A4:=m.A4,A6:=m.A6}:au);.an (RU E2) (.lv (nc E2) λ(x1:Bool)=>let T1:Tree ((au×Bool)):=.lf (E2,false);.br (!x1) T1 (.br m.A6 T1 (.br (e.B9==2) (.br (e.N==0) (.br (decide (e.C9=[])) (.lv (Tl m.A9) λ(x2:iW×Bool)=>.lf ({B1:=m.B1,Mem:=x0,A3:=m.A3,A9:=x2.1,A7:=m.A7,C3:=m.C3,A2:=m.A2,A1:=m.A1,A4:=m.A4,A6:=m.A6},x2.2)) T1) T1) (.br (e.B9==3) (.br (decide (e.N<=255)) (.br (decide (e.C9=[])) (.an (Qn7 m.A3 (wrap u8 e.N)) (.lv (Qol m.A3 (wrap u8 e.N)) λ(x3:iV×Bool)=>.lf ({B1:=m.B1,Mem:=x0,A3:=x3.1,A9:=m.A9,A7:=m.A7,C3:=m.C3,A2:=m.A2,A1:=m.A1,A4:=m.A4,A6:=m.A6},x3.2))) T1) T1) (.br (e.B9==4) (.an (Qke m.A7 x0 e) (.lv (X0 m.A7 x0 e) λ(x4:fp×List Int×Bool)=>.lf ({B1:=m.B1,Mem:=x4.2.1,A3:=m.A3,A9:=m.A9,A7:=x4.1,C3:=m.C3,A2:=m.A2,A1:=m.A1,A4:=m.A4,A6:=m.A6},x4.2.2))) (.br (e.B9==5) (.br (e.N==0) (.an (Qp0 m.C3 x0 e.C9) (.lv (X1 m.C3 x0 e.C9) λ(x5:ia×List Int×Bool)=>.lf ({B1:=m.B1,Mem:=x5.2.1,A3:=m.A3,A9:=m.A9,A7:=m.A7,C3:=x5.1,A2:=m.A2,A1:=m.A1,A4:=m.A4,A6:=m.A6},x5.2.2))) T1) (.br (e.B9==6) (.br (decide (e.C9=[])) (.lf ({B1:=m.B1,Mem:=x0,A3:=m.A3,A9:=m.A9,A7:=m.A7,C3:=m.C3,A2:={C7:=e.N,C2:=m.A2.C2},A1:=m.A1,A4:=m.A4,A6:=m.A6},true)) T1) T1))))))))
def L5 m e:=(GQ m e).m
abbrev Qdl m e:=(GQ m e).p
def Z59:bc:=mT 32 [] true [.agg au.sig,.agg gx.sig] [] (λa r=>GQ (au.of (aC a 0)) (gx.of (aC a 1))) (λX=>.dt [.agg (au.fe (X.1) (.all 0)),.bool (X.2)]) (λX=>[⟨false,23,1,.ints .u32 (X.1).Mem⟩])
theorem Qzt:bj pG Z59:=oT (.cons Ew (.cons Qjy (.cons Zc3 (.cons Z5k (.cons Z0m (.cons Z7k (.nil))))))) Tryz.func32 Tryz.call32 [.row 23 1 (.ints .u32)] [] 2
end
noncomputable section
instance Sg {α β:Type} [Inhabited β]:Inhabited (α⊕β):=⟨.inr default⟩
def VT(b:List Int):(List Int):=
b
def Qbx(b:List Int):List D:=[.ptr 0 0 0]
def Qbl(b:List Int):List Row:=[⟨true,293,2,.gen [[.c8 0,.all 1]]⟩,⟨false,5,1,.ints .u8 b⟩]
def Q7j(X:List Int):D:=.dt []
def Q78(X:List Int):List Row:=[⟨true,293,2,.gen [[.c8 0,.all 1]]⟩,⟨false,5,1,.ints .u8 X⟩]
def Qcj:List PT:=[.ptr 0]
def Qbq:List RT:=[.box 293 2 [.self 0,.row 1],.arr 5 1 (.ints .u8)]
def Qlu(args:List D)(rows:List Row):(List Int):=VT (gj .u8 rows 1)
def Qpe:bc:=EC 301 [true] true Qcj Qbq Qlu Q7j Q78
theorem Qjw(b:List Int):j9 pG 301 (Qbx b) (Qbl b) (Q7j (VT b)) (Q78 (VT b)):=by
 exact xI (ρ:=Tryz.jO) {Tryz.rI with} Tryz.jb.toX72 (by kernel_rfl) _
set_option maxRecDepth 100000 in
theorem Qkf(args:List D)(rows:List Row):Qe Qcj args 0=Qbx (gj .u8 rows 1):=by kernel_rfl
set_option maxRecDepth 100000 in
theorem Qk4(args:List D)(rows:List Row):lr Qbq rows 0=Qbl (gj .u8 rows 1):=by kernel_rfl
set_option maxRecDepth 100000 in
theorem Qnk(X:List Int):(wa (Q7j X)&&jI (Q78 X))=true:=by kernel_rfl
theorem Qni:bj pG Qpe:=qae Tryz.call301 (λa r=>by rw[Qkf a r,Qk4 a r];exact Qjw (gj .u8 r 1)) (λ_ X=>Qnk X)
def Pd(b:List Int)(s:List UInt8):Tree (Int×Unit×(List Int)):=
.lv (VT b) λ(x0:List Int)=>.cn (decide (1*(x0.length+dK (jx s))<=140737488355328)) (.lf ((s.length:Int),(),x0++jx s))
def Q9a b s:=(Pd b s).m
abbrev Q6c b s:=(Pd b s).p
def Qm:bc:=lZ 1 258 [true,false] [.ptr 0,.one (.str)] [.box 293 2 [.self 0,.row 1],.arr 5 1 (.ints .u8)] (λa r=>Q6c (gj .u8 r 1) (iq a 1)) (λa r=>Q9a (gj .u8 r 1) (iq a 1)) (λX=>.dt [.int .i64 (X.1),.jJ]) (λX=>[⟨true,293,2,.gen [[.c8 0,.all 1]]⟩,⟨false,5,1,.ints .u8 (X.2.2)⟩])
theorem Qbn:bj pG Qm:=Eu drawn mQ (.cons Qni (.nil)) Tryz.func258 Tryz.call258 (λa r=>Pd (gj .u8 r 1) (iq a 1)) [.row 5 1 (.ints .u8)] [] 2 (λ_ _ _=>by kernel_rfl) (λ_ _=>rfl) (λ_ _ h=>h)
def Qf2(x:Int)(z:(Int)×(List Int)):Nat:=z.1.toNat
def Pa(x:Int):Tree (List UInt8):=
.lp inferInstance (Qf2 x (x,[])+1) ((rE (x:Int)/\True/\True)/\rE ([]:List Int)/\True) (x,[]) λ(v0:Int×List Int)=>let E1:=decide (1*(v0.2.length+1)<=140737488355328);.br (decide (v0.1>=128)) (.cn E1 (.nx ((rE ((bg u64 v0.1 7):Int)/\True/\True)/\rE ((v0.2++[ir u8 (wrap u8 v0.1) 128]):List Int)/\True) (Sum.inl (bg u64 v0.1 7,v0.2++[ir u8 (wrap u8 v0.1) 128])))) (.cn E1 (.lf (Sum.inr (bytesOf (v0.2++[wrap u8 v0.1])))))
def Qo3 x:=(Pa x).m
abbrev Qix x:=(Pa x).p
def Qu1:bu:={
 α:=(Int)×(List Int)
 F:=λst a=>([(0,.int u64 a.1),(3,.all 0)],[⟨false,5,1,.ints u8 a.2⟩])
 a0:=λst=>((lk st 0).toInt,(oP st.rows (rN st 3)))
 jn:=λst=>[]++[(rX st 3 0)]}
def Qqq:List (Nat×bu):=[(2,Qu1)]
def Qx0:bc:=mT 286 [] true [.one (.int .u64)] [] (λa r=>Pa (aq a 0)) (λX=>.str X) (λX=>[])
theorem Qud:bj pG Qx0:=oT (.nil) Tryz.func286 Tryz.call286 [] Qqq 3
def Q9b(c list:List Int)(z:(Int)×(List Int)):Nat:=(list.length-z.1).toNat
def Pe(c list:List Int):Tree (List Int):=
.lp inferInstance (Q9b c list (0,c)+1) ((rZ/\((ao.Nil (ao.ints u64 list)\/rE (1:Nat))/\rE (list:List Int))/\rE ((list.length:Int):Int)/\rE (0:Int)/\True)/\(True/\True/\True)/\rE (c:List Int)/\True) (0,c) λ(v0:Int×List Int)=>.br (decide (v0.1<(list.length:Int))) (.cn (bT 1 1&&bJ 0 1&&decide (0<=v0.1/\v0.1<(list.length:Int))) (.an (Qix (list.getD v0.1.toNat 0)) (.lv (Qo3 (list.getD v0.1.toNat 0)) λ(x0:List UInt8)=>.an (Q6c v0.2 x0) (.lv (Q9a v0.2 x0) λ(x1:Int×Unit×List Int)=>.nx ((rZ/\((ao.Nil (ao.ints u64 list)\/rE (1:Nat))/\rE (list:List Int))/\rE ((list.length:Int):Int)/\rE ((wrap i64 (v0.1+1)):Int)/\True)/\(True/\True/\True)/\rE x1.2.2/\True) (Sum.inl (wrap i64 (v0.1+1),x1.2.2)))))) (.lf (Sum.inr v0.2))
def H7 c list:=(Pe c list).m
abbrev H8 c list:=(Pe c list).p
def Qkq:bu:={
 α:=(Int)×(List Int)
 F:=λst a=>([(0,.ptr 0 0 0),(6,(lk st 6)),(7,(lk st 7)),(8,.int i64 a.1)],[⟨true,293,2,.gen [[.c8 0,.all 1]]⟩,⟨false,5,1,.ints u8 a.2⟩])
 a0:=λst=>((lk st 8).toInt,(oP st.rows (lz (iS st.rows 0 1) 1000000)))
 jn:=λst=>[0]++[(lz (iS st.rows 0 1) (st.rows.length+1))]}
def Qj2:List (Nat×bu):=[(1,Qkq)]
def Qm4:bc:=lZ 1 227 [true,false] [.ptr 0,.one (.ints .u64)] [.box 293 2 [.self 0,.row 1],.arr 5 1 (.ints .u8)] (λa r=>H8 (gj .u8 r 1) (eh .u64 a 1)) (λa r=>H7 (gj .u8 r 1) (eh .u64 a 1)) (λX=>.dt []) (λX=>[⟨true,293,2,.gen [[.c8 0,.all 1]]⟩,⟨false,5,1,.ints .u8 X⟩])
theorem VU:bj pG Qm4:=Eu drawn mQ (.cons Qbn (.cons Qud (.nil))) Tryz.func227 Tryz.call227 (λa r=>Pe (gj .u8 r 1) (eh .u64 a 1)) [.row 5 1 (.ints .u8)] Qj2 3 (λ_ _ _=>by kernel_rfl) (λ_ _=>rfl) (λ_ _ h=>h)
def Qan(c list:List Int)(z:(Int)×(List Int)):Nat:=(list.length-z.1).toNat
def Pf(c list:List Int):Tree (List Int):=
.lp inferInstance (Qan c list (0,c)+1) ((rZ/\((ao.Nil (ao.ints u32 list)\/rE (1:Nat))/\rE (list:List Int))/\rE ((list.length:Int):Int)/\rE (0:Int)/\True)/\(True/\True/\True)/\rE (c:List Int)/\True) (0,c) λ(v0:Int×List Int)=>.br (decide (v0.1<(list.length:Int))) (.cn (bT 1 1&&bJ 0 1&&decide (0<=v0.1/\v0.1<(list.length:Int))) (.an (H8 v0.2 [wrap u64 (list.getD v0.1.toNat 0)]) (.lv (H7 v0.2 [wrap u64 (list.getD v0.1.toNat 0)]) λ(x0:List Int)=>.nx ((rZ/\((ao.Nil (ao.ints u32 list)\/rE (1:Nat))/\rE (list:List Int))/\rE ((list.length:Int):Int)/\rE ((wrap i64 (v0.1+1)):Int)/\True)/\(True/\True/\True)/\rE (x0:List Int)/\True) (Sum.inl (wrap i64 (v0.1+1),x0))))) (.lf (Sum.inr v0.2))
def BF c list:=(Pf c list).m
abbrev BG c list:=(Pf c list).p
def Qno:bu:={
 α:=(Int)×(List Int)
 F:=λst a=>([(0,.ptr 0 0 0),(6,(lk st 6)),(7,(lk st 7)),(8,.int i64 a.1)],[⟨true,293,2,.gen [[.c8 0,.all 1]]⟩,⟨false,5,1,.ints u8 a.2⟩])
 a0:=λst=>((lk st 8).toInt,(oP st.rows (lz (iS st.rows 0 1) 1000000)))
 jn:=λst=>[0]++[(lz (iS st.rows 0 1) (st.rows.length+1))]}
def Ql8:List (Nat×bu):=[(1,Qno)]
def Qob:bc:=lZ 1 226 [true,false] [.ptr 0,.one (.ints .u32)] [.box 293 2 [.self 0,.row 1],.arr 5 1 (.ints .u8)] (λa r=>BG (gj .u8 r 1) (eh .u32 a 1)) (λa r=>BF (gj .u8 r 1) (eh .u32 a 1)) (λX=>.dt []) (λX=>[⟨true,293,2,.gen [[.c8 0,.all 1]]⟩,⟨false,5,1,.ints .u8 X⟩])
theorem Qnp:bj pG Qob:=Eu drawn mQ (.cons VU (.nil)) Tryz.func226 Tryz.call226 (λa r=>Pf (gj .u8 r 1) (eh .u32 a 1)) [.row 5 1 (.ints .u8)] Ql8 3 (λ_ _ _=>by kernel_rfl) (λ_ _=>rfl) (λ_ _ h=>h)
def Q4(c:List Int)(s:List UInt8):Tree (List Int):=
.an (H8 c [wrap u64 (s.length:Int)]) (.lv (H7 c [wrap u64 (s.length:Int)]) λ(x0:List Int)=>.an (Q6c x0 s) (.lv (Q9a x0 s) λ(x1:Int×Unit×List Int)=>.lf x1.2.2))
def Qb8 c s:=(Q4 c s).m
abbrev Q77 c s:=(Q4 c s).p
def Qpl:bc:=lZ 1 228 [true,false] [.ptr 0,.one (.str)] [.box 293 2 [.self 0,.row 1],.arr 5 1 (.ints .u8)] (λa r=>Q77 (gj .u8 r 1) (iq a 1)) (λa r=>Qb8 (gj .u8 r 1) (iq a 1)) (λX=>.dt []) (λX=>[⟨true,293,2,.gen [[.c8 0,.all 1]]⟩,⟨false,5,1,.ints .u8 X⟩])
theorem Qne:bj pG Qpl:=Eu drawn mQ (.cons VU (.cons Qbn (.nil))) Tryz.func228 Tryz.call228 (λa r=>Q4 (gj .u8 r 1) (iq a 1)) [.row 5 1 (.ints .u8)] [] 2 (λ_ _ _=>by kernel_rfl) (λ_ _=>rfl) (λ_ _ h=>h)
def Pg(c:List Int)(DE:Bool):Tree (List Int):=
.br DE (.an (H8 c [1]) (.lv (H7 c [1]) λ(x0:List Int)=>.lf x0)) (.an (H8 c [0]) (.lv (H7 c [0]) λ(x1:List Int)=>.lf x1))
def Kr c DE:=(Pg c DE).m
abbrev Ks c DE:=(Pg c DE).p
def Qqp:bc:=lZ 1 229 [true,false] [.ptr 0,.one (.bool)] [.box 293 2 [.self 0,.row 1],.arr 5 1 (.ints .u8)] (λa r=>Ks (gj .u8 r 1) (uY a 1)) (λa r=>Kr (gj .u8 r 1) (uY a 1)) (λX=>.dt []) (λX=>[⟨true,293,2,.gen [[.c8 0,.all 1]]⟩,⟨false,5,1,.ints .u8 X⟩])
theorem Qod:bj pG Qqp:=Eu drawn mQ (.cons VU (.nil)) Tryz.func229 Tryz.call229 (λa r=>Pg (gj .u8 r 1) (uY a 1)) [.row 5 1 (.ints .u8)] [] 2 (λ_ _ _=>by kernel_rfl) (λ_ _=>rfl) (λ_ _ h=>h)
def VV(b:List Int):((List UInt8)×(List Int)):=
(bytesOf b,b)
def Qee(b:List Int):List D:=[.ptr 0 0 0]
def Qfc(b:List Int):List Row:=[⟨true,293,2,.gen [[.c8 0,.all 1]]⟩,⟨false,5,1,.ints .u8 b⟩]
def Qg2(X:((List UInt8)×(List Int))):D:=.str (X.1)
def Qfv(X:((List UInt8)×(List Int))):List Row:=[⟨true,293,2,.gen [[.c8 0,.sl 1 (.ints .u8 X.2) false]]⟩]
def Qfz:List PT:=[.ptr 0]
def Qem:List RT:=[.box 293 2 [.self 0,.row 1],.arr 5 1 (.ints .u8)]
def Qr(args:List D)(rows:List Row):((List UInt8)×(List Int)):=VV (gj .u8 rows 1)
def Qve:bc:=Vx 1 230 [true] Qfz Qem Qr Qg2 Qfv
theorem Qnl(b:List Int):sI pG 230 1 (Qee b) (Qfc b) (Qg2 (VV b)) (Qfv (VV b)):=by
 exact qf (ρ:=Tryz.jO) (by decide) {Tryz.rI with} Tryz.jb _
set_option maxRecDepth 100000 in
theorem Qp5(args:List D)(rows:List Row):Qe Qfz args 0=Qee (gj .u8 rows 1):=by kernel_rfl
set_option maxRecDepth 100000 in
theorem Qnh(args:List D)(rows:List Row):lr Qem rows 0=Qfc (gj .u8 rows 1):=by kernel_rfl
theorem Qst:bj pG Qve:=qaS (λ_=>Tryz.call230) (λa r=>by rw[Qp5 a r,Qnh a r];exact Qnl (gj .u8 r 1))
def Pl(m:au):Tree (List UInt8):=
.an (BG [] [m.B1.X.a0,m.B1.X.a1,m.B1.X.a2,m.B1.X.a3,m.B1.X.a4,m.B1.X.a5,m.B1.X.a6,m.B1.X.a7,m.B1.X.a8,m.B1.X.a9,m.B1.X.kq,m.B1.X.kr,m.B1.X.a12,m.B1.X.ku,m.B1.X.kv,m.B1.X.ky]) (.lv (BF [] [m.B1.X.a0,m.B1.X.a1,m.B1.X.a2,m.B1.X.a3,m.B1.X.a4,m.B1.X.a5,m.B1.X.a6,m.B1.X.a7,m.B1.X.a8,m.B1.X.a9,m.B1.X.kq,m.B1.X.kr,m.B1.X.a12,m.B1.X.ku,m.B1.X.kv,m.B1.X.ky]) λ(x0:List Int)=>.an (BG x0 [m.B1.Pc]) (.lv (BF x0 [m.B1.Pc]) λ(x1:List Int)=>.an (BG x1 [m.B1.B4.a0,m.B1.B4.a1,m.B1.B4.a2,m.B1.B4.a3,m.B1.B4.a4,m.B1.B4.a5,m.B1.B4.a6,m.B1.B4.a7]) (.lv (BF x1 [m.B1.B4.a0,m.B1.B4.a1,m.B1.B4.a2,m.B1.B4.a3,m.B1.B4.a4,m.B1.B4.a5,m.B1.B4.a6,m.B1.B4.a7]) λ(x2:List Int)=>.an (H8 x2 [wrap u64 (m.Mem.length:Int)]) (.lv (H7 x2 [wrap u64 (m.Mem.length:Int)]) λ(x3:List Int)=>.an (BG x3 m.Mem) (.lv (BF x3 m.Mem) λ(x4:List Int)=>.an (Q77 x4 m.A3.D1) (.lv (Qb8 x4 m.A3.D1) λ(x5:List Int)=>.an (Ks x5 m.A9.D3) (.lv (Kr x5 m.A9.D3) λ(x6:List Int)=>.an (BG x6 [m.A9.C4]) (.lv (BF x6 [m.A9.C4]) λ(x7:List Int)=>.an (Ks x7 m.A9.D2) (.lv (Kr x7 m.A9.D2) λ(x8:List Int)=>.an (BG x8 [m.A7.ae,m.A7.C1,m.A7.Frame]) (.lv (BF x8 [m.A7.ae,m.A7.C1,m.A7.Frame]) λ(x9:List Int)=>.an (H8 x9 [wrap u64 m.A7.B7,wrap u64 m.A7.D6]) (.lv (H7 x9 [wrap u64 m.A7.B7,wrap u64 m.A7.D6]) λ(kI:List Int)=>.an (BG kI [m.A7.B6,m.A7.B2]) (.lv (BF kI [m.A7.B6,m.A7.B2]) λ(mz:List Int)=>.an (Q77 mz m.A7.B8) (.lv (Qb8 mz m.A7.B8) λ(lH:List Int)=>.an (BG lH [m.C3.Frame,m.C3.E0]) (.lv (BF lH [m.C3.Frame,m.C3.E0]) λ(lW:List Int)=>.an (Ks lW m.C3.C5) (.lv (Kr lW m.C3.C5) λ(uE:List Int)=>.an (BG uE [m.C3.C0]) (.lv (BF uE [m.C3.C0]) λ(Jv:List Int)=>.an (Ks Jv m.C3.B5) (.lv (Kr Jv m.C3.B5) λ(uF:List Int)=>.an (BG uF [m.C3.F1]) (.lv (BF uF [m.C3.F1]) λ(Hf:List Int)=>.an (BG Hf [m.A2.C7,m.A2.C2]) (.lv (BF Hf [m.A2.C7,m.A2.C2]) λ(Hg:List Int)=>.an (H8 Hg [m.A1]) (.lv (H7 Hg [m.A1]) λ(Uk:List Int)=>.an (Ks Uk m.A4) (.lv (Kr Uk m.A4) λ(Ul:List Int)=>.an (Ks Ul m.A6) (.lv (Kr Ul m.A6) λ(FB:List Int)=>.lv (VV FB) λ(FC:List UInt8×List Int)=>.lf FC.1))))))))))))))))))))))
def YM m:=(Pl m).m
abbrev Qjm m:=(Pl m).p
def Z09:bc:=mT 150 [] true [.agg au.sig] [] (λa r=>Pl (au.of (aC a 0))) (λX=>.str X) (λX=>[])
theorem Qwf:bj pG Z09:=oT (.cons Qnp (.cons VU (.cons Qne (.cons Qod (.cons Qst (.nil)))))) Tryz.func150 Tryz.call150 [] [] 2
def Qr7(h0:Int)(s:List UInt8)(z:(Int)×(Int)):Prop:=0<=z.2/\z.2<=s.length
def Qh1(h0:Int)(s:List UInt8)(z:(Int)×(Int)):Nat:=(s.length-z.2).toNat
def VW(h0:Int)(s:List UInt8):Tree Int:=
.lp inferInstance (Qh1 h0 s (h0,0)+1) ((rE (h0:Int)/\rE (s:List UInt8)/\rE ((s.length:Int):Int)/\rE (0:Int)/\True)/\True) (h0,0) λ(v0:Int×Int)=>.br (decide (v0.2<(s.length:Int))) (.cn (decide (0<=v0.2/\v0.2<(s.length:Int))) (.nx ((rE ((wrap u64 (nj u64 v0.1 (wrap u64 (↑(eW (s.getD v0.2.toNat (0:UInt8))):Int))*1099511628211)):Int)/\rE (s:List UInt8)/\rE ((s.length:Int):Int)/\rE ((wrap i64 (v0.2+1)):Int)/\True)/\True) (Sum.inl (wrap u64 (nj u64 v0.1 (wrap u64 (↑(eW (s.getD v0.2.toNat (0:UInt8))):Int))*1099511628211),wrap i64 (v0.2+1))))) (.lf (Sum.inr v0.1))
def Pn h0 s:=(VW h0 s).m
def VX(h0:Int)(s:List UInt8):Prop:=
s.length<=1000000000000
theorem Zde(h0:Int)(s:List UInt8)(hw:VX h0 s):(VW h0 s).p:=by
 simp only[VX]at hw
 unfold Tree.p VW
 repeat'(first|refine ga (inv:=Qr7 h0 s) (μ:=Qh1 h0 s) ?_ (cO _) (λ_ _=>?_)|exact trivial|refine aa (λ_=>?_) (λ_=>?_)|refine ba ?_ ?_|refine cz ?_ ?_|refine ar (λ_ _=>?_)|refine fh ?_|refine ez ?_|refine And.intro ?_ ?_)
 all_goals((try simp only[Qr7,Qh1]at*);exact oI)
def Zhv:bu:={
 α:=(Int)×(Int)
 F:=λst a=>([(0,.int u64 a.1),(1,(lk st 1)),(7,(lk st 7)),(8,.int i64 a.2)],[])
 a0:=λst=>((lk st 0).toInt,(lk st 8).toInt)
 jn:=λst=>[]++[]}
def Z5w:List (Nat×bu):=[(2,Zhv)]
def Zky:bc:=mP 149 [] true [.one (.int .u64),.one (.str)] [] (λa r=>VX (aq a 0) (iq a 1)) (λa r=>Pn (aq a 0) (iq a 1)) (λX=>.int .u64 X) (λX=>[])
theorem Zf6:bj pG Zky:=wc drawn mQ (.nil) Tryz.func149 Tryz.call149 (λa r=>VW (aq a 0) (iq a 1)) [] Z5w 3 (hp:=λa r h=>Zde (aq a 0) (iq a 1) h)
def Pp(m:au):Tree Int:=
.an (Qjm m) (.lv (YM m) λ(x0:List UInt8)=>.an (VX 14695981039346656037 x0) (.lv (Pn 14695981039346656037 x0) λ(x1:Int)=>.lf x1))
def Uo m:=(Pp m).m
abbrev Un m:=(Pp m).p
def Z7q:bc:=mT 93 [] true [.agg au.sig] [] (λa r=>Pp (au.of (aC a 0))) (λX=>.int .u64 X) (λX=>[])
theorem Qp:bj pG Z7q:=oT (.cons Zf6 (.cons Qwf (.nil))) Tryz.func93 Tryz.call93 [] [] 2
end
noncomputable section
instance Sh {α β:Type} [Inhabited β]:Inhabited (α⊕β):=⟨.inr default⟩
def Qpt(h0:Int)(s:List UInt8)(z:(Int)×(Int)):Nat:=(s.length-z.2).toNat
def YL(h0:Int)(s:List UInt8):Tree Int:=
.lp inferInstance (Qpt h0 s (h0,0)+1) ((rE (h0:Int)/\rE (s:List UInt8)/\rE (0:Int)/\True)/\True) (h0,0) λ(v0:Int×Int)=>.br (decide (v0.2<(s.length:Int))) (.cn (decide (0<=v0.2/\v0.2<(s.length:Int))) (.nx ((rE ((wrap u64 (nj u64 v0.1 (wrap u64 (↑(eW (s.getD v0.2.toNat (0:UInt8))):Int))*1099511628211)):Int)/\rE (s:List UInt8)/\rE ((wrap i64 (v0.2+1)):Int)/\True)/\True) (Sum.inl (wrap u64 (nj u64 v0.1 (wrap u64 (↑(eW (s.getD v0.2.toNat (0:UInt8))):Int))*1099511628211),wrap i64 (v0.2+1))))) (.lf (Sum.inr v0.1))
def Po h0 s:=(YL h0 s).m
end
noncomputable section
instance Si {α β:Type} [Inhabited β]:Inhabited (α⊕β):=⟨.inr default⟩
def Qka(script:List ei)(z:(Int)):Prop:=1<=z/\(z<=script.length\/z=1)
def Mk(script:List ei)(z:(Int)):Nat:=(script.length-z).toNat
def Mj(script:List ei):Tree Bool:=
.lp inferInstance (Mk script 1+1) ((nR RK.ab 4 script/\rE (1:Int)/\True)/\True) 1 λ(v0:Int)=>.br (decide (v0<(script.length:Int))) (.cn (bT 4 4&&bJ 0 4&&decide (0<=wrap i64 (v0-1)/\wrap i64 (v0-1)<(script.length:Int))) (.cn (bT 4 4&&bJ 0 4&&decide (0<=v0/\v0<(script.length:Int))) (let E2:=script.getD (dF (wrap i64 (v0-1))) (RK.cj RK.ab);let E3:=script.getD v0.toNat (RK.cj RK.ab);.br (decide (E3.At<E2.At)) (.lf (Sum.inr false)) (let T1:Tree ((Int)⊕(Bool)):=.nx ((nR RK.ab 4 script/\rE ((wrap i64 (v0+1)):Int)/\True)/\True) (Sum.inl (wrap i64 (v0+1)));.br (E3.At==E2.At) (.br (E2.C6.B9==1) (.lf (Sum.inr false)) T1) T1)))) (.lf (Sum.inr true))
def Qyz script:=(Mj script).m
def VY(script:List ei):Prop:=
script.length<=1000000000000
theorem Z0d(script:List ei)(hw:VY script):(Mj script).p:=by
 simp only[VY]at hw
 unfold Tree.p Mj
 repeat'(first|refine ga (inv:=Qka script) (μ:=Mk script) ?_ (cO _) (λ_ _=>?_)|exact trivial|refine aa (λ_=>?_) (λ_=>?_)|refine ba ?_ ?_|refine cz ?_ ?_|refine ar (λ_ _=>?_)|refine fh ?_|refine ez ?_|refine And.intro ?_ ?_)
 all_goals((try simp only[Qka,Mk]at*);exact oI)
def Z31:bu:={
 α:=(Int)
 F:=λst a=>([(0,(lk st 0)),(3,.int i64 a)],[])
 a0:=λst=>(lk st 3).toInt
 jn:=λst=>[]++[]}
def Qxt:List (Nat×bu):=[(2,Z31)]
def Z7t:bc:=mP 268 [] true [.one (.av .ab)] [] (λa r=>VY (jh .ab a 0)) (λa r=>Qyz (jh .ab a 0)) (λX=>.bool X) (λX=>[])
theorem Z3i:bj pG Z7t:=wc drawn mQ (.nil) Tryz.func268 Tryz.call268 (λa r=>Mj (jh .ab a 0)) [] Qxt 3 (hp:=λa r h=>Z0d (jh .ab a 0) h)
def Qn9(m:au)(script:List ei)(df:Int)(z:(Int)):Nat:=(script.length-z).toNat
def Pu(m:au)(script:List ei)(df:Int):Tree Int:=
.an (RU m) (.lv (nc m) λ(x0:Bool)=>.br (!x0) (.lf 1300) (.br (decide (df<m.A1)) (.lf 1300) (.br (decide (wrap u64 (df-m.A1)>4000)) (.lf 1300) (.br (decide ((script.length:Int)>(400:Int))) (.lf 1300) (.an (VY script) (.lv (Qyz script) λ(x1:Bool)=>.br (!x1) (.lf 1301) (.lp inferInstance (Qn9 m script df 0+1) ((rZ/\nR RK.ab 4 script/\rE ((script.length:Int):Int)/\rE (0:Int)/\True)/\(mE m (((ao.Nil (ao.ints u32 m.Mem)\/rE (1:Nat))/\rE m.Mem)) True)/\True) 0 λ(v0:Int)=>.br (decide (v0<(script.length:Int))) (.cn (bT 4 4&&bJ 0 4&&decide (0<=v0/\v0<(script.length:Int))) (.br (decide ((script.getD v0.toNat (RK.cj RK.ab)).At<m.A1)) (.lf (Sum.inr 1301)) (.nx ((rZ/\nR RK.ab 4 script/\rE ((script.length:Int):Int)/\rE ((wrap i64 (v0+1)):Int)/\True)/\(mE m (((ao.Nil (ao.ints u32 m.Mem)\/rE (1:Nat))/\rE m.Mem)) True)/\True) (Sum.inl (wrap i64 (v0+1)))))) (.lf (Sum.inr 0)))))))))
def Za3 m script df:=(Pu m script df).m
abbrev Qr9 m script df:=(Pu m script df).p
def Zd9:bu:={
 α:=(Int)
 F:=λst a=>([(3,.ptr 0 0 0),(33,(lk st 33)),(34,(lk st 34)),(35,.int i64 a)],[⟨true,42,49,.gen [mB (cT st 3)]⟩])
 a0:=λst=>(lk st 35).toInt
 jn:=λst=>[]++[(rX st 3 0)]}
def Z30:List (Nat×bu):=[(6,Zd9)]
def Zhy:bc:=mT 202 [] true [.agg au.sig,.one (.av .ab),.one (.int .u64)] [] (λa r=>Pu (au.of (aC a 0)) (jh .ab a 1) (aq a 2)) (λX=>.int .i64 X) (λX=>[])
theorem Zas:bj pG Zhy:=oT (.cons Qjy (.cons Z3i (.nil))) Tryz.func202 Tryz.call202 [] Z30 3
def Qrj(m:au)(script:List ei)(df:Int)(z:(Int)×au×(List dx)):Nat:=(df-z.2.1.A1).toNat
def Qre(m:au)(script:List ei)(df:Int)(v0:Int×au×List dx)(z:(Int)×au):Nat:=(script.length-z.1).toNat
def Pv(m:au)(script:List ei)(df:Int):Tree (au×(List dx)×Int×Int):=
.an (Qr9 m script df) (.lv (Za3 m script df) λ(x0:Int)=>let E4:=({B1:={X:={a0:=0,a1:=0,a2:=0,a3:=0,a4:=0,a5:=0,a6:=0,a7:=0,a8:=0,a9:=0,kq:=0,kr:=0,a12:=0,ku:=0,kv:=0,ky:=0},Pc:=0,B4:={a0:=0,a1:=0,a2:=0,a3:=0,a4:=0,a5:=0,a6:=0,a7:=0}},Mem:=[],A3:={D1:=[]},A9:={D3:=false,C4:=0,D2:=false},A7:={ae:=0,C1:=0,Frame:=0,B7:=0,D6:=0,B6:=0,B2:=0,B8:=[]},C3:={Frame:=0,E0:=0,C5:=false,C0:=0,B5:=false,F1:=0},A2:={C7:=0,C2:=0},A1:=0,A4:=false,A6:=false}:au);.br (x0 !=0) (.lf (E4,[],0,x0)) (.an (mL m.Mem) (.lv (jD m.Mem) λ(x1:List Int)=>let E7:=({B1:=m.B1,Mem:=x1,A3:=m.A3,A9:=m.A9,A7:=m.A7,C3:=m.C3,A2:=m.A2,A1:=m.A1,A4:=m.A4,A6:=m.A6}:au);.lp inferInstance (Qrj m script df (0,E7,[])+1) ((nR RK.ab 4 script/\rE (df:Int)/\rZ/\rZ/\True/\rE (0:Int)/\rE (0:Int)/\True)/\(mE m (rE (x1:List Int)) True)/\(mE zM True True)/\rE ([]:List (RK.T RK.ay))/\True) (0,E7,[]) λ(v0:Int×au×List dx)=>.br (decide (v0.2.1.A1<df)) (.br (decide (v0.2.1.A1<1152921504606846976)) (.lp inferInstance (Qre m script df v0 (v0.1,v0.2.1)+1) ((nR RK.ab 4 script/\rE (df:Int)/\rZ/\rZ/\True/\rE (0:Int)/\rE v0.1/\(rE (0:Nat)/\rE (46:Nat))/\rE v0.2.1.A1/\rE ((decide (v0.2.1.A1<1152921504606846976)):Bool)/\True)/\(mE v0.2.1 (((ao.Nil (ao.ints u32 v0.2.1.Mem)\/oH Nat 1 1)/\rE v0.2.1.Mem)) True)/\(mE zM True True)/\rE v0.2.2/\True) (v0.1,v0.2.1) λ(v1:Int×au)=>let E5:=bT 4 4&&bJ 0 4&&decide (0<=v1.1/\v1.1<(script.length:Int));let E6:=script.getD v1.1.toNat (RK.cj RK.ab);let E8:=decide (v1.1<(script.length:Int));let T1:Tree ((Int×au)⊕((Int×au×List dx)⊕((au×(List dx)×Int×Int)))):=.br v1.2.A6 (.lf (Sum.inr (Sum.inr (v1.2,v0.2.2,v1.1,0)))) (.an (Yw v1.2) (.lv (Ls v1.2) λ(x3:Bool)=>.br x3 (.br E8 (.lf (Sum.inr (Sum.inr (E4,[],0,1303)))) (.lf (Sum.inr (Sum.inr (v1.2,v0.2.2,v1.1,0))))) (let T2:Tree ((Int×au)⊕((Int×au×List dx)⊕((au×(List dx)×Int×Int)))):=.an (O0 v1.2 0) (.lv (AQ v1.2 0) λ(x6:au×List dx)=>.cn (decide (40*(v0.2.2.length+x6.2.length)<=140737488355328)) (.nx ((nR RK.ab 4 script/\rE (df:Int)/\rZ/\rZ/\True/\rE (0:Int)/\rE v1.1/\True)/\(mE x6.1 (((ao.Nil (ao.ints u32 x6.1.Mem)\/rE (1:Nat))/\rE x6.1.Mem)) True)/\(mE zM True True)/\rE ((v0.2.2++x6.2):List (RK.T RK.ay))/\True) (Sum.inr (Sum.inl (v1.1,x6.1,v0.2.2++x6.2)))));let T3:Tree ((Int×au)⊕((Int×au×List dx)⊕((au×(List dx)×Int×Int)))):=.lf (Sum.inr (Sum.inr (E4,[],0,1302)));.br E8 (.cn E5 (.an (Q8c v1.2) (.lv (O5 v1.2) λ(x4:Bool)=>.br (!x4==(E6.At==v1.2.A1)) T3 (.br (E6.At==v1.2.A1) (.cn E5 (.an (O0 v1.2 E6.C6.N) (.lv (AQ v1.2 E6.C6.N) λ(x5:au×List dx)=>.cn (decide (40*(v0.2.2.length+x5.2.length)<=140737488355328)) (.nx ((nR RK.ab 4 script/\rE (df:Int)/\rZ/\rZ/\True/\rE (0:Int)/\rE ((wrap i64 (v1.1+1)):Int)/\True)/\(mE x5.1 (((ao.Nil (ao.ints u32 x5.1.Mem)\/rE (1:Nat))/\rE x5.1.Mem)) True)/\(mE zM True True)/\rE ((v0.2.2++x5.2):List (RK.T RK.ay))/\True) (Sum.inr (Sum.inl (wrap i64 (v1.1+1),x5.1,v0.2.2++x5.2))))))) T2)))) (.an (Q8c v1.2) (.lv (O5 v1.2) λ(x7:Bool)=>.br (!x7==false) T3 T2)))));.br E8 (.cn E5 (.br (E6.At==v1.2.A1) (.cn E5 (.br (E6.C6.B9 !=1) (.cn E5 (.an (Qdl v1.2 E6.C6) (.lv (L5 v1.2 E6.C6) λ(x2:au×Bool)=>.nx ((nR RK.ab 4 script/\rE (df:Int)/\rZ/\rZ/\True/\rE (0:Int)/\rE ((wrap i64 (v1.1+1)):Int)/\(rE (0:Nat)/\rE (46:Nat))/\rE v0.2.1.A1/\rE ((decide (v0.2.1.A1<1152921504606846976)):Bool)/\True)/\(mE x2.1 (rE x2.1.Mem) True)/\(mE zM True True)/\rE v0.2.2/\True) (Sum.inl (wrap i64 (v1.1+1),x2.1))))) T1)) T1)) T1) (.lf (Sum.inr (v0.2.1,v0.2.2,v0.1,0)))) (.lf (Sum.inr (v0.2.1,v0.2.2,v0.1,0))))))
def VZ m script df:=(Pv m script df).m
abbrev PI m script df:=(Pv m script df).p
def Zk8:bu:={
 α:=(Int)×au×(List dx)
 F:=λst a=>([(1,(lk st 1)),(2,(lk st 2)),(3,.ptr 0 0 0),(6,.ptr 1 0 0),(11,.all 2),(12,(lk st 12)),(13,.int i64 a.1)],[⟨true,42,49,.gen [mD a.2.1 (.sl 1 (.ints u32 a.2.1.Mem) false)]⟩,⟨true,42,49,.gen [mB (cT st 6)]⟩,⟨false,137,4,.av RK.ay a.2.2⟩])
 a0:=λst=>((lk st 13).toInt,(mR (cT st 3) (NA u32 st.rows (cT st 3 25))),(tF RK.ay st.rows (rN st 11)))
 jn:=λst=>[]++[(rX st 3 0),(rX st 6 1),(rX st 11 2)]}
def Zkr:bu:={
 α:=(Int)×au
 F:=λst a=>([(1,(lk st 1)),(2,(lk st 2)),(3,.ptr 0 0 0),(6,.ptr 1 0 0),(11,.all 2),(12,(lk st 12)),(13,.int i64 a.1),(34,.ptr 0 0 46),(35,(lk st 35)),(36,(lk st 36))],[⟨true,42,49,.gen [mD a.2 (.sl 1 (.ints u32 a.2.Mem) false)]⟩,⟨true,42,49,.gen [mB (cT st 6)]⟩,⟨false,137,4,pj st.rows (rN st 11)⟩])
 a0:=λst=>((lk st 13).toInt,(mR (cT st 3) (NA u32 st.rows (cT st 3 25))))
 jn:=λst=>[]++[(rX st 3 0),(rX st 6 1),(rX st 11 2)]}
def Zcc:List (Nat×bu):=[(8,Zk8),(9,Zkr)]
def Zpe:bc:=bc.fz<|mP 138 [] false [.agg au.sig,.one (.av .ab),.one (.int .u64)] [] (λa r=>PI (au.of (aC a 0)) (jh .ab a 1) (aq a 2)) (λa r=>VZ (au.of (aC a 0)) (jh .ab a 1) (aq a 2)) (λX=>.dt [.agg (au.cells (X.1)),.all 0,.int .i64 (X.2.2.1),.int .i64 (X.2.2.2)]) (λX=>[⟨false,137,4,.av .ay (X.2.1)⟩])
theorem Qsm:bj pG Zpe:=MQ<|wc drawn mQ (.cons Zas (.cons Ew (.cons Qzt (.cons Qo1 (.cons Qpc (.cons Z4s (.nil))))))) Tryz.func138 Tryz.call138 (λa r=>Pv (au.of (aC a 0)) (jh .ab a 1) (aq a 2)) [.sl (.ints .u32) false,.row 137 4 (.av .ay)] Zcc 3 (λ_ _ _=>by kernel_rfl) (λ_ _=>rfl) (λ_ _ h=>h) (λh=>by cases h)
end
noncomputable section
def Qlh(m:au)(script:List ei)(dh:List Int)(z:(Int)×(Int)):Nat:=(dh.length-z.2).toNat
def PC(m:au)(script:List ei)(dh:List Int):Tree Int:=
.br (decide ((dh.length:Int)>(400:Int))) (.lf 4300) (.lp inferInstance (Qlh m script dh (m.A1,0)+1) ((nR RK.ab 4 script/\rZ/\rE m.A1/\((ao.Nil (ao.ints u64 dh)\/rE (1:Nat))/\rE (dh:List Int))/\rE ((dh.length:Int):Int)/\rE (0:Int)/\True)/\(mE m (((ao.Nil (ao.ints u32 m.Mem)\/rE (1:Nat))/\rE m.Mem)) True)/\True) (m.A1,0) λ(v0:Int×Int)=>.br (decide (v0.2<(dh.length:Int))) (.cn (bT 1 1&&bJ 0 1&&decide (0<=v0.2/\v0.2<(dh.length:Int))) (.br (decide (dh.getD v0.2.toNat 0<v0.1)) (.lf (Sum.inr 4300)) (.br (decide (wrap u64 (dh.getD v0.2.toNat 0-v0.1)>4000)) (.lf (Sum.inr 4300)) (.nx ((nR RK.ab 4 script/\rZ/\rE ((dh.getD v0.2.toNat 0):Int)/\((ao.Nil (ao.ints u64 dh)\/rE (1:Nat))/\rE (dh:List Int))/\rE ((dh.length:Int):Int)/\rE ((wrap i64 (v0.2+1)):Int)/\True)/\(mE m (((ao.Nil (ao.ints u32 m.Mem)\/rE (1:Nat))/\rE m.Mem)) True)/\True) (Sum.inl (dh.getD v0.2.toNat 0,wrap i64 (v0.2+1))))))) (.an (PI m script m.A1) (.lv (VZ m script m.A1) λ(x0:au×List dx×Int×Int)=>.lf (Sum.inr x0.2.2.2))))
def Qse m script dh:=(PC m script dh).m
abbrev Qh3 m script dh:=(PC m script dh).p
def Z68:bu:={
 α:=(Int)×(Int)
 F:=λst a=>([(1,(lk st 1)),(3,.ptr 0 0 0),(7,.int u64 a.1),(19,(lk st 19)),(20,(lk st 20)),(21,.int i64 a.2)],[⟨true,42,49,.gen [mB (cT st 3)]⟩])
 a0:=λst=>((lk st 7).toInt,(lk st 21).toInt)
 jn:=λst=>[]++[(rX st 3 0)]}
def Z0s:List (Nat×bu):=[(5,Z68)]
def Zaj:bc:=mT 80 [] true [.agg au.sig,.one (.av .ab),.one (.ints .u64)] [] (λa r=>PC (au.of (aC a 0)) (jh .ab a 1) (eh .u64 a 2)) (λX=>.int .i64 X) (λX=>[])
theorem Qrd:bj pG Zaj:=oT (.cons Qsm (.nil)) Tryz.func80 Tryz.call80 [] Z0s 3
def PJ(kind:Int)(prog events:List Int):Tree (au×(List ei)):=
.an (Yy kind prog) (.lv (Fy kind prog) λ(x0:au)=>.an (Qlo x0 events) (.lv (Yt x0 events) λ(x1:cy×List dx)=>.lf (x0,x1.1.C8)))
def Qrm kind prog events:=(PJ kind prog events).m
abbrev Qj5 kind prog events:=(PJ kind prog events).p
def Z0k:bc:=mT 36 [] true [.one (.int .i64),.one (.ints .i64),.one (.ints .i64)] [] (λa r=>PJ (aq a 0) (eh .i64 a 1) (eh .i64 a 2)) (λX=>.dt [.agg (au.fe (X.1) (.all 0)),.all 1]) (λX=>[⟨false,23,1,.ints .u32 (X.1).Mem⟩,⟨false,103,4,.av .ab (X.2)⟩])
theorem Qx4:bj pG Z0k:=oT (.cons Qpa (.cons Zig (.nil))) Tryz.func36 Tryz.call36 [.row 23 1 (.ints .u32),.row 103 4 (.av .ab)] [] 2
def Qf7(m:au)(l:List Int)(z:(Int)×(Int)×(List Int)):Nat:=(l.length-z.2.1).toNat
def PK(m:au)(l:List Int):Tree (List Int):=
.lp inferInstance (Qf7 m l (m.A1,0,[])+1) ((((ao.Nil (ao.ints i64 l)\/rE (1:Nat))/\rE (l:List Int))/\True/\rE m.A1/\rE (0:Int)/\True)/\rE ([]:List Int)/\True) (m.A1,0,[]) λ(v0:Int×Int×List Int)=>.br (decide (v0.2.1<(l.length:Int))) (.cn (bT 1 1&&bJ 0 1&&decide (0<=v0.2.1/\v0.2.1<(l.length:Int))) (.an (Ev (l.getD v0.2.1.toNat 0) 20) (.lv (tM (l.getD v0.2.1.toNat 0) 20) λ(x0:Int)=>.cn (decide (8*(v0.2.2.length+1)<=140737488355328)) (.nx ((((ao.Nil (ao.ints i64 l)\/rE (1:Nat))/\rE (l:List Int))/\True/\rE ((wrap u64 (v0.1+wrap u64 x0)):Int)/\rE ((wrap i64 (v0.2.1+1)):Int)/\True)/\rE ((v0.2.2++[wrap u64 (v0.1+wrap u64 x0)]):List Int)/\True) (Sum.inl (wrap u64 (v0.1+wrap u64 x0),wrap i64 (v0.2.1+1),v0.2.2++[wrap u64 (v0.1+wrap u64 x0)])))))) (.lf (Sum.inr v0.2.2))
def Qpb m l:=(PK m l).m
abbrev Qhm m l:=(PK m l).p
def Qth:bu:={
 α:=(Int)×(Int)×(List Int)
 F:=λst a=>([(1,(lk st 1)),(5,.all 0),(6,.int u64 a.1),(7,.int i64 a.2.1)],[⟨false,40,1,.ints u64 a.2.2⟩])
 a0:=λst=>((lk st 6).toInt,(lk st 7).toInt,(oP st.rows (rN st 5)))
 jn:=λst=>[]++[(rX st 5 0)]}
def Qqr:List (Nat×bu):=[(4,Qth)]
def Qxc:bc:=mT 38 [] true [.agg au.sig,.one (.ints .i64)] [] (λa r=>PK (au.of (aC a 0)) (eh .i64 a 1)) (λX=>.all 0) (λX=>[⟨false,40,1,.ints .u64 X⟩])
theorem Qtr:bj pG Qxc:=oT (.cons R8 (.nil)) Tryz.func38 Tryz.call38 [.row 40 1 (.ints .u64)] Qqr 3
end
noncomputable section
end
noncomputable section
end
noncomputable section
def PD(i hash err:Int)(kT:List gg)(lg:List Int)(tP:Int):Tree (Bool×(List gg)×(List Int)×Int):=
.cn (bT 1 1&&bJ 0 1&&decide (0<=i/\i<(lg.length:Int))) (.cn (decide (16*(kT.length+1)<=140737488355328)) (.lf (true,kT++[{At:=lg.getD i.toNat 0,D4:=hash}],lg,err)))
def Qmd i hash err kT lg tP:=(PD i hash err kT lg tP).m
abbrev Qe0 i hash err kT lg tP:=(PD i hash err kT lg tP).p
def Z5g:bc:=lZ 3 82 [false,false,false,true,true,true] [.one (.int .i64),.one (.int .u64),.one (.int .i64),.ptr 0,.ptr 1,.ptr 2] [.box 87 1 [.row 3],.box 91 1 [.ints .u64],.box 88 1 [.int .i64],.arr 100 2 (.av .ag)] (λa r=>Qe0 (aq a 0) (aq a 1) (aq a 2) (jM .ag r 3) (nE .u64 (nV r 1 0)) (nV r 2 0).toInt) (λa r=>Qmd (aq a 0) (aq a 1) (aq a 2) (jM .ag r 3) (nE .u64 (nV r 1 0)) (nV r 2 0).toInt) (λX=>.bool (X.1)) (λX=>[⟨true,87,1,.gen [[.all 3]]⟩,⟨true,91,1,.gen [[.sl 1 (.ints .u64 X.2.2.1) false]]⟩,⟨true,88,1,.gen [[.int .i64 X.2.2.2]]⟩,⟨false,100,2,.av .ag (X.2.1)⟩])
theorem Qmq:bj pG Z5g:=Eu drawn mQ (.nil) Tryz.func82 Tryz.call82 (λa r=>PD (aq a 0) (aq a 1) (aq a 2) (jM .ag r 3) (nE .u64 (nV r 1 0)) (nV r 2 0).toInt) [.row 100 2 (.av .ag),.sl (.ints .u64) false] [] 2 (λ_ _ _=>by kernel_rfl) (λ_ _=>rfl) (λ_ _ h=>h)
def Qg1(m:au)(script:List ei)(dh:List Int)(vl:List gg)(va:List Int)(vf:Int)(z:(List ei)×(Int)×(List Int)×(Int)×(List gg)×au):Nat:=(dh.length-z.2.1).toNat
def PE(m:au)(script:List ei)(dh:List Int)(vl:List gg)(va:List Int)(vf:Int):Tree ((List gg)×(List Int)×Int):=
.lp inferInstance (Qg1 m script dh vl va vf (script,0,va,vf,vl,m)+1) ((nR RK.ab 4 script/\True/\rZ/\((ao.Nil (ao.ints u64 dh)\/rE (1:Nat))/\rE (dh:List Int))/\rE ((dh.length:Int):Int)/\rE (0:Int)/\True)/\(True/\True)/\(((ao.Nil (ao.ints u64 va)\/rE (1:Nat))/\rE (va:List Int))/\True)/\(rE (vf:Int)/\True)/\rE (vl:List (RK.T RK.ag))/\(mE m (((ao.Nil (ao.ints u32 m.Mem)\/rE (1:Nat))/\rE m.Mem)) True)/\True) (script,0,va,vf,vl,m) λ(v0:List ei×Int×List Int×Int×List gg×au)=>.br (decide (v0.2.1<(dh.length:Int))) (.cn (bT 1 1&&bJ 0 1&&decide (0<=v0.2.1/\v0.2.1<(dh.length:Int))) (let E1:=dh.getD v0.2.1.toNat 0;.an (PI v0.2.2.2.2.2 v0.1 E1) (.lv (VZ v0.2.2.2.2.2 v0.1 E1) λ(x0:au×List dx×Int×Int)=>.br (x0.2.2.2 !=0) (.an (Qe0 v0.2.1 0 x0.2.2.2 v0.2.2.2.2.1 v0.2.2.1 v0.2.2.2.1) (.lv (Qmd v0.2.1 0 x0.2.2.2 v0.2.2.2.2.1 v0.2.2.1 v0.2.2.2.1) λ(x1:Bool×List gg×List Int×Int)=>.lf (Sum.inr (x1.2.1,x1.2.2.1,x1.2.2.2)))) (.cn (bT 4 4&&bJ 0 4&&decide (0<=x0.2.2.1/\x0.2.2.1<=(v0.1.length:Int)/\(v0.1.length:Int)<=(v0.1.length:Int))) (.an (Un x0.1) (.lv (Uo x0.1) λ(x2:Int)=>.an (Qe0 v0.2.1 x2 0 v0.2.2.2.2.1 v0.2.2.1 v0.2.2.2.1) (.lv (Qmd v0.2.1 x2 0 v0.2.2.2.2.1 v0.2.2.1 v0.2.2.2.1) λ(x3:Bool×List gg×List Int×Int)=>.br (!x3.1) (.lf (Sum.inr (x3.2.1,x3.2.2.1,x3.2.2.2))) (.nx ((((ao.Nil (ao.av RK.ab (dB (dF (v0.1.length:Int)-dF x0.2.2.1) (dC x0.2.2.1.toNat v0.1)))\/oH Nat 4 4)/\rE ((dB (dF (v0.1.length:Int)-dF x0.2.2.1) (dC x0.2.2.1.toNat v0.1)):List (RK.T RK.ab)))/\True/\rZ/\((ao.Nil (ao.ints u64 dh)\/rE (1:Nat))/\rE (dh:List Int))/\rE ((dh.length:Int):Int)/\rE ((wrap i64 (v0.2.1+1)):Int)/\True)/\(True/\True)/\(((ao.Nil (ao.ints u64 x3.2.2.1)\/oH Nat 1 1)/\rE x3.2.2.1)/\True)/\(rE x3.2.2.2/\True)/\rE x3.2.1/\(mE x0.1 (((ao.Nil (ao.ints u32 x0.1.Mem)\/oH Nat 1 1)/\rE x0.1.Mem)) True)/\True) (Sum.inl (dB (dF (v0.1.length:Int)-dF x0.2.2.1) (dC x0.2.2.1.toNat v0.1),wrap i64 (v0.2.1+1),x3.2.2.1,x3.2.2.2,x3.2.1,x0.1)))))))))) (.lf (Sum.inr (v0.2.2.2.2.1,v0.2.2.1,v0.2.2.2.1)))
def Qr6 m script dh vl va vf:=(PE m script dh vl va vf).m
abbrev Qj7 m script dh vl va vf:=(PE m script dh vl va vf).p
def Qw4:bu:={
 α:=(List ei)×(Int)×(List Int)×(Int)×(List gg)×au
 F:=λst a=>([(1,.sl 4 (.av RK.ab a.1) false),(3,.gq 82 [.ptr 0 0 0,.ptr 1 0 0,.ptr 2 0 0]),(4,.ptr 4 0 0),(14,(lk st 14)),(15,(lk st 15)),(16,.int i64 a.2.1)],[⟨true,87,1,.gen [[.all 3]]⟩,⟨true,91,1,.gen [[.sl 1 (.ints u64 a.2.2.1) false]]⟩,⟨true,88,1,.gen [[.int i64 a.2.2.2.1]]⟩,⟨false,100,2,.av RK.ag a.2.2.2.2.1⟩,⟨true,42,49,.gen [mD a.2.2.2.2.2 (.sl 1 (.ints u32 a.2.2.2.2.2.Mem) false)]⟩])
 a0:=λst=>((tB RK.ab (lk st 1)),(lk st 16).toInt,(nE u64 (iS st.rows 1 0)),(iS st.rows 2 0).toInt,(tF RK.ag st.rows (lz (iS st.rows 0 0) 1000000)),(mR (cT st 4) (nE u32 (cT st 4 25))))
 jn:=λst=>[0,1,2]++[(lz (iS st.rows 0 0) (st.rows.length+3)),(rX st 4 4)]}
def Qsz:List (Nat×bu):=[(2,Qw4)]
def Z0p:bc:=lZ 3 81 [false,false,false,true] [.agg au.sig,.one (.av .ab),.one (.ints .u64),.gq 82 [.ptr 0 0 0,.ptr 1 0 0,.ptr 2 0 0]] [.box 87 1 [.row 3],.box 91 1 [.ints .u64],.box 88 1 [.int .i64],.arr 100 2 (.av .ag)] (λa r=>Qj7 (au.of (aC a 0)) (jh .ab a 1) (eh .u64 a 2) (jM .ag r 3) (nE .u64 (nV r 1 0)) (nV r 2 0).toInt) (λa r=>Qr6 (au.of (aC a 0)) (jh .ab a 1) (eh .u64 a 2) (jM .ag r 3) (nE .u64 (nV r 1 0)) (nV r 2 0).toInt) (λX=>.dt []) (λX=>[⟨true,87,1,.gen [[.all 3]]⟩,⟨true,91,1,.gen [[.sl 1 (.ints .u64 X.2.1) false]]⟩,⟨true,88,1,.gen [[.int .i64 X.2.2]]⟩,⟨false,100,2,.av .ag (X.1)⟩])
theorem Ql0:bj pG Z0p:=Eu drawn mQ (.cons Qsm (.cons Qp (.cons Qmq (.nil)))) Tryz.func81 Tryz.call81 (λa r=>PE (au.of (aC a 0)) (jh .ab a 1) (eh .u64 a 2) (jM .ag r 3) (nE .u64 (nV r 1 0)) (nV r 2 0).toInt) [.row 100 2 (.av .ag),.sl (.ints .u64) false] Qsz 3 (λ_ _ _=>by kernel_rfl) (λ_ _=>rfl) (λ_ _ h=>h)
def PF(m:au)(script:List ei)(dh:List Int):Tree ((List gg)×Int):=
.an (Qh3 m script dh) (.lv (Qse m script dh) λ(x0:Int)=>.br (x0 !=0) (.lf ([],x0)) (.an (Qj7 m script dh [] dh 0) (.lv (Qr6 m script dh [] dh 0) λ(x1:List gg×List Int×Int)=>.br (x1.2.2 !=0) (.lf ([],x1.2.2)) (.lf (x1.1,0)))))
def Qsy m script dh:=(PF m script dh).m
abbrev Qhh m script dh:=(PF m script dh).p
def Zbg:bc:=mT 37 [] true [.agg au.sig,.one (.av .ab),.one (.ints .u64)] [] (λa r=>PF (au.of (aC a 0)) (jh .ab a 1) (eh .u64 a 2)) (λX=>.dt [.all 0,.int .i64 (X.2)]) (λX=>[⟨false,100,2,.av .ag (X.1)⟩])
theorem Qs0:bj pG Zbg:=oT (.cons Qrd (.cons Ql0 (.cons Qmq (.cons Ql0 (.nil))))) Tryz.func37 Tryz.call37 [.row 100 2 (.av .ag)] [] 2
def PG(i hash err:Int)(kT:List gg)(lg:au)(tP:jN)(nT:List Int):Tree (Bool×(List gg)×au×jN×(List Int)):=
let T1:Tree ((Bool×(List gg)×au×jN×(List Int))):=.br (decide (i>0)) (.cn (bT 1 1&&bJ 0 1&&decide (0<=wrap i64 (i-1)/\wrap i64 (i-1)<(nT.length:Int))) (.lf (false,kT,lg,{Good:=false,D5:=i,At:=nT.getD (dF (wrap i64 (i-1))) 0},nT))) (.lf (false,kT,lg,{Good:=false,D5:=i,At:=lg.A1},nT));.br (err==0) (.cn (bT 2 2&&bJ 0 2&&decide (0<=i/\i<(kT.length:Int))) (.br (hash==(kT.getD i.toNat (RK.cj RK.ag)).D4) (.lf (true,kT,lg,tP,nT)) T1)) T1
def Qlj i hash err kT lg tP nT:=(PG i hash err kT lg tP nT).m
abbrev Qe1 i hash err kT lg tP nT:=(PG i hash err kT lg tP nT).p
def Z3t:bc:=lZ 4 86 [false,false,false,true,true,true,true] [.one (.int .i64),.one (.int .u64),.one (.int .i64),.ptr 0,.ptr 1,.ptr 2,.ptr 3] [.box 87 1 [.av .ag],.box 42 49 au.sig,.box 95 3 jN.sig,.box 91 1 [.ints .u64]] (λa r=>Qe1 (aq a 0) (aq a 1) (aq a 2) (tB .ag (nV r 0 0)) (au.of (r.getD 1 default).cs) (jN.of (r.getD 2 default).cs) (nE .u64 (nV r 3 0))) (λa r=>Qlj (aq a 0) (aq a 1) (aq a 2) (tB .ag (nV r 0 0)) (au.of (r.getD 1 default).cs) (jN.of (r.getD 2 default).cs) (nE .u64 (nV r 3 0))) (λX=>.bool (X.1)) (λX=>[⟨true,87,1,.gen [[.sl 2 (.av .ag X.2.1) false]]⟩,⟨true,42,49,.gen [(au.cells (X.2.2.1))]⟩,⟨true,95,3,.gen [(jN.cells (X.2.2.2.1))]⟩,⟨true,91,1,.gen [[.sl 1 (.ints .u64 X.2.2.2.2) false]]⟩])
theorem Qn4:bj pG Z3t:=Eu drawn mQ (.nil) Tryz.func86 Tryz.call86 (λa r=>PG (aq a 0) (aq a 1) (aq a 2) (tB .ag (nV r 0 0)) (au.of (r.getD 1 default).cs) (jN.of (r.getD 2 default).cs) (nE .u64 (nV r 3 0))) [.sl (.av .ag) false,.sl (.ints .u32) false,.sl (.ints .u64) false] [] 2 (λ_ _ _=>by kernel_rfl) (λ_ _=>rfl) (λ_ _ h=>h)
def Qfu(m:au)(script:List ei)(dh:List Int)(vl:List gg)(vm:au)(vv:jN)(va:List Int)(z:(List ei)×(Int)×(List gg)×au×jN×(List Int)×au):Nat:=(dh.length-z.2.1).toNat
def PH(m:au)(script:List ei)(dh:List Int)(vl:List gg)(vm:au)(vv:jN)(va:List Int):Tree ((List gg)×au×jN×(List Int)):=
.lp inferInstance (Qfu m script dh vl vm vv va (script,0,vl,vm,vv,va,m)+1) ((nR RK.ab 4 script/\True/\rZ/\((ao.Nil (ao.ints u64 dh)\/rE (1:Nat))/\rE (dh:List Int))/\rE ((dh.length:Int):Int)/\rE (0:Int)/\True)/\(nR RK.ag 2 vl/\True)/\(mE vm (((ao.Nil (ao.ints u32 vm.Mem)\/rE (1:Nat))/\rE vm.Mem)) True)/\(rE vv.Good/\rE vv.D5/\rE vv.At/\True)/\(((ao.Nil (ao.ints u64 va)\/rE (1:Nat))/\rE (va:List Int))/\True)/\(mE m (((ao.Nil (ao.ints u32 m.Mem)\/rE (1:Nat))/\rE m.Mem)) True)/\True) (script,0,vl,vm,vv,va,m) λ(v0:List ei×Int×List gg×au×jN×List Int×au)=>.br (decide (v0.2.1<(dh.length:Int))) (.cn (bT 1 1&&bJ 0 1&&decide (0<=v0.2.1/\v0.2.1<(dh.length:Int))) (let E1:=dh.getD v0.2.1.toNat 0;.an (PI v0.2.2.2.2.2.2 v0.1 E1) (.lv (VZ v0.2.2.2.2.2.2 v0.1 E1) λ(x0:au×List dx×Int×Int)=>.br (x0.2.2.2 !=0) (.an (Qe1 v0.2.1 0 x0.2.2.2 v0.2.2.1 v0.2.2.2.1 v0.2.2.2.2.1 v0.2.2.2.2.2.1) (.lv (Qlj v0.2.1 0 x0.2.2.2 v0.2.2.1 v0.2.2.2.1 v0.2.2.2.2.1 v0.2.2.2.2.2.1) λ(x1:Bool×List gg×au×jN×List Int)=>.lf (Sum.inr (x1.2.1,x1.2.2.1,x1.2.2.2.1,x1.2.2.2.2)))) (.cn (bT 4 4&&bJ 0 4&&decide (0<=x0.2.2.1/\x0.2.2.1<=(v0.1.length:Int)/\(v0.1.length:Int)<=(v0.1.length:Int))) (.an (Un x0.1) (.lv (Uo x0.1) λ(x2:Int)=>.an (Qe1 v0.2.1 x2 0 v0.2.2.1 v0.2.2.2.1 v0.2.2.2.2.1 v0.2.2.2.2.2.1) (.lv (Qlj v0.2.1 x2 0 v0.2.2.1 v0.2.2.2.1 v0.2.2.2.2.1 v0.2.2.2.2.2.1) λ(x3:Bool×List gg×au×jN×List Int)=>.br (!x3.1) (.lf (Sum.inr (x3.2.1,x3.2.2.1,x3.2.2.2.1,x3.2.2.2.2))) (.nx ((((ao.Nil (ao.av RK.ab (dB (dF (v0.1.length:Int)-dF x0.2.2.1) (dC x0.2.2.1.toNat v0.1)))\/oH Nat 4 4)/\rE ((dB (dF (v0.1.length:Int)-dF x0.2.2.1) (dC x0.2.2.1.toNat v0.1)):List (RK.T RK.ab)))/\True/\rZ/\((ao.Nil (ao.ints u64 dh)\/rE (1:Nat))/\rE (dh:List Int))/\rE ((dh.length:Int):Int)/\rE ((wrap i64 (v0.2.1+1)):Int)/\True)/\(((ao.Nil (ao.av RK.ag x3.2.1)\/oH Nat 2 2)/\rE x3.2.1)/\True)/\(mE x3.2.2.1 (((ao.Nil (ao.ints u32 x3.2.2.1.Mem)\/oH Nat 1 1)/\rE x3.2.2.1.Mem)) True)/\(rE x3.2.2.2.1.Good/\rE x3.2.2.2.1.D5/\rE x3.2.2.2.1.At/\True)/\(((ao.Nil (ao.ints u64 x3.2.2.2.2)\/oH Nat 1 1)/\rE x3.2.2.2.2)/\True)/\(mE x0.1 (((ao.Nil (ao.ints u32 x0.1.Mem)\/oH Nat 1 1)/\rE x0.1.Mem)) True)/\True) (Sum.inl (dB (dF (v0.1.length:Int)-dF x0.2.2.1) (dC x0.2.2.1.toNat v0.1),wrap i64 (v0.2.1+1),x3.2.1,x3.2.2.1,x3.2.2.2.1,x3.2.2.2.2,x0.1)))))))))) (.lf (Sum.inr (v0.2.2.1,v0.2.2.2.1,v0.2.2.2.2.1,v0.2.2.2.2.2.1)))
def Qrg m script dh vl vm vv va:=(PH m script dh vl vm vv va).m
abbrev Qjk m script dh vl vm vv va:=(PH m script dh vl vm vv va).p
def Qwv:bu:={
 α:=(List ei)×(Int)×(List gg)×au×jN×(List Int)×au
 F:=λst a=>([(1,.sl 4 (.av RK.ab a.1) false),(3,.gq 86 [.ptr 0 0 0,.ptr 1 0 0,.ptr 2 0 0,.ptr 3 0 0]),(4,.ptr 4 0 0),(14,(lk st 14)),(15,(lk st 15)),(16,.int i64 a.2.1)],[⟨true,87,1,.gen [[.sl 2 (.av RK.ag a.2.2.1) false]]⟩,⟨true,42,49,.gen [mD a.2.2.2.1 (.sl 1 (.ints u32 a.2.2.2.1.Mem) false)]⟩,⟨true,95,3,.gen [[.bool a.2.2.2.2.1.Good,.int i64 a.2.2.2.2.1.D5,.int u64 a.2.2.2.2.1.At]]⟩,⟨true,91,1,.gen [[.sl 1 (.ints u64 a.2.2.2.2.2.1) false]]⟩,⟨true,42,49,.gen [mD a.2.2.2.2.2.2 (.sl 1 (.ints u32 a.2.2.2.2.2.2.Mem) false)]⟩])
 a0:=λst=>((tB RK.ab (lk st 1)),(lk st 16).toInt,(tB RK.ag (iS st.rows 0 0)),(⟨(⟨(⟨(iS st.rows 1 0).toInt,(iS st.rows 1 1).toInt,(iS st.rows 1 2).toInt,(iS st.rows 1 3).toInt,(iS st.rows 1 4).toInt,(iS st.rows 1 5).toInt,(iS st.rows 1 6).toInt,(iS st.rows 1 7).toInt,(iS st.rows 1 8).toInt,(iS st.rows 1 9).toInt,(iS st.rows 1 10).toInt,(iS st.rows 1 11).toInt,(iS st.rows 1 12).toInt,(iS st.rows 1 13).toInt,(iS st.rows 1 14).toInt,(iS st.rows 1 15).toInt⟩:(iU Int)),(iS st.rows 1 16).toInt,(⟨(iS st.rows 1 17).toInt,(iS st.rows 1 18).toInt,(iS st.rows 1 19).toInt,(iS st.rows 1 20).toInt,(iS st.rows 1 21).toInt,(iS st.rows 1 22).toInt,(iS st.rows 1 23).toInt,(iS st.rows 1 24).toInt⟩:(A8 Int))⟩:bh),(nE u32 (iS st.rows 1 25)),(⟨(iS st.rows 1 26).toStr⟩:iV),(⟨(iS st.rows 1 27).toBool,(iS st.rows 1 28).toInt,(iS st.rows 1 29).toBool⟩:iW),(⟨(iS st.rows 1 30).toInt,(iS st.rows 1 31).toInt,(iS st.rows 1 32).toInt,(iS st.rows 1 33).toInt,(iS st.rows 1 34).toInt,(iS st.rows 1 35).toInt,(iS st.rows 1 36).toInt,(iS st.rows 1 37).toStr⟩:fp),(⟨(iS st.rows 1 38).toInt,(iS st.rows 1 39).toInt,(iS st.rows 1 40).toBool,(iS st.rows 1 41).toInt,(iS st.rows 1 42).toBool,(iS st.rows 1 43).toInt⟩:ia),(⟨(iS st.rows 1 44).toInt,(iS st.rows 1 45).toInt⟩:gv),(iS st.rows 1 46).toInt,(iS st.rows 1 47).toBool,(iS st.rows 1 48).toBool⟩:au),(⟨(iS st.rows 2 0).toBool,(iS st.rows 2 1).toInt,(iS st.rows 2 2).toInt⟩:jN),(nE u64 (iS st.rows 3 0)),(mR (cT st 4) (nE u32 (cT st 4 25))))
 jn:=λst=>[0,1,2,3]++[(rX st 4 4)]}
def Qsn:List (Nat×bu):=[(2,Qwv)]
def Qzu:bc:=bc.fz<|lZ 4 81 [false,false,false,true] [.agg au.sig,.one (.av .ab),.one (.ints .u64),.gq 86 [.ptr 0 0 0,.ptr 1 0 0,.ptr 2 0 0,.ptr 3 0 0]] [.box 87 1 [.av .ag],.box 42 49 au.sig,.box 95 3 jN.sig,.box 91 1 [.ints .u64]] (λa r=>Qjk (au.of (aC a 0)) (jh .ab a 1) (eh .u64 a 2) (tB .ag (nV r 0 0)) (au.of (r.getD 1 default).cs) (jN.of (r.getD 2 default).cs) (nE .u64 (nV r 3 0))) (λa r=>Qrg (au.of (aC a 0)) (jh .ab a 1) (eh .u64 a 2) (tB .ag (nV r 0 0)) (au.of (r.getD 1 default).cs) (jN.of (r.getD 2 default).cs) (nE .u64 (nV r 3 0))) (λX=>.dt []) (λX=>[⟨true,87,1,.gen [[.sl 2 (.av .ag X.1) false]]⟩,⟨true,42,49,.gen [(au.cells (X.2.1))]⟩,⟨true,95,3,.gen [(jN.cells (X.2.2.1))]⟩,⟨true,91,1,.gen [[.sl 1 (.ints .u64 X.2.2.2) false]]⟩])
theorem Qw6:bj pG Qzu:=MQ<|Eu drawn mQ (.cons Qsm (.cons Qp (.cons Qn4 (.nil)))) Tryz.func81 Tryz.call81 (λa r=>PH (au.of (aC a 0)) (jh .ab a 1) (eh .u64 a 2) (tB .ag (nV r 0 0)) (au.of (r.getD 1 default).cs) (jN.of (r.getD 2 default).cs) (nE .u64 (nV r 3 0))) [.sl (.av .ag) false,.sl (.ints .u32) false,.sl (.ints .u64) false] Qsn 3 (λ_ _ _=>by kernel_rfl) (λ_ _=>rfl) (λ_ _ h=>h)
def Qko(m:au)(script:List ei)(l:List gg)(z:(Int)×(List Int)):Nat:=(l.length-z.1).toNat
def Mn(m:au)(script:List ei)(l:List gg):Tree (jN×Int):=
.lp inferInstance (Qko m script l (0,[])+1) ((nR RK.ab 4 script/\rZ/\rZ/\rZ/\rZ/\nR RK.ag 2 l/\rE ((l.length:Int):Int)/\rE (0:Int)/\True)/\(mE m (((ao.Nil (ao.ints u32 m.Mem)\/rE (1:Nat))/\rE m.Mem)) True)/\(nR RK.ag 2 l/\True)/\(rE (false:Bool)/\rE (0:Int)/\rE (0:Int)/\True)/\(True/\True)/\rE ([]:List Int)/\True) (0,[]) λ(v0:Int×List Int)=>.br (decide (v0.1<(l.length:Int))) (.cn (bT 2 2&&bJ 0 2&&decide (0<=v0.1/\v0.1<(l.length:Int))) (.cn (decide (8*(v0.2.length+1)<=140737488355328)) (.nx ((nR RK.ab 4 script/\rZ/\rZ/\rZ/\rZ/\nR RK.ag 2 l/\rE ((l.length:Int):Int)/\rE ((wrap i64 (v0.1+1)):Int)/\True)/\(mE m (((ao.Nil (ao.ints u32 m.Mem)\/rE (1:Nat))/\rE m.Mem)) True)/\(nR RK.ag 2 l/\True)/\(rE (false:Bool)/\rE (0:Int)/\rE (0:Int)/\True)/\(True/\True)/\rE ((v0.2++[(l.getD v0.1.toNat (RK.cj RK.ag)).At]):List Int)/\True) (Sum.inl (wrap i64 (v0.1+1),v0.2++[(l.getD v0.1.toNat (RK.cj RK.ag)).At]))))) (.an (Qh3 m script v0.2) (.lv (Qse m script v0.2) λ(x0:Int)=>.br (x0 !=0) (.lf (Sum.inr ({Good:=false,D5:=0,At:=0},x0))) (.an (Qjk m script v0.2 l m {Good:=true,D5:=0,At:=0} v0.2) (.lv (Qrg m script v0.2 l m {Good:=true,D5:=0,At:=0} v0.2) λ(x1:List gg×au×jN×List Int)=>.lf (Sum.inr (x1.2.2.1,0))))))
def Qmo m script l:=(Mn m script l).m
abbrev Qc6 m script l:=(Mn m script l).p
def Z6y:bu:={
 α:=(Int)×(List Int)
 F:=λst a=>([(1,(lk st 1)),(3,.ptr 0 0 0),(5,.ptr 1 0 0),(6,.ptr 2 0 0),(8,.ptr 3 0 0),(13,(lk st 13)),(14,(lk st 14)),(15,.int i64 a.1)],[⟨true,42,49,.gen [mB (cT st 3)]⟩,⟨true,87,1,.gen [[(cT st 5 0)]]⟩,⟨true,95,3,.gen [[(cT st 6 0),(cT st 6 1),(cT st 6 2)]]⟩,⟨true,91,1,.gen [[.all 4]]⟩,⟨false,40,1,.ints u64 a.2⟩])
 a0:=λst=>((lk st 15).toInt,(oP st.rows (lz (cT st 8 0) 1000000)))
 jn:=λst=>[]++[(rX st 3 0),(rX st 5 1),(rX st 6 2),(rX st 8 3),(lz (cT st 8 0) (st.rows.length+4))]}
def Qzw:List (Nat×bu):=[(3,Z6y)]
def Zc5:bc:=mT 41 [] true [.agg au.sig,.one (.av .ab),.one (.av .ag)] [] (λa r=>Mn (au.of (aC a 0)) (jh .ab a 1) (jh .ag a 2)) (λX=>.dt [.agg (jN.cells (X.1)),.int .i64 (X.2)]) (λX=>[])
theorem Qry:bj pG Zc5:=oT (.cons Qrd (.cons Qn4 (.cons Qw6 (.nil)))) Tryz.func41 Tryz.call41 [] Qzw 3
end
noncomputable section
def strconv_Itoa(i:Int):(List UInt8):=
Lib.decDigits i.toNat
def Ho(i:Int):Prop:=
0<=i/\i<=9223372036854775807
def Qkr(i:Int):List D:=[.int .i64 i]
def Ql3(i:Int):List Row:=[]
def Qfn(X:List UInt8):D:=.str X
def Qft(X:List UInt8):List Row:=[]
def Qmr:List PT:=[.one (.int .i64)]
def Qkd:List RT:=[]
def Qzv(args:List D)(rows:List Row):(List UInt8):=strconv_Itoa (aq args 0)
def Z0(args:List D)(rows:List Row):Prop:=Ho (aq args 0)
def Z6f:bc:=mP 147 [] true Qmr Qkd Z0 Qzv Qfn Qft
theorem Qvw(i:Int)(hw:Ho i):j9 pG 147 (Qkr i) (Ql3 i) (Qfn (strconv_Itoa i)) (Qft (strconv_Itoa i)):=by
 exact xai Tryz.strconv_Itoa (by kernel_rfl) Zp4 hw.1 hw.2
set_option maxRecDepth 100000 in
theorem Qy5(args:List D)(rows:List Row):Qe Qmr args 0=Qkr (aq args 0):=by kernel_rfl
set_option maxRecDepth 100000 in
theorem Qvb(args:List D)(rows:List Row):lr Qkd rows 0=Ql3 (aq args 0):=by kernel_rfl
set_option maxRecDepth 100000 in
theorem Z26(X:List UInt8):(wa (Qfn X)&&jI (Qft X))=true:=by kernel_rfl
theorem Qo7:bj pG Z6f:=MR Tryz.call147 (λargs rows hp=>by rw[Qy5 args rows,Qvb args rows];exact Qvw (aq args 0) hp) (λ_ X=>Z26 X)
def Qnq(a b:bh)(z:(Int)):Nat:=(16-z).toNat
def Qnj(a b:bh)(z:(Int)):Nat:=(8-z).toNat
def PL(a b:bh):Tree (List UInt8):=
.lp inferInstance (Qnq a b 0+1) ((rZ/\rZ/\rE (0:Int)/\True)/\(rE a.X.a0/\rE a.X.a1/\rE a.X.a2/\rE a.X.a3/\rE a.X.a4/\rE a.X.a5/\rE a.X.a6/\rE a.X.a7/\rE a.X.a8/\rE a.X.a9/\rE a.X.kq/\rE a.X.kr/\rE a.X.a12/\rE a.X.ku/\rE a.X.kv/\rE a.X.ky/\rE a.Pc/\rE a.B4.a0/\rE a.B4.a1/\rE a.B4.a2/\rE a.B4.a3/\rE a.B4.a4/\rE a.B4.a5/\rE a.B4.a6/\rE a.B4.a7/\True)/\(rE b.X.a0/\rE b.X.a1/\rE b.X.a2/\rE b.X.a3/\rE b.X.a4/\rE b.X.a5/\rE b.X.a6/\rE b.X.a7/\rE b.X.a8/\rE b.X.a9/\rE b.X.kq/\rE b.X.kr/\rE b.X.a12/\rE b.X.ku/\rE b.X.kv/\rE b.X.ky/\rE b.Pc/\rE b.B4.a0/\rE b.B4.a1/\rE b.B4.a2/\rE b.B4.a3/\rE b.B4.a4/\rE b.B4.a5/\rE b.B4.a6/\rE b.B4.a7/\True)/\True) 0 λ(v0:Int)=>.br (decide (v0<16)) (let E1:=bJ 0 1&&decide (0<=v0/\v0<(↑16:Int));.cn E1 (.cn E1 (.br (aK (iU.l a.X) v0.toNat 0 !=aK (iU.l b.X) v0.toNat 0) (.an (Ho v0) (.lv (strconv_Itoa v0) λ(x0:List UInt8)=>.cn (decide (2+x0.length<=maxLen)) (.lf (Sum.inr ((120:UInt8)::([(32:UInt8)]++x0)))))) (.nx ((rZ/\rZ/\rE ((wrap i64 (v0+1)):Int)/\True)/\(rE a.X.a0/\rE a.X.a1/\rE a.X.a2/\rE a.X.a3/\rE a.X.a4/\rE a.X.a5/\rE a.X.a6/\rE a.X.a7/\rE a.X.a8/\rE a.X.a9/\rE a.X.kq/\rE a.X.kr/\rE a.X.a12/\rE a.X.ku/\rE a.X.kv/\rE a.X.ky/\rE a.Pc/\rE a.B4.a0/\rE a.B4.a1/\rE a.B4.a2/\rE a.B4.a3/\rE a.B4.a4/\rE a.B4.a5/\rE a.B4.a6/\rE a.B4.a7/\True)/\(rE b.X.a0/\rE b.X.a1/\rE b.X.a2/\rE b.X.a3/\rE b.X.a4/\rE b.X.a5/\rE b.X.a6/\rE b.X.a7/\rE b.X.a8/\rE b.X.a9/\rE b.X.kq/\rE b.X.kr/\rE b.X.a12/\rE b.X.ku/\rE b.X.kv/\rE b.X.ky/\rE b.Pc/\rE b.B4.a0/\rE b.B4.a1/\rE b.B4.a2/\rE b.B4.a3/\rE b.B4.a4/\rE b.B4.a5/\rE b.B4.a6/\rE b.B4.a7/\True)/\True) (Sum.inl (wrap i64 (v0+1))))))) (.br (a.Pc !=b.Pc) (.lf (Sum.inr [(112:UInt8),99])) (.lp inferInstance (Qnj a b 0+1) ((rZ/\rZ/\rE (0:Int)/\True)/\(rE a.X.a0/\rE a.X.a1/\rE a.X.a2/\rE a.X.a3/\rE a.X.a4/\rE a.X.a5/\rE a.X.a6/\rE a.X.a7/\rE a.X.a8/\rE a.X.a9/\rE a.X.kq/\rE a.X.kr/\rE a.X.a12/\rE a.X.ku/\rE a.X.kv/\rE a.X.ky/\rE a.Pc/\rE a.B4.a0/\rE a.B4.a1/\rE a.B4.a2/\rE a.B4.a3/\rE a.B4.a4/\rE a.B4.a5/\rE a.B4.a6/\rE a.B4.a7/\True)/\(rE b.X.a0/\rE b.X.a1/\rE b.X.a2/\rE b.X.a3/\rE b.X.a4/\rE b.X.a5/\rE b.X.a6/\rE b.X.a7/\rE b.X.a8/\rE b.X.a9/\rE b.X.kq/\rE b.X.kr/\rE b.X.a12/\rE b.X.ku/\rE b.X.kv/\rE b.X.ky/\rE b.Pc/\rE b.B4.a0/\rE b.B4.a1/\rE b.B4.a2/\rE b.B4.a3/\rE b.B4.a4/\rE b.B4.a5/\rE b.B4.a6/\rE b.B4.a7/\True)/\True) 0 λ(v1:Int)=>.br (decide (v1<8)) (let E2:=bJ 0 1&&decide (0<=v1/\v1<(↑8:Int));.cn E2 (.cn E2 (.br (aK (A8.l a.B4) v1.toNat 0 !=aK (A8.l b.B4) v1.toNat 0) (.an (Ho v1) (.lv (strconv_Itoa v1) λ(x1:List UInt8)=>.cn (decide (4+x1.length<=maxLen)) (.lf (Sum.inr (Sum.inr ((99:UInt8)::([(115:UInt8),114,32]++x1))))))) (.nx ((rZ/\rZ/\rE ((wrap i64 (v1+1)):Int)/\True)/\(rE a.X.a0/\rE a.X.a1/\rE a.X.a2/\rE a.X.a3/\rE a.X.a4/\rE a.X.a5/\rE a.X.a6/\rE a.X.a7/\rE a.X.a8/\rE a.X.a9/\rE a.X.kq/\rE a.X.kr/\rE a.X.a12/\rE a.X.ku/\rE a.X.kv/\rE a.X.ky/\rE a.Pc/\rE a.B4.a0/\rE a.B4.a1/\rE a.B4.a2/\rE a.B4.a3/\rE a.B4.a4/\rE a.B4.a5/\rE a.B4.a6/\rE a.B4.a7/\True)/\(rE b.X.a0/\rE b.X.a1/\rE b.X.a2/\rE b.X.a3/\rE b.X.a4/\rE b.X.a5/\rE b.X.a6/\rE b.X.a7/\rE b.X.a8/\rE b.X.a9/\rE b.X.kq/\rE b.X.kr/\rE b.X.a12/\rE b.X.ku/\rE b.X.kv/\rE b.X.ky/\rE b.Pc/\rE b.B4.a0/\rE b.B4.a1/\rE b.B4.a2/\rE b.B4.a3/\rE b.B4.a4/\rE b.B4.a5/\rE b.B4.a6/\rE b.B4.a7/\True)/\True) (Sum.inl (wrap i64 (v1+1))))))) (.lf (Sum.inr (Sum.inr [])))))
def Qn2 a b:=(PL a b).m
abbrev Qa7 a b:=(PL a b).p
def Qsf:bu:={
 α:=(Int)
 F:=λst a=>([(2,.ptr 0 0 0),(3,.ptr 1 0 0),(7,.int i64 a)],[⟨true,28,25,.gen [[(cT st 2 0),(cT st 2 1),(cT st 2 2),(cT st 2 3),(cT st 2 4),(cT st 2 5),(cT st 2 6),(cT st 2 7),(cT st 2 8),(cT st 2 9),(cT st 2 10),(cT st 2 11),(cT st 2 12),(cT st 2 13),(cT st 2 14),(cT st 2 15),(cT st 2 16),(cT st 2 17),(cT st 2 18),(cT st 2 19),(cT st 2 20),(cT st 2 21),(cT st 2 22),(cT st 2 23),(cT st 2 24)]]⟩,⟨true,28,25,.gen [[(cT st 3 0),(cT st 3 1),(cT st 3 2),(cT st 3 3),(cT st 3 4),(cT st 3 5),(cT st 3 6),(cT st 3 7),(cT st 3 8),(cT st 3 9),(cT st 3 10),(cT st 3 11),(cT st 3 12),(cT st 3 13),(cT st 3 14),(cT st 3 15),(cT st 3 16),(cT st 3 17),(cT st 3 18),(cT st 3 19),(cT st 3 20),(cT st 3 21),(cT st 3 22),(cT st 3 23),(cT st 3 24)]]⟩])
 a0:=λst=>(lk st 7).toInt
 jn:=λst=>[]++[(rX st 2 0),(rX st 3 1)]}
def Qsv:bu:={
 α:=(Int)
 F:=λst a=>([(2,.ptr 0 0 0),(3,.ptr 1 0 0),(28,.int i64 a)],[⟨true,28,25,.gen [[(cT st 2 0),(cT st 2 1),(cT st 2 2),(cT st 2 3),(cT st 2 4),(cT st 2 5),(cT st 2 6),(cT st 2 7),(cT st 2 8),(cT st 2 9),(cT st 2 10),(cT st 2 11),(cT st 2 12),(cT st 2 13),(cT st 2 14),(cT st 2 15),(cT st 2 16),(cT st 2 17),(cT st 2 18),(cT st 2 19),(cT st 2 20),(cT st 2 21),(cT st 2 22),(cT st 2 23),(cT st 2 24)]]⟩,⟨true,28,25,.gen [[(cT st 3 0),(cT st 3 1),(cT st 3 2),(cT st 3 3),(cT st 3 4),(cT st 3 5),(cT st 3 6),(cT st 3 7),(cT st 3 8),(cT st 3 9),(cT st 3 10),(cT st 3 11),(cT st 3 12),(cT st 3 13),(cT st 3 14),(cT st 3 15),(cT st 3 16),(cT st 3 17),(cT st 3 18),(cT st 3 19),(cT st 3 20),(cT st 3 21),(cT st 3 22),(cT st 3 23),(cT st 3 24)]]⟩])
 a0:=λst=>(lk st 28).toInt
 jn:=λst=>[]++[(rX st 2 0),(rX st 3 1)]}
def Qou:List (Nat×bu):=[(2,Qsf),(10,Qsv)]
def Qvx:bc:=mT 90 [] true [.agg bh.sig,.agg bh.sig] [] (λa r=>PL (bh.of (aC a 0)) (bh.of (aC a 1))) (λX=>.str X) (λX=>[])
theorem Qt2:bj pG Qvx:=oT (.cons Qo7 (.nil)) Tryz.func90 Tryz.call90 [] Qou 3
def Qnf(a b:List Int)(z:(Int)):Nat:=(a.length-z).toNat
def PM(a b:List Int):Tree (List UInt8):=
.br ((a.length:Int) !=(b.length:Int)) (.lf ([(109:UInt8),101,109])) (.lp inferInstance (Qnf a b 0+1) ((((ao.Nil (ao.ints u32 a)\/rE (1:Nat))/\rE (a:List Int))/\((ao.Nil (ao.ints u32 b)\/rE (1:Nat))/\rE (b:List Int))/\rE ((a.length:Int):Int)/\rE (0:Int)/\True)/\True) 0 λ(v0:Int)=>.br (decide (v0<(a.length:Int))) (.cn (bT 1 1&&bJ 0 1&&decide (0<=v0/\v0<(a.length:Int))) (.cn (bT 1 1&&bJ 0 1&&decide (0<=v0/\v0<(b.length:Int))) (.br (a.getD v0.toNat 0 !=b.getD v0.toNat 0) (.an (Ho v0) (.lv (strconv_Itoa v0) λ(x0:List UInt8)=>.cn (decide (4+x0.length<=maxLen)) (.lf (Sum.inr ((109:UInt8)::([(101:UInt8),109,32]++x0)))))) (.nx ((((ao.Nil (ao.ints u32 a)\/rE (1:Nat))/\rE (a:List Int))/\((ao.Nil (ao.ints u32 b)\/rE (1:Nat))/\rE (b:List Int))/\rE ((a.length:Int):Int)/\rE ((wrap i64 (v0+1)):Int)/\True)/\True) (Sum.inl (wrap i64 (v0+1))))))) (.lf (Sum.inr [])))
def Qn8 a b:=(PM a b).m
abbrev Qaa a b:=(PM a b).p
def Qsd:bu:={
 α:=(Int)
 F:=λst a=>([(0,(lk st 0)),(1,(lk st 1)),(12,(lk st 12)),(13,.int i64 a)],[])
 a0:=λst=>(lk st 13).toInt
 jn:=λst=>[]++[]}
def Qoe:List (Nat×bu):=[(4,Qsd)]
def Qv2:bc:=mT 91 [] true [.one (.ints .u32),.one (.ints .u32)] [] (λa r=>PM (eh .u32 a 0) (eh .u32 a 1)) (λX=>.str X) (λX=>[])
theorem Qtb:bj pG Qv2:=oT (.cons Qo7 (.nil)) Tryz.func91 Tryz.call91 [] Qoe 3
def PO(a b:au):Tree (List UInt8):=
.an (Qa7 a.B1 b.B1) (.lv (Qn2 a.B1 b.B1) λ(x0:List UInt8)=>.br (!decide (x0=[])) (.lf x0) (.an (Qaa a.Mem b.Mem) (.lv (Qn8 a.Mem b.Mem) λ(x1:List UInt8)=>.br (!decide (x1=[])) (.lf x1) (.br (!eqs [D.str a.A3.D1] [D.str b.A3.D1]) (.lf ([(99:UInt8),111,110,115,111,108,101])) (.br (!eqs [D.bool a.A9.D3,D.int u32 a.A9.C4,D.bool a.A9.D2] [D.bool b.A9.D3,D.int u32 b.A9.C4,D.bool b.A9.D2]) (.lf ([(116:UInt8),105,109,101,114])) (.br (!eqs [D.int u32 a.A7.ae,D.int u32 a.A7.C1,D.int u32 a.A7.Frame,D.int i64 a.A7.B7,D.int i64 a.A7.D6,D.int u32 a.A7.B6,D.int u32 a.A7.B2,D.str a.A7.B8] [D.int u32 b.A7.ae,D.int u32 b.A7.C1,D.int u32 b.A7.Frame,D.int i64 b.A7.B7,D.int i64 b.A7.D6,D.int u32 b.A7.B6,D.int u32 b.A7.B2,D.str b.A7.B8]) (.lf ([(100:UInt8),105,115,107])) (.br (!eqs [D.int u32 a.C3.Frame,D.int u32 a.C3.E0,D.bool a.C3.C5,D.int u32 a.C3.C0,D.bool a.C3.B5,D.int u32 a.C3.F1] [D.int u32 b.C3.Frame,D.int u32 b.C3.E0,D.bool b.C3.C5,D.int u32 b.C3.C0,D.bool b.C3.B5,D.int u32 b.C3.F1]) (.lf ([(110:UInt8),105,99])) (.br (!eqs [D.int u32 a.A2.C7,D.int u32 a.A2.C2] [D.int u32 b.A2.C7,D.int u32 b.A2.C2]) (.lf ([(98:UInt8),97,108,108,111,111,110])) (.br (a.A1 !=b.A1) (.lf ([(99:UInt8),111,117,110,116])) (.br (!a.A4==b.A4) (.lf ([(119:UInt8),97,105,116,105,110,103])) (.br (!a.A6==b.A6) (.lf ([(104:UInt8),97,108,116,101,100])) (.lf ([])))))))))))))
def Uv a b:=(PO a b).m
abbrev PN a b:=(PO a b).p
def Z2m:bc:=mT 43 [] true [.agg au.sig,.agg au.sig] [] (λa r=>PO (au.of (aC a 0)) (au.of (aC a 1))) (λX=>.str X) (λX=>[])
theorem Z10:bj pG Z2m:=oT (.cons Qt2 (.cons Qtb (.nil))) Tryz.func43 Tryz.call43 [] [] 2
def PR:Tree Bool:=
.an (Yy 2 [0]) (.lv (Fy 2 [0]) λ(x0:au)=>.an (Qhh x0 [] [1,3]) (.lv (Qsy x0 [] [1,3]) λ(x1:List gg×Int)=>.br (x1.2 !=0) (.lf false) (.br ((x1.1.length:Int) !=(2:Int)) (.lf false) (.an (Qc6 x0 [] x1.1) (.lv (Qmo x0 [] x1.1) λ(x2:jN×Int)=>let E3:=bT 2 2&&bJ 0 2&&decide ((0:Int)<=(1:Int)/\1<(x1.1.length:Int));.cn E3 (.cn E3 (let E2:=x1.1.getD (dF 1) (RK.cj RK.ag);.an (Qc6 x0 [] (dG x1.1 (dF 1) {At:=E2.At,D4:=wrap u64 (E2.D4+1)})) (.lv (Qmo x0 [] (dG x1.1 (dF 1) {At:=E2.At,D4:=wrap u64 (E2.D4+1)})) λ(x3:jN×Int)=>.br (x2.2==0) (.br x2.1.Good (.br (x3.2==0) (.br (!x3.1.Good) (.br (x3.1.D5==1) (.br (x3.1.At==1) (let E1:=({B1:={X:={a0:=x0.B1.X.a0,a1:=x0.B1.X.a1,a2:=x0.B1.X.a2,a3:=x0.B1.X.a3,a4:=x0.B1.X.a4,a5:=7,a6:=x0.B1.X.a6,a7:=x0.B1.X.a7,a8:=x0.B1.X.a8,a9:=x0.B1.X.a9,kq:=x0.B1.X.kq,kr:=x0.B1.X.kr,a12:=x0.B1.X.a12,ku:=x0.B1.X.ku,kv:=x0.B1.X.kv,ky:=x0.B1.X.ky},Pc:=x0.B1.Pc,B4:=x0.B1.B4},Mem:=x0.Mem,A3:=x0.A3,A9:=x0.A9,A7:=x0.A7,C3:=x0.C3,A2:=x0.A2,A1:=x0.A1,A4:=x0.A4,A6:=x0.A6}:au);.an (PN x0 E1) (.lv (Uv x0 E1) λ(x4:List UInt8)=>.br (decide (x4=[(120:UInt8),32,53])) (.an (PN x0 x0) (.lv (Uv x0 x0) λ(x5:List UInt8)=>.lf (decide (x5=[])))) (.lf false))) (.lf false)) (.lf false)) (.lf false)) (.lf false)) (.lf false)) (.lf false)))))))))
def FD:Bool:=(PR).m
abbrev Hp:Prop:=(PR).p
def Zb3:bc:=mT 35 [] true [] [] (λa r=>PR) (λX=>.bool X) (λX=>[])
theorem Z6t:bj pG Zb3:=oT (.cons Qpa (.cons Qs0 (.cons Qry (.cons Z10 (.nil))))) Tryz.func35 Tryz.call35 [] [] 2
end
noncomputable section
def Uw(kind:Int)(prog events l:List Int)(change:Int):Tree Bool:=
.br (decide ((prog.length:Int)>(60:Int))) (.an Hp (.lv FD λ(x0:Bool)=>.lf x0)) (.br (decide ((events.length:Int)>(20:Int))) (.an Hp (.lv FD λ(x1:Bool)=>.lf x1)) (.br (decide ((l.length:Int)>(10:Int))) (.an Hp (.lv FD λ(x2:Bool)=>.lf x2)) (.an (Qj5 kind prog events) (.lv (Qrm kind prog events) λ(x3:au×List ei)=>.an (Qhm x3.1 l) (.lv (Qpb x3.1 l) λ(x4:List Int)=>.an (Qhh x3.1 x3.2 x4) (.lv (Qsy x3.1 x3.2 x4) λ(x5:List gg×Int)=>.br (x5.2 !=0) (.an Hp (.lv FD λ(x6:Bool)=>.lf x6)) (.br ((x3.2.length:Int)==(0:Int)) (.an Hp (.lv FD λ(x7:Bool)=>.lf x7)) (.an (Ev change (x3.2.length:Int)) (.lv (tM change (x3.2.length:Int)) λ(x8:Int)=>.cn (decide (40*(0+x3.2.length)<=140737488355328)) (let E2:=bT 4 4&&bJ 0 4&&decide (0<=x8/\x8<(x3.2.length:Int));.cn E2 (.cn E2 (let E1:=x3.2.getD x8.toNat (RK.cj RK.ab);.an (Qc6 x3.1 (dG x3.2 x8.toNat {At:=E1.At,C6:={B9:=E1.C6.B9,N:=wrap u32 (E1.C6.N+1),C9:=E1.C6.C9}}) x5.1) (.lv (Qmo x3.1 (dG x3.2 x8.toNat {At:=E1.At,C6:={B9:=E1.C6.B9,N:=wrap u32 (E1.C6.N+1),C9:=E1.C6.C9}}) x5.1) λ(x9:jN×Int)=>.br (x9.2 !=0) (.lf false) (.br x9.1.Good (.an Hp (.lv FD λ(kI:Bool)=>.lf kI)) (.br (decide (x9.1.D5<(x5.1.length:Int))) (.cn (bT 2 2&&bJ 0 2&&decide (0<=x9.1.D5/\x9.1.D5<(x5.1.length:Int))) (.cn E2 (.br (decide ((x5.1.getD x9.1.D5.toNat (RK.cj RK.ag)).At>E1.At)) (.an Hp (.lv FD λ(mz:Bool)=>.lf mz)) (.lf false)))) (.lf false))))))))))))))))
def Qc2 kind prog events l change:=(Uw kind prog events l change).m
abbrev Qd8 kind prog events l change:=(Uw kind prog events l change).p
def Qr4:bc:=mT 8 [] true [.one (.int .i64),.one (.ints .i64),.one (.ints .i64),.one (.ints .i64),.one (.int .i64)] [] (λa r=>Uw (aq a 0) (eh .i64 a 1) (eh .i64 a 2) (eh .i64 a 3) (aq a 4)) (λX=>.bool X) (λX=>[])
theorem Qnv:bj pG Qr4:=oT (.cons Z6t (.cons Qx4 (.cons Qs0 (.cons Qtr (.cons R8 (.cons Qry (.nil))))))) Tryz.func8 Tryz.call8 [] [] 2

import Derived.Test.YthjfindbamdacaaGreatDoorAuditFewerZd
import Derived.Test.YthjfindbamdacaaGreatDoorAuditFewerZx
open Nat renaming beq->bT,blt->bJ,lt_succ_self->cO
open List renaming getD->aK,length->dK,append->cR,take->dB,drop->dC
open Int renaming toNat->dF
open UInt8 renaming toNat->eW
set_option maxRecDepth 100000
set_option linter.all false
namespace Go.Proofs.YthjfindbamdacaaGreatDoor
open Go Go.GD Go.IntKind
noncomputable section
instance So {α β:Type} [Inhabited β]:Inhabited (α⊕β):=⟨.inr default⟩
def Qt0(src:List UInt8)(z:(Int)×(List Int)):Nat:=((Z3h src).2.1.length-z.1).toNat
def Qt8(src:List UInt8)(v0:Int×List Int)(z:(Int)×(List Int)):Nat:=(1024-z.1).toNat
def Oe(src:List UInt8):Tree ((List Int)×tH):=
.an (Qm7 src) (.lv (Z3h src) λ(x0:List om×List kE×tH)=>.br (x0.2.2.Aq !=0) (.lf ([],x0.2.2)) (.lp inferInstance (Qt0 src (0,[])+1) ((True/\rZ/\True/\True/\True/\rE (0:Int)/\True)/\(rE (0:Int)/\rE (0:Int)/\True)/\rE x0.1/\rE x0.2.1/\rE ([]:List Int)/\True) (0,[]) λ(v0:Int×List Int)=>.br (decide (v0.1<(x0.2.1.length:Int))) (.cn (bT 6 6&&bJ 0 6&&decide (0<=v0.1/\v0.1<(x0.2.1.length:Int))) (let E4:=x0.2.1.getD v0.1.toNat (RK.cu RK.ai);let T1:Tree ((Int×List Int)⊕(((List Int)×tH))):=.lp inferInstance (Qt8 src v0 (0,v0.2)+1) ((True/\rZ/\True/\True/\True/\rE v0.1/\rZ/\rE (0:Int)/\True)/\(rE (0:Int)/\rE (0:Int)/\True)/\rE x0.1/\rE x0.2.1/\(rE ((x0.2.1.getD v0.1.toNat (RK.cu RK.ai)).eg:List UInt8)/\rE ((x0.2.1.getD v0.1.toNat (RK.cu RK.ai)).op:Int)/\((ao.Nil (D.toEs (aK (ao.get (ao.av RK.ai x0.2.1) v0.1.toNat) ((0:Nat)+(1:Nat)+(1:Nat)) D.dead))\/rE (3:Nat))/\rE ((x0.2.1.getD v0.1.toNat (RK.cu RK.ai)).l:List (RK.T RK.bb)))/\rE ((x0.2.1.getD v0.1.toNat (RK.cu RK.ai)).E0:Int)/\rE ((x0.2.1.getD v0.1.toNat (RK.cu RK.ai)).at_:Int)/\rE ((x0.2.1.getD v0.1.toNat (RK.cu RK.ai)).size:Int)/\True)/\rE v0.2/\True) (0,v0.2) λ(v1:Int×List Int)=>.br (decide (v1.1<E4.size)) (.cn (decide (4*(v1.2.length+1)<=140737488355328)) (.nx ((True/\rZ/\True/\True/\True/\rE v0.1/\rZ/\rE ((wrap i64 (v1.1+1)):Int)/\True)/\(rE (0:Int)/\rE (0:Int)/\True)/\rE x0.1/\rE x0.2.1/\(rE ((x0.2.1.getD v0.1.toNat (RK.cu RK.ai)).eg:List UInt8)/\rE ((x0.2.1.getD v0.1.toNat (RK.cu RK.ai)).op:Int)/\((ao.Nil (ao.av RK.bb (x0.2.1.getD v0.1.toNat (RK.cu RK.ai)).l)\/rE (3:Nat))/\rE ((x0.2.1.getD v0.1.toNat (RK.cu RK.ai)).l:List (RK.T RK.bb)))/\rE ((x0.2.1.getD v0.1.toNat (RK.cu RK.ai)).E0:Int)/\rE ((x0.2.1.getD v0.1.toNat (RK.cu RK.ai)).at_:Int)/\rE ((x0.2.1.getD v0.1.toNat (RK.cu RK.ai)).size:Int)/\True)/\rE ((v1.2++[0]):List Int)/\True) (Sum.inl (wrap i64 (v1.1+1),v1.2++[0])))) (.nx ((True/\rZ/\True/\True/\True/\rE ((wrap i64 (v0.1+1)):Int)/\True)/\(rE (0:Int)/\rE (0:Int)/\True)/\rE x0.1/\rE x0.2.1/\rE v1.2/\True) (Sum.inr (Sum.inl (wrap i64 (v0.1+1),v1.2))));let E5:=bT 3 3&&bJ 0 3&&decide ((0:Int)<=(0:Int)/\0<(↑(dK E4.l):Int));let E7:=aK E4.l (dF 0) (RK.cu RK.bb);let E8:=decide (4*(v0.2.length+1)<=140737488355328);let T2:Tree ((Int×List Int)⊕(((List Int)×tH))):=.cn E5 (.cn (bT 3 3&&bJ 0 3&&decide ((0:Int)<=(1:Int)/\1<(↑(dK E4.l):Int))) (.lv (o7 {Op:=16,A:=E7.kK,B:=(aK E4.l (dF 1) (RK.cu RK.bb)).kK,C:=0,bq:=0}) λ(x4:Int×Bool)=>.cn E8 (.nx ((True/\rZ/\True/\True/\True/\rE ((wrap i64 (v0.1+1)):Int)/\True)/\(rE (0:Int)/\rE (0:Int)/\True)/\rE x0.1/\rE x0.2.1/\rE ((v0.2++[x4.1]):List Int)/\True) (Sum.inl (wrap i64 (v0.1+1),v0.2++[x4.1])))));let T3:Tree ((Int×List Int)⊕(((List Int)×tH))):=.lv (o7 {Op:=16,A:=0,B:=0,C:=0,bq:=0}) λ(x5:Int×Bool)=>.cn E8 (.nx ((True/\rZ/\True/\True/\True/\rE ((wrap i64 (v0.1+1)):Int)/\True)/\(rE (0:Int)/\rE (0:Int)/\True)/\rE x0.1/\rE x0.2.1/\rE ((v0.2++[x5.1]):List Int)/\True) (Sum.inl (wrap i64 (v0.1+1),v0.2++[x5.1])));let E9:=decide (E4.eg=[(46:UInt8),115,112,97,99,101]);let nw:=decide (E4.eg=[(46:UInt8),119,111,114,100]);let pj:=decide (E4.eg=[(110:UInt8),111,112]);let BJ:=decide (4*(v0.2.length+2)<=140737488355328);let Im:=decide (E4.eg=[(108:UInt8),105]);let Io:=decide (E4.eg=[(109:UInt8),118]);.br (decide ((↑(dK E4.l):Int)>(0:Int))) (.cn (bT 3 3&&bJ 0 3&&decide (0<=wrap i64 ((↑(dK E4.l):Int)-(1:Int))/\wrap i64 ((↑(dK E4.l):Int)-(1:Int))<(↑(dK E4.l):Int))) (let E6:=aK E4.l (dF (wrap i64 ((↑(dK E4.l):Int)-(1:Int)))) (RK.cu RK.bb);.br (!decide (E6.label=[])) (.an (GS x0.1 E6.label) (.lv (Qpp x0.1 E6.label) λ(x1:Int×Bool)=>.br (!x1.2) (.lf (Sum.inr ([],{Aq:=302,nI:=E4.E0}))) (.br (decide (E4.op>0)) (let oe:=wrap i64 (wrap i64 (Int.tdiv (wrap i64 x1.1) 4)-E4.at_);.br nw (.cn E8 (.nx ((True/\rZ/\True/\True/\True/\rE ((wrap i64 (v0.1+1)):Int)/\True)/\(rE (0:Int)/\rE (0:Int)/\True)/\rE x0.1/\rE x0.2.1/\rE ((v0.2++[wrap u32 (wrap i64 (wrap i64 (Int.tdiv (wrap i64 x1.1) 4)-(x0.2.1.getD v0.1.toNat (RK.cu RK.ai)).at_))]):List Int)/\True) (Sum.inl (wrap i64 (v0.1+1),v0.2++[wrap u32 oe])))) (.br E9 T1 (.br Im (.cn E5 (.lv (o7 {Op:=24,A:=E7.kK,B:=0,C:=0,bq:=wrap i32 (bh u32 (wrap u32 oe) 16)}) λ(x2:Int×Bool)=>.cn E5 (.cn E5 (.lv (o7 {Op:=18,A:=E7.kK,B:=E7.kK,C:=0,bq:=wrap i32 (bg u32 (wrap u32 oe) 65535)}) λ(x3:Int×Bool)=>.cn BJ (.nx ((True/\rZ/\True/\True/\True/\rE ((wrap i64 (v0.1+1)):Int)/\True)/\(rE (0:Int)/\rE (0:Int)/\True)/\rE x0.1/\rE x0.2.1/\rE ((v0.2++[x2.1,x3.1]):List Int)/\True) (Sum.inl (wrap i64 (v0.1+1),v0.2++[x2.1,x3.1]))))))) (.br Io T2 (.br pj T3 (.an (Oc E4 oe) (.lv (V4 E4 oe) λ(x6:Int×Bool)=>.br (!x6.2) (.lf (Sum.inr ([],{Aq:=304,nI:=E4.E0}))) (.cn E8 (.nx ((True/\rZ/\True/\True/\True/\rE ((wrap i64 (v0.1+1)):Int)/\True)/\(rE (0:Int)/\rE (0:Int)/\True)/\rE x0.1/\rE x0.2.1/\rE ((v0.2++[x6.1]):List Int)/\True) (Sum.inl (wrap i64 (v0.1+1),v0.2++[x6.1]))))))))))) (.br nw (.cn E8 (.nx ((True/\rZ/\True/\True/\True/\rE ((wrap i64 (v0.1+1)):Int)/\True)/\(rE (0:Int)/\rE (0:Int)/\True)/\rE x0.1/\rE x0.2.1/\rE ((v0.2++[wrap u32 (wrap i64 x1.1)]):List Int)/\True) (Sum.inl (wrap i64 (v0.1+1),v0.2++[wrap u32 (wrap i64 x1.1)])))) (.br E9 T1 (.br Im (.cn E5 (.lv (o7 {Op:=24,A:=E7.kK,B:=0,C:=0,bq:=wrap i32 (bh u32 (wrap u32 (wrap i64 x1.1)) 16)}) λ(x7:Int×Bool)=>.cn E5 (.cn E5 (.lv (o7 {Op:=18,A:=E7.kK,B:=E7.kK,C:=0,bq:=wrap i32 (bg u32 (wrap u32 (wrap i64 x1.1)) 65535)}) λ(x8:Int×Bool)=>.cn BJ (.nx ((True/\rZ/\True/\True/\True/\rE ((wrap i64 (v0.1+1)):Int)/\True)/\(rE (0:Int)/\rE (0:Int)/\True)/\rE x0.1/\rE x0.2.1/\rE ((v0.2++[x7.1,x8.1]):List Int)/\True) (Sum.inl (wrap i64 (v0.1+1),v0.2++[x7.1,x8.1]))))))) (.br Io T2 (.br pj T3 (.an (Oc E4 (wrap i64 x1.1)) (.lv (V4 E4 (wrap i64 x1.1)) λ(mI:Int×Bool)=>.br (!mI.2) (.lf (Sum.inr ([],{Aq:=304,nI:=E4.E0}))) (.cn E8 (.nx ((True/\rZ/\True/\True/\True/\rE ((wrap i64 (v0.1+1)):Int)/\True)/\(rE (0:Int)/\rE (0:Int)/\True)/\rE x0.1/\rE x0.2.1/\rE ((v0.2++[mI.1]):List Int)/\True) (Sum.inl (wrap i64 (v0.1+1),v0.2++[mI.1])))))))))))))) (.br nw (.cn E8 (.nx ((True/\rZ/\True/\True/\True/\rE ((wrap i64 (v0.1+1)):Int)/\True)/\(rE (0:Int)/\rE (0:Int)/\True)/\rE x0.1/\rE x0.2.1/\rE ((v0.2++[wrap u32 (aK (x0.2.1.getD v0.1.toNat (RK.cu RK.ai)).l (dF (wrap i64 ((↑(dK (x0.2.1.getD v0.1.toNat (RK.cu RK.ai)).l):Int)-(1:Int)))) (RK.cu RK.bb)).num]):List Int)/\True) (Sum.inl (wrap i64 (v0.1+1),v0.2++[wrap u32 E6.num])))) (.br E9 T1 (.br Im (.cn E5 (.lv (o7 {Op:=24,A:=E7.kK,B:=0,C:=0,bq:=wrap i32 (bh u32 (wrap u32 E6.num) 16)}) λ(lO:Int×Bool)=>.cn E5 (.cn E5 (.lv (o7 {Op:=18,A:=E7.kK,B:=E7.kK,C:=0,bq:=wrap i32 (bg u32 (wrap u32 E6.num) 65535)}) λ(me:Int×Bool)=>.cn BJ (.nx ((True/\rZ/\True/\True/\True/\rE ((wrap i64 (v0.1+1)):Int)/\True)/\(rE (0:Int)/\rE (0:Int)/\True)/\rE x0.1/\rE x0.2.1/\rE ((v0.2++[lO.1,me.1]):List Int)/\True) (Sum.inl (wrap i64 (v0.1+1),v0.2++[lO.1,me.1]))))))) (.br Io T2 (.br pj T3 (.an (Oc E4 E6.num) (.lv (V4 E4 E6.num) λ(uO:Int×Bool)=>.br (!uO.2) (.lf (Sum.inr ([],{Aq:=304,nI:=E4.E0}))) (.cn E8 (.nx ((True/\rZ/\True/\True/\True/\rE ((wrap i64 (v0.1+1)):Int)/\True)/\(rE (0:Int)/\rE (0:Int)/\True)/\rE x0.1/\rE x0.2.1/\rE ((v0.2++[uO.1]):List Int)/\True) (Sum.inl (wrap i64 (v0.1+1),v0.2++[uO.1]))))))))))))) (.br nw (.cn E8 (.nx ((True/\rZ/\True/\True/\True/\rE ((wrap i64 (v0.1+1)):Int)/\True)/\(rE (0:Int)/\rE (0:Int)/\True)/\rE x0.1/\rE x0.2.1/\rE ((v0.2++[wrap u32 0]):List Int)/\True) (Sum.inl (wrap i64 (v0.1+1),v0.2++[wrap u32 0])))) (.br E9 T1 (.br Im (.cn E5 (.lv (o7 {Op:=24,A:=E7.kK,B:=0,C:=0,bq:=wrap i32 (bh u32 (wrap u32 0) 16)}) λ(Hv:Int×Bool)=>.cn E5 (.cn E5 (.lv (o7 {Op:=18,A:=E7.kK,B:=E7.kK,C:=0,bq:=wrap i32 (bg u32 (wrap u32 0) 65535)}) λ(Hw:Int×Bool)=>.cn BJ (.nx ((True/\rZ/\True/\True/\True/\rE ((wrap i64 (v0.1+1)):Int)/\True)/\(rE (0:Int)/\rE (0:Int)/\True)/\rE x0.1/\rE x0.2.1/\rE ((v0.2++[Hv.1,Hw.1]):List Int)/\True) (Sum.inl (wrap i64 (v0.1+1),v0.2++[Hv.1,Hw.1]))))))) (.br Io T2 (.br pj T3 (.an (Oc E4 0) (.lv (V4 E4 0) λ(FN:Int×Bool)=>.br (!FN.2) (.lf (Sum.inr ([],{Aq:=304,nI:=E4.E0}))) (.cn E8 (.nx ((True/\rZ/\True/\True/\True/\rE ((wrap i64 (v0.1+1)):Int)/\True)/\(rE (0:Int)/\rE (0:Int)/\True)/\rE x0.1/\rE x0.2.1/\rE ((v0.2++[FN.1]):List Int)/\True) (Sum.inl (wrap i64 (v0.1+1),v0.2++[FN.1]))))))))))))) (.lf (Sum.inr (v0.2,{Aq:=0,nI:=0})))))
def Li src:=(Oe src).m
abbrev Xm src:=(Oe src).p
def Z0r:bw:={
 α:=(Int)×(List Int)
 F:=λst a=>([(2,(lk st 2)),(3,.ptr 0 0 0),(4,.all 1),(5,.all 2),(7,.all 3),(8,.int i64 a.1)],[⟨true,112,2,.gen [[(cT st 3 0),(cT st 3 1)]]⟩,⟨false,238,2,ng st.rows (rN st 4)⟩,⟨false,175,6,ng st.rows (rN st 5)⟩,⟨false,23,1,.ints u32 a.2⟩])
 a0:=λst=>((lk st 8).toInt,(o4 st.rows (rN st 7)))
 jo:=λst=>[]++[(rX st 3 0),(rX st 4 1),(rX st 5 2),(rX st 7 3)]}
def Z0i:bw:={
 α:=(Int)×(List Int)
 F:=λst a=>([(2,(lk st 2)),(3,.ptr 0 0 0),(4,.all 1),(5,.all 2),(7,.all 4),(8,(lk st 8)),(9,.ptr 3 0 0),(14,.int i64 a.1)],[⟨true,112,2,.gen [[(cT st 3 0),(cT st 3 1)]]⟩,⟨false,238,2,ng st.rows (rN st 4)⟩,⟨false,175,6,ng st.rows (rN st 5)⟩,⟨true,175,6,.gen [[(cT st 9 0),(cT st 9 1),(cT st 9 2),(cT st 9 3),(cT st 9 4),(cT st 9 5)]]⟩,⟨false,23,1,.ints u32 a.2⟩])
 a0:=λst=>((lk st 14).toInt,(o4 st.rows (rN st 7)))
 jo:=λst=>[]++[(rX st 3 0),(rX st 4 1),(rX st 5 2),(rX st 9 3),(rX st 7 4)]}
def Qvk:List (Nat×bw):=[(6,Z0r),(29,Z0i)]
def Z3g:bc:=mT 49 [] true [.one (.str)] [] (λa r=>Oe (iq a 0)) (λX=>.du [.all 0,.agg (tH.cells (X.2))]) (λX=>[⟨false,23,1,.ints .u32 (X.1)⟩])
theorem Z04:bn pG Z3g:=oT (.cons Zg7 (.cons Qp0 (.cons Qjz (.cons Zet (.nil))))) Tryz.func49 Tryz.call49 [.row 23 1 (.ints .u32)] Qvk 3
end
noncomputable section
instance Sp {α β:Type} [Inhabited β]:Inhabited (α⊕β):=⟨.inr default⟩
def Lj(m:au):Tree cy:=
.an (Sq m) (.lv (JA m) λ(x0:au)=>.lf ({A0:=x0,B6:=0,D0:=[],B3:=[]}))
def Mq m:=(Lj m).m
abbrev Qf8 m:=(Lj m).p
def Qtf:bc:=mT 136 [] true [.agg au.sig] [] (λa r=>Lj (au.of (aC a 0))) (λX=>.agg (cy.fg X (.all 0) (.all 1) (.all 2))) (λX=>[⟨false,23,1,.ints .u32 X.A0.Mem⟩,⟨false,103,4,.av .ab X.D0⟩,⟨false,72,3,.av .bd X.B3⟩])
theorem Qr7:bn pG Qtf:=oT (.cons Qsw (.nil)) Tryz.func136 Tryz.call136 [.row 23 1 (.ints .u32),.row 103 4 (.av .ab),.row 72 3 (.av .bd)] [] 2
def Fu(r:cy)(n:Int):Tree (cy×(List dw)):=
.lv (AW n 3) λ(x0:Int)=>.br (Int.tmod x0 (3:Int)==(0:Int)) (.an (Qra n) (.lv (Pd n) λ(x1:gx)=>.an (Qmx r x1) (.lv (Eu r x1) λ(x2:cy×Bool)=>.lf (x2.1,[])))) (.an (EG (bh i64 x0 4) 12) (.lv (tS (bh i64 x0 4) 12) λ(x3:Int)=>let E1:=wrap u32 (bg i64 (bh i64 x0 12) 255);.an (Qkj r x3 E1) (.lv (Ur r x3 E1) λ(x4:cy×List dw)=>.lf (x4.1,x4.2))))
def wW r n:=(Fu r n).m
abbrev Quy r n:=(Fu r n).p
def Zlq:bc:=mT 137 [] true [.agg cy.sig,.one (.int .i64)] [] (λa r=>Fu (cy.of (aC a 0)) (aq a 1)) (λX=>.du [.agg (cy.fg (X.1) (.all 0) (.all 1) (.all 2)),.all 3]) (λX=>[⟨false,23,1,.ints .u32 (X.1).A0.Mem⟩,⟨false,103,4,.av .ab (X.1).D0⟩,⟨false,72,3,.av .bd (X.1).B3⟩,⟨false,137,4,.av .ba (X.2)⟩])
theorem Zfk:bn pG Zlq:=oT (.cons VX (.cons Z5d (.cons Zb (.cons Qzx (.cons Sj (.nil)))))) Tryz.func137 Tryz.call137 [.row 23 1 (.ints .u32),.row 103 4 (.av .ab),.row 72 3 (.av .bd),.row 137 4 (.av .ba)] [] 2
def Xo(m:au)(l:List Int)(z:(Int)×cy×(List dw)):Nat:=(l.length-z.1).toNat
def I7(m:au)(l:List Int):Tree (cy×(List dw)):=
.an (Qf8 m) (.lv (Mq m) λ(x0:cy)=>.lp inferInstance (Xo m l (0,x0,[])+1) ((((ao.Nil (ao.ints i64 l)\/rE (1:Nat))/\rE (l:List Int))/\rZ/\rZ/\True/\rE (0:Int)/\True)/\(mE zM True (rE (0:Int)/\True/\True/\True))/\(mE x0.A0 True (rE x0.B6/\True/\True/\True))/\rE x0.A0.Mem/\rE x0.D0/\rE x0.B3/\rE ([]:List (RK.T RK.ba))/\True) (0,x0,[]) λ(v0:Int×cy×List dw)=>.br (decide (v0.1<(l.length:Int))) (.cn (bT 1 1&&bJ 0 1&&decide (0<=v0.1/\v0.1<(l.length:Int))) (.an (Quy v0.2.1 (l.getD v0.1.toNat 0)) (.lv (wW v0.2.1 (l.getD v0.1.toNat 0)) λ(x1:cy×List dw)=>.cn (decide (40*(v0.2.2.length+x1.2.length)<=140737488355328)) (.nx ((((ao.Nil (ao.ints i64 l)\/rE (1:Nat))/\rE (l:List Int))/\rZ/\rZ/\True/\rE ((wrap i64 (v0.1+1)):Int)/\True)/\(mE zM True (rE (0:Int)/\True/\True/\True))/\(mE x1.1.A0 True (rE x1.1.B6/\True/\True/\True))/\rE x1.1.A0.Mem/\rE x1.1.D0/\rE x1.1.B3/\rE ((v0.2.2++x1.2):List (RK.T RK.ba))/\True) (Sum.inl (wrap i64 (v0.1+1),x1.1,v0.2.2++x1.2)))))) (.lf (Sum.inr (v0.2.1,v0.2.2))))
def YL m l:=(I7 m l).m
abbrev Qmm m l:=(I7 m l).p
def Zh0:bw:={
 α:=(Int)×cy×(List dw)
 F:=λst a=>([(1,(lk st 1)),(4,.ptr 0 0 0),(6,.ptr 1 0 0),(7,.all 5),(8,.int i64 a.1)],[⟨true,154,52,.gen [[(cT st 4 0),(cT st 4 1),(cT st 4 2),(cT st 4 3),(cT st 4 4),(cT st 4 5),(cT st 4 6),(cT st 4 7),(cT st 4 8),(cT st 4 9),(cT st 4 10),(cT st 4 11),(cT st 4 12),(cT st 4 13),(cT st 4 14),(cT st 4 15),(cT st 4 16),(cT st 4 17),(cT st 4 18),(cT st 4 19),(cT st 4 20),(cT st 4 21),(cT st 4 22),(cT st 4 23),(cT st 4 24),(cT st 4 25),(cT st 4 26),(cT st 4 27),(cT st 4 28),(cT st 4 29),(cT st 4 30),(cT st 4 31),(cT st 4 32),(cT st 4 33),(cT st 4 34),(cT st 4 35),(cT st 4 36),(cT st 4 37),(cT st 4 38),(cT st 4 39),(cT st 4 40),(cT st 4 41),(cT st 4 42),(cT st 4 43),(cT st 4 44),(cT st 4 45),(cT st 4 46),(cT st 4 47),(cT st 4 48),(cT st 4 49),(cT st 4 50),(cT st 4 51)]]⟩,⟨true,154,52,.gen [[.int u32 a.2.1.A0.B4.X.a0,.int u32 a.2.1.A0.B4.X.a1,.int u32 a.2.1.A0.B4.X.a2,.int u32 a.2.1.A0.B4.X.a3,.int u32 a.2.1.A0.B4.X.a4,.int u32 a.2.1.A0.B4.X.a5,.int u32 a.2.1.A0.B4.X.a6,.int u32 a.2.1.A0.B4.X.a7,.int u32 a.2.1.A0.B4.X.a8,.int u32 a.2.1.A0.B4.X.a9,.int u32 a.2.1.A0.B4.X.kz,.int u32 a.2.1.A0.B4.X.kA,.int u32 a.2.1.A0.B4.X.a12,.int u32 a.2.1.A0.B4.X.kB,.int u32 a.2.1.A0.B4.X.kC,.int u32 a.2.1.A0.B4.X.kD,.int u32 a.2.1.A0.B4.Pc,.int u32 a.2.1.A0.B4.B7.a0,.int u32 a.2.1.A0.B4.B7.a1,.int u32 a.2.1.A0.B4.B7.a2,.int u32 a.2.1.A0.B4.B7.a3,.int u32 a.2.1.A0.B4.B7.a4,.int u32 a.2.1.A0.B4.B7.a5,.int u32 a.2.1.A0.B4.B7.a6,.int u32 a.2.1.A0.B4.B7.a7,.all 2,.str a.2.1.A0.A7.D5,.bool a.2.1.A0.B2.D7,.int u32 a.2.1.A0.B2.C7,.bool a.2.1.A0.B2.D6,.int u32 a.2.1.A0.B1.ag,.int u32 a.2.1.A0.B1.C4,.int u32 a.2.1.A0.B1.Frame,.int i64 a.2.1.A0.B1.C0,.int i64 a.2.1.A0.B1.D8,.int u32 a.2.1.A0.B1.B9,.int u32 a.2.1.A0.B1.B5,.str a.2.1.A0.B1.C1,.int u32 a.2.1.A0.C6.Frame,.int u32 a.2.1.A0.C6.F1,.bool a.2.1.A0.C6.C8,.int u32 a.2.1.A0.C6.C2,.bool a.2.1.A0.C6.B8,.int u32 a.2.1.A0.C6.F4,.int u32 a.2.1.A0.A6.C9,.int u32 a.2.1.A0.A6.C5,.int u64 a.2.1.A0.A4,.bool a.2.1.A0.A9,.bool a.2.1.A0.B0,.int u32 a.2.1.B6,.all 3,.all 4]]⟩,⟨false,23,1,.ints u32 a.2.1.A0.Mem⟩,⟨false,103,4,.av RK.ab a.2.1.D0⟩,⟨false,72,3,.av RK.bd a.2.1.B3⟩,⟨false,137,4,.av RK.ba a.2.2⟩])
 a0:=λst=>((lk st 8).toInt,(⟨(mR (cT st 6) (o4 st.rows (kU (cT st 6 25) 1000000))),(cT st 6 49).toInt,(sM RK.ab st.rows (kU (cT st 6 50) 1000000)),(sM RK.bd st.rows (kU (cT st 6 51) 1000000))⟩:cy),(sM RK.ba st.rows (rN st 7)))
 jo:=λst=>[]++[(rX st 4 0),(rX st 6 1),(kU (cT st 6 25) (st.rows.length+2)),(kU (cT st 6 50) (st.rows.length+3)),(kU (cT st 6 51) (st.rows.length+4)),(rX st 7 5)]}
def Z83:List (Nat×bw):=[(4,Zh0)]
def Zjb:bc:=mT 79 [] true [.agg au.sig,.one (.ints .i64)] [] (λa r=>I7 (au.of (aC a 0)) (ei .i64 a 1)) (λX=>.du [.agg (cy.fg (X.1) (.all 0) (.all 1) (.all 2)),.all 3]) (λX=>[⟨false,23,1,.ints .u32 (X.1).A0.Mem⟩,⟨false,103,4,.av .ab (X.1).D0⟩,⟨false,72,3,.av .bd (X.1).B3⟩,⟨false,137,4,.av .ba (X.2)⟩])
theorem Zfw:bn pG Zjb:=oT (.cons Qr7 (.cons Zfk (.nil))) Tryz.func79 Tryz.call79 [.row 23 1 (.ints .u32),.row 103 4 (.av .ab),.row 72 3 (.av .bd),.row 137 4 (.av .ba)] Z83 3
end
noncomputable section
def Cp:List UInt8:=[(105:UInt8),32,114,49,44,32,104,97,110,100,108,101,114,10,99,115,114,119,32,114,49,44,32,49,10,108,105,32,114,49,44,32,51,49,10,99,115,114,119,32,114]
def K4:List UInt8:=[(49:UInt8),44,32,55,10,108,105,32,114,49,44,32,52,10,99,115,114,119,32,114,49,44,32,54,10,108,105,32,114,50,44,32,53,49,50,10,108,105,32,114,51,44]
def Za:List UInt8:=[(32:UInt8),48,10,108,105,32,114,52,44,32,56,10,109,97,112,58,32,115,104,108,105,32,114,53,44,32,114,51,44,32,56,10,111,114,105,32,114,53,44,32,114,53]
def K5:List UInt8:=[(44:UInt8),32,55,10,115,104,108,105,32,114,54,44,32,114,51,44,32,50,10,97,100,100,32,114,54,44,32,114,54,44,32,114,50,10,115,119,32,114,53,44,32,48,40]
def K6:List UInt8:=[(114:UInt8),54,41,10,97,100,100,105,32,114,51,44,32,114,51,44,32,49,10,98,108,116,32,114,51,44,32,114,52,44,32,109,97,112,10,108,105,32,114,49,44,32]
def K7:List UInt8:=[(54:UInt8),10,111,117,116,32,114,49,44,32,55,10,108,105,32,114,49,44,32,50,10,111,117,116,32,114,49,44,32,57,10,108,105,32,114,49,44,32,49,48,48,10,111]
def K8:List UInt8:=[(117:UInt8),116,32,114,49,44,32,51,10,108,105,32,114,49,44,32,54,52,48,10,99,115,114,119,32,114,49,44,32,50,10,108,105,32,114,49,44,32,50,49,10,99]
def K9:List UInt8:=[(115:UInt8),114,119,32,114,49,44,32,48,10,101,114,101,116,10,104,97,110,100,108,101,114,58,32,99,115,114,119,32,114,49,44,32,53,10,99,115,114,114,32,114,49,44]
def La:List UInt8:=[(32:UInt8),51,10,115,108,116,105,32,114,49,44,32,114,49,44,32,49,54,10,98,101,113,32,114,49,44,32,114,48,44,32,105,114,113,10,99,115,114,114,32,114,49]
def Lb:List UInt8:=[(44:UInt8),32,50,10,97,100,100,105,32,114,49,44,32,114,49,44,32,52,10,99,115,114,119,32,114,49,44,32,50,10,105,110,32,114,51,44,32,50,10,111,117,116]
def Lc:List UInt8:=[(32:UInt8),114,51,44,32,48,10,108,105,32,114,49,44,32,49,10,111,117,116,32,114,49,44,32,52,10,108,105,32,114,49,44,32,55,10,111,117,116,32,114,49,44]
def Ld:List UInt8:=[(32:UInt8),53,10,97,110,100,105,32,114,49,44,32,114,50,44,32,49,10,97,100,100,105,32,114,49,44,32,114,49,44,32,49,10,111,117,116,32,114,49,44,32,54,10]
def Le:List UInt8:=[(99:UInt8),115,114,114,32,114,49,44,32,53,10,101,114,101,116,10,105,114,113,58,32,105,110,32,114,49,44,32,48,10,111,117,116,32,114,49,44,32,48,10,111,117]
def Lf:List UInt8:=[(116:UInt8),32,114,48,44,32,54,10,111,117,116,32,114,48,44,32,57,10,108,105,32,114,49,44,32,54,10,111,117,116,32,114,49,44,32,55,10,108,105,32,114,49,44]
def Lg:List UInt8:=[(32:UInt8),50,10,111,117,116,32,114,49,44,32,57,10,105,110,32,114,49,44,32,50,10,97,100,100,105,32,114,49,44,32,114,49,44,32,50,48,10,111,117,116,32]
def Lh:List UInt8:=[(114:UInt8),49,44,32,51,10,105,110,32,114,49,44,32,49,48,10,111,117,116,32,114,49,44,32,49,48,10,99,115,114,114,32,114,49,44,32,53,10,101,114,101,116,10]
def Tt:List UInt8:=[(108:UInt8),105,32,114,49,44,32,104,97,110,100,108,101,114,10,99,115,114,119,32,114,49,44,32,49,10,108,105,32,114,49,44,32,51,49,10,99,115,114,119,32,114]
instance Sr {α β:Type} [Inhabited β]:Inhabited (α⊕β):=⟨.inr default⟩
def Qks(l:List ej)(z:(Int)):Prop:=1<=z/\(z<=l.length\/z=1)
def Qci(l:List ej)(z:(Int)):Nat:=(l.length-z).toNat
def V5(l:List ej):Tree Bool:=
.lp inferInstance (Qci l 1+1) ((nR RK.ab 4 l/\rE (1:Int)/\True)/\True) 1 λ(v0:Int)=>.br (decide (v0<(l.length:Int))) (let E4:=bT 4 4&&bJ 0 4&&decide (0<=v0/\v0<(l.length:Int));.cn E4 (let E2:=bT 4 4&&bJ 0 4&&decide (0<=wrap i64 (v0-1)/\wrap i64 (v0-1)<(l.length:Int));.cn E2 (let E3:=l.getD (dF (wrap i64 (v0-1))) (RK.cu RK.ab);let E5:=l.getD v0.toNat (RK.cu RK.ab);.br (decide (E5.At<E3.At)) (.lf (Sum.inr false)) (.cn E4 (.cn E2 (let T1:Tree ((Int)⊕(Bool)):=.nx ((nR RK.ab 4 l/\rE ((wrap i64 (v0+1)):Int)/\True)/\True) (Sum.inl (wrap i64 (v0+1)));.br (E5.At==E3.At) (.cn E2 (.br (E3.D1.C3==1) (.lf (Sum.inr false)) T1)) T1)))))) (.lf (Sum.inr true))
def Qz8 l:=(V5 l).m
def NZ(l:List ej):Prop:=
l.length<=1000000000000
theorem Z0p(l:List ej)(hw:NZ l):(V5 l).p:=by
 simp only[NZ]at hw
 unfold Tree.p V5
 repeat'(first|refine fy (inv:=Qks l) (μ:=Qci l) ?_ (cO _) (λ_ _=>?_)|exact trivial|refine aa (λ_=>?_) (λ_=>?_)|refine ay ?_ ?_|refine cz ?_ ?_|refine ar (λ_ _=>?_)|refine ff ?_|refine fe ?_|refine And.intro ?_ ?_)
 all_goals((try simp only[Qks,Qci]at*);exact oR)
def Z5e:bw:={
 α:=(Int)
 F:=λst a=>([(0,(lk st 0)),(3,.int i64 a)],[])
 a0:=λst=>(lk st 3).toInt
 jo:=λst=>[]++[]}
def Qwp:List (Nat×bw):=[(2,Z5e)]
def Z6l:bc:=mW 102 [] true [.one (.av .ab)] [] (λa r=>NZ (jj .ab a 0)) (λa r=>Qz8 (jj .ab a 0)) (λX=>.bool X) (λX=>[])
theorem Z3m:bn pG Z6l:=wo drawn mX (.nil) Tryz.func102 Tryz.call102 (λa r=>V5 (jj .ab a 0)) [] Qwp 3 (hp:=λa r h=>Z0p (jj .ab a 0) h)
def Tp(m:au)(script:List ej)(dh:Int)(z:au×(List dw)):Nat:=(dh-z.1.A4).toNat
def Tq(m:au)(script:List ej)(dh:Int)(v0:au×List dw)(z:Unit):Nat:=0
def Fp(m:au)(script:List ej)(dh:Int):Tree (au×(List dw)×Int×Int):=
.lv (ra m) λ(x0:Bool)=>let E2:=({B4:={X:={a0:=0,a1:=0,a2:=0,a3:=0,a4:=0,a5:=0,a6:=0,a7:=0,a8:=0,a9:=0,kz:=0,kA:=0,a12:=0,kB:=0,kC:=0,kD:=0},Pc:=0,B7:={a0:=0,a1:=0,a2:=0,a3:=0,a4:=0,a5:=0,a6:=0,a7:=0}},Mem:=[],A7:={D5:=[]},B2:={D7:=false,C7:=0,D6:=false},B1:={ag:=0,C4:=0,Frame:=0,C0:=0,D8:=0,B9:=0,B5:=0,C1:=[]},C6:={Frame:=0,F1:=0,C8:=false,C2:=0,B8:=false,F4:=0},A6:={C9:=0,C5:=0},A4:=0,A9:=false,B0:=false}:au);let T1:Tree ((au×(List dw)×Int×Int)):=.lf (E2,[],0,1300);.br (!x0) T1 (.br (decide (dh<m.A4)) T1 (.br (decide (wrap u64 (dh-m.A4)>4000)) T1 (.an (NZ []) (.lv (Qz8 []) λ(x1:Bool)=>.br (!x1) (.lf (E2,[],0,1301)) (.an (Sq m) (.lv (JA m) λ(x2:au)=>.lp inferInstance (Tp m script dh (x2,[])+1) ((((ao.Nil (ao.gen [])\/rE (0:Nat))/\rE ([]:List (List D)))/\rE (dh:Int)/\rZ/\rZ/\True/\rE (0:Int)/\True)/\(mE x2 True True)/\rE x2.Mem/\(mE zM True True)/\rE ([]:List (RK.T RK.ba))/\True) (x2,[]) λ(v0:au×List dw)=>.br (decide (v0.1.A4<dh)) (.br (decide (v0.1.A4<1152921504606846976)) (.lp inferInstance (Tq m script dh v0 ()+1) ((((ao.Nil (ao.gen [])\/rE (0:Nat))/\rE ([]:List (List D)))/\rE (dh:Int)/\rZ/\rZ/\True/\rE (0:Int)/\(rE (0:Nat)/\rE (46:Nat))/\rE v0.1.A4/\rE ((decide (v0.1.A4<1152921504606846976)):Bool)/\True)/\(mE v0.1 True True)/\rE v0.1.Mem/\(mE zM True True)/\rE v0.2/\True) () λ(v1:PUnit)=>.br v0.1.B0 (.lf (Sum.inr (Sum.inr (v0.1,v0.2,0,0)))) (.an (Qmn v0.1) (.lv (sZ v0.1) λ(x3:Bool)=>.br x3 (.lf (Sum.inr (Sum.inr (v0.1,v0.2,0,0)))) (.an (Qk0 v0.1) (.lv (pf v0.1) λ(x4:Bool)=>.br (!false==x4) (.lf (Sum.inr (Sum.inr (E2,[],0,1302)))) (.an (Qfm v0.1 0) (.lv (gd v0.1 0) λ(x5:List dw×au)=>.cn (decide (40*(v0.2.length+x5.1.length)<=140737488355328)) (.nx ((((ao.Nil (ao.gen [])\/rE (0:Nat))/\rE ([]:List (List D)))/\rE (dh:Int)/\rZ/\rZ/\True/\rE (0:Int)/\True)/\(mE x5.2 True True)/\rE x5.2.Mem/\(mE zM True True)/\rE ((v0.2++x5.1):List (RK.T RK.ba))/\True) (Sum.inr (Sum.inl (x5.2,v0.2++x5.1))))))))))) (.lf (Sum.inr (v0.1,v0.2,0,0)))) (.lf (Sum.inr (v0.1,v0.2,0,0)))))))))
def I8 m script dh:=(Fp m script dh).m
abbrev V6 m script dh:=(Fp m script dh).p
def Ze8:bw:={
 α:=au×(List dw)
 F:=λst a=>([(1,(lk st 1)),(2,(lk st 2)),(3,.ptr 0 0 0),(6,.ptr 2 0 0),(10,.all 3),(11,(lk st 11))],[⟨true,42,49,.gen [mD a.1 (.all 1)]⟩,⟨false,23,1,.ints u32 a.1.Mem⟩,⟨true,42,49,.gen [mB (cT st 6)]⟩,⟨false,137,4,.av RK.ba a.2⟩])
 a0:=λst=>((mR (cT st 3) (o4 st.rows (kU (cT st 3 25) 1000000))),(sM RK.ba st.rows (rN st 10)))
 jo:=λst=>[]++[(rX st 3 0),(kU (cT st 3 25) (st.rows.length+1)),(rX st 6 2),(rX st 10 3)]}
def Zct:bw:={
 α:=Unit
 F:=λst a=>([(1,(lk st 1)),(2,(lk st 2)),(3,.ptr 0 0 0),(6,.ptr 2 0 0),(10,.all 3),(11,(lk st 11)),(61,.ptr 0 0 46),(62,(lk st 62)),(63,(lk st 63))],[⟨true,42,49,.gen [[(cT st 3 0),(cT st 3 1),(cT st 3 2),(cT st 3 3),(cT st 3 4),(cT st 3 5),(cT st 3 6),(cT st 3 7),(cT st 3 8),(cT st 3 9),(cT st 3 10),(cT st 3 11),(cT st 3 12),(cT st 3 13),(cT st 3 14),(cT st 3 15),(cT st 3 16),(cT st 3 17),(cT st 3 18),(cT st 3 19),(cT st 3 20),(cT st 3 21),(cT st 3 22),(cT st 3 23),(cT st 3 24),.all 1,(cT st 3 26),(cT st 3 27),(cT st 3 28),(cT st 3 29),(cT st 3 30),(cT st 3 31),(cT st 3 32),(cT st 3 33),(cT st 3 34),(cT st 3 35),(cT st 3 36),(cT st 3 37),(cT st 3 38),(cT st 3 39),(cT st 3 40),(cT st 3 41),(cT st 3 42),(cT st 3 43),(cT st 3 44),(cT st 3 45),(cT st 3 46),(cT st 3 47),(cT st 3 48)]]⟩,⟨false,23,1,ng st.rows (kU (cT st 3 25) 1000000)⟩,⟨true,42,49,.gen [mB (cT st 6)]⟩,⟨false,137,4,ng st.rows (rN st 10)⟩])
 a0:=λst=>()
 jo:=λst=>[]++[(rX st 3 0),(kU (cT st 3 25) (st.rows.length+1)),(rX st 6 2),(rX st 10 3)]}
def Z2x:List (Nat×bw):=[(8,Ze8),(9,Zct)]
def Zfz:bc:=mT 52 [] true [.agg au.sig,.one .nil,.one (.int .u64)] [] (λa r=>Fp (au.of (aC a 0)) (jj .ab a 1) (aq a 2)) (λX=>.du [.agg (au.fg (X.1) (.all 0)),.all 1,.int .i64 (X.2.2.1),.int .i64 (X.2.2.2)]) (λX=>[⟨false,23,1,.ints .u32 (X.1).Mem⟩,⟨false,137,4,.av .ba (X.2.1)⟩])
theorem Zc3:bn pG Zfz:=oT (.cons Qsi (.cons Z3m (.cons Qsw (.cons Zd (.cons Qyq (.cons Qua (.cons Z5t (.nil)))))))) Tryz.func52 Tryz.call52 [.row 23 1 (.ints .u32),.row 137 4 (.av .ba)] Z2x 3
def Tv(kind:Int)(l z:List Int):Nat:=160-z.length
def Fs(kind:Int)(l:List Int):Tree au:=
.an (EG kind 3) (.lv (tS kind 3) λ(x0:Int)=>.br (decide (x0<2)) (.an (Xm ((108:UInt8)::(Cp++K4++(Za++K5)++(K6++K7++(K8++K9))++(La++Lb++(Lc++Ld)++(Le++Lf++(Lg++Lh)))))) (.lv (Li (cR (cR (cR (cR Tt K4) (cR Za K5)) (cR (cR K6 K7) (cR K8 K9))) (cR (cR (cR La Lb) (cR Lc Ld)) (cR (cR Le Lf) (cR Lg Lh))))) λ(x1:List Int×tH)=>.lp inferInstance (Tv kind l x1.1+1) ((rE (x0:Int)/\((ao.Nil (ao.ints i64 l)\/rE (1:Nat))/\rE (l:List Int))/\rZ/\True/\True)/\(mE zM True True)/\rE x1.1/\True) x1.1 λ(v0:List Int)=>.br (decide ((v0.length:Int)<(160:Int))) (.cn (decide (4*(v0.length+1)<=140737488355328)) (.nx ((rE (x0:Int)/\((ao.Nil (ao.ints i64 l)\/rE (1:Nat))/\rE (l:List Int))/\rZ/\True/\True)/\(mE zM True True)/\rE ((v0++[0]):List Int)/\True) (Sum.inl (v0++[0])))) (.an (Qm1 l) (.lv (Mr l) λ(x2:List Int)=>.cn (decide (4*(v0.length+x2.length)<=140737488355328)) (.br (decide ((↑(dK (v0++x2)):Int)>(256:Int))) (.cn (bT 1 1&&bJ 0 1&&decide ((0:Int)<=(0:Int)/\(0:Int)<=(256:Int)/\256<=(↑(dK (v0++x2)):Int))) (let E1:=dB (dF 256-dF 0) (dC (dF 0) (v0++x2));.an (VY 8 4 E1) (.lv (lu 8 4 E1) λ(x3:au×Bool)=>.br (x0==1) (.an (V6 x3.1 [] 87) (.lv (I8 x3.1 [] 87) λ(x4:au×List dw×Int×Int)=>.lf (Sum.inr x4.1))) (.lf (Sum.inr x3.1))))) (.an (VY 8 4 (v0++x2)) (.lv (lu 8 4 (v0++x2)) λ(x5:au×Bool)=>.br (x0==1) (.an (V6 x5.1 [] 87) (.lv (I8 x5.1 [] 87) λ(x6:au×List dw×Int×Int)=>.lf (Sum.inr x6.1))) (.lf (Sum.inr x5.1))))))))) (.an (Qm1 l) (.lv (Mr l) λ(x7:List Int)=>.cn (decide (4*(0+x7.length)<=140737488355328)) (.br (decide ((x7.length:Int)>(256:Int))) (.cn (bT 1 1&&bJ 0 1&&decide ((0:Int)<=(0:Int)/\(0:Int)<=(256:Int)/\256<=(x7.length:Int))) (let E2:=dB (dF 256-dF 0) (dC (dF 0) x7);.an (VY 8 4 E2) (.lv (lu 8 4 E2) λ(x8:au×Bool)=>.br (x0==1) (.an (V6 x8.1 [] 87) (.lv (I8 x8.1 [] 87) λ(x9:au×List dw×Int×Int)=>.lf x9.1)) (.lf x8.1)))) (.an (VY 8 4 x7) (.lv (lu 8 4 x7) λ(ki:au×Bool)=>.br (x0==1) (.an (V6 ki.1 [] 87) (.lv (I8 ki.1 [] 87) λ(mI:au×List dw×Int×Int)=>.lf mI.1)) (.lf ki.1)))))))
def FK kind l:=(Fs kind l).m
abbrev Qb kind l:=(Fs kind l).p
def Z2p:bw:={
 α:=(List Int)
 F:=λst a=>([(0,(lk st 0)),(1,(lk st 1)),(4,.ptr 0 0 0),(5,.all 1)],[⟨true,42,49,.gen [mB (cT st 4)]⟩,⟨false,23,1,.ints u32 a⟩])
 a0:=λst=>(o4 st.rows (rN st 5))
 jo:=λst=>[]++[(rX st 4 0),(rX st 5 1)]}
def Qxb:List (Nat×bw):=[(5,Z2p)]
def Z6y:bc:=mT 13 [] true [.one (.int .i64),.one (.ints .i64)] [] (λa r=>Fs (aq a 0) (ei .i64 a 1)) (λX=>.agg (au.fg X (.all 0))) (λX=>[⟨false,23,1,.ints .u32 X.Mem⟩])
theorem Qny:bn pG Z6y:=oT (.cons Sj (.cons Z04 (.cons Zim (.cons Zls (.cons Zc3 (.nil)))))) Tryz.func13 Tryz.call13 [.row 23 1 (.ints .u32)] Qxb 3
end
noncomputable section
def Z4h(m:au)(clock:Int):Tree (au×(List dw)):=
.an (Sq m) (.lv (JA m) λ(x0:au)=>.an (V7 x0) (.lv (nm x0) λ(x1:Bool)=>.br x1 (.lf (x0,[])) (.an (Qfm x0 clock) (.lv (gd x0 clock) λ(x2:List dw×au)=>.lf (x2.2,x2.1)))))
def Yx m clock:=(Z4h m clock).m
def Uo(m:au)(e:gx):Tree (au×Bool):=
.an (Sq m) (.lv (JA m) λ(x0:au)=>.lv (ra x0) λ(x1:Bool)=>.br (!x1) (.lf (x0,false)) (.an (Qrh x0 e) (.lv (ly x0 e) λ(x2:Bool×au)=>.lf (x2.2,x2.1))))
def O8 m e:=(Uo m e).m
def Xs(t:iX):Tree (iX×Bool):=
.br (!t.D7) (.lf (t,false)) (.lf ({D7:=false,C7:=t.C7,D6:=true},true))
def Ty t:=(Xs t).m
def Ziq:bc:=mS 74 [] true [.agg iX.sig] [] (λa r=>Xs (iX.of (aC a 0))) (λX=>.du [.agg (iX.cells (X.1)),.bool (X.2)]) (λX=>[])
theorem Zdn:bn pG Ziq:=oS (.nil) Tryz.func74 Tryz.call74 [] [] 2
def Om(c:iW)(b:Int):Tree (iW×Bool):=
.br (decide ((c.D5.length:Int)>=(16:Int))) (.lf (c,false)) (.cn (decide (c.D5.length+1<=maxLen)) (.lf ({D5:=c.D5++[(λ(n:Int)=>UInt8.ofNat n.toNat) b]},true)))
def Qp9 c b:=(Om c b).m
abbrev Qn c b:=(Om c b).p
def Z73:bc:=mT 75 [] true [.agg iW.sig,.one (.int .u8)] [] (λa r=>Om (iW.of (aC a 0)) (aq a 1)) (λX=>.du [.agg (iW.cells (X.1)),.bool (X.2)]) (λX=>[])
theorem Z26:bn pG Z73:=oT (.nil) Tryz.func75 Tryz.call75 [] [] 2
def Ll(d0:fp)(m:List Int)(e:gx):Tree (fp×(List Int)×Bool):=
let T2:Tree ((fp×(List Int)×Bool)):=.an (mQ m) (.lv (jF m) λ(x0:List Int)=>.lf (d0,x0,false));.br (d0.C0 !=1) T2 (.br (e.C3 !=4) T2 (.br (decide (e.N>1)) T2 (.an (mQ m) (.lv (jF m) λ(x3:List Int)=>let E3:=({ag:=d0.ag,C4:=d0.C4,Frame:=d0.Frame,C0:=2,D8:=0,B9:=0,B5:=0,C1:=[]}:fp);let E4:=({ag:=d0.ag,C4:=d0.C4,Frame:=d0.Frame,C0:=3,D8:=0,B9:=0,B5:=0,C1:=[]}:fp);let T1:Tree ((fp×(List Int)×Bool)):=.br (!decide (e.D2=[])) (.lf (d0,x3,false)) (.br (e.N==1) (.lf (E3,x3,true)) (.lf (E4,x3,true)));.br (e.N==1) (.br (d0.D8==1) (.lv (Q9 m d0.B5) λ(x4:Bool)=>.br (!x4) (.lf (d0,x3,false)) (.an (Q8k m (wrap i64 d0.B5) e.D2) (.lv (Em m (wrap i64 d0.B5) e.D2) λ(x5:List Int×Bool)=>.br (!x5.2) (.lf (d0,x5.1,false)) (.br (e.N==1) (.lf (E3,x5.1,true)) (.lf (E4,x5.1,true)))))) T1) T1))))
def Yg d0 m e:=(Ll d0 m e).m
abbrev Qkc d0 m e:=(Ll d0 m e).p
def Z4d:bc:=mT 76 [] true [.agg fp.sig,.one (.ints .u32),.agg gx.sig] [] (λa r=>Ll (fp.of (aC a 0)) (ei .u32 a 1) (gx.of (aC a 2))) (λX=>.du [.agg (fp.cells (X.1)),.all 0,.bool (X.2.2)]) (λX=>[⟨false,23,1,.ints .u32 (X.2.1)⟩])
theorem Z0k:bn pG Z4d:=oT (.cons EH (.cons Qrb (.cons Qdl (.nil)))) Tryz.func76 Tryz.call76 [.row 23 1 (.ints .u32)] [] 2
def Lm(n:ia)(m:List Int)(frame:List UInt8):Tree (ia×(List Int)×Bool):=
let T1:Tree ((ia×(List Int)×Bool)):=.an (mQ m) (.lv (jF m) λ(x0:List Int)=>.lf (n,x0,false));.br (!n.C8) T1 (.br (decide ((frame.length:Int)<(1:Int))) T1 (.br (decide ((frame.length:Int)>(128:Int))) T1 (.lv (GX m n.C2) λ(x3:Bool)=>.br (!x3) T1 (.an (Qcb m (wrap i64 n.C2)) (.lv (El m (wrap i64 n.C2)) λ(x5:List UInt8×Bool)=>.cn (decide (0<=(frame.length:Int)/\(frame.length:Int)<=(x5.1.length:Int)/\(x5.1.length:Int)<=(x5.1.length:Int))) (let E2:=dF (x5.1.length:Int)-dF (frame.length:Int);let E3:=dC (dF (frame.length:Int)) x5.1;.cn (decide (frame.length+dK (dB E2 E3)<=maxLen)) (.an (Q8k m (wrap i64 n.C2) (frame++dB E2 E3)) (.lv (Em m (wrap i64 n.C2) (frame++dB E2 E3)) λ(x6:List Int×Bool)=>.lf ({Frame:=n.Frame,F1:=n.F1,C8:=false,C2:=0,B8:=true,F4:=wrap u32 (frame.length:Int)},x6.1,true)))))))))
def Yh n m frame:=(Lm n m frame).m
abbrev Qpa n m frame:=(Lm n m frame).p
def Zaq:bc:=mT 77 [] true [.agg ia.sig,.one (.ints .u32),.one (.str)] [] (λa r=>Lm (ia.of (aC a 0)) (ei .u32 a 1) (iq a 2)) (λX=>.du [.agg (ia.cells (X.1)),.all 0,.bool (X.2.2)]) (λX=>[⟨false,23,1,.ints .u32 (X.2.1)⟩])
theorem Z7k:bn pG Zaq:=oT (.cons Qlt (.cons EH (.cons Qjv (.cons Qdl (.nil))))) Tryz.func77 Tryz.call77 [.row 23 1 (.ints .u32)] [] 2
def G7(m:au)(e:gx):Tree (au×Bool):=
.an (mQ m.Mem) (.lv (jF m.Mem) λ(x0:List Int)=>let E2:=({B4:=m.B4,Mem:=x0,A7:=m.A7,B2:=m.B2,B1:=m.B1,C6:=m.C6,A6:=m.A6,A4:=m.A4,A9:=m.A9,B0:=m.B0}:au);.an (R8 E2) (.lv (nj E2) λ(x1:Bool)=>let T1:Tree ((au×Bool)):=.lf (E2,false);.br (!x1) T1 (.br m.B0 T1 (.br (e.C3==2) (.br (e.N==0) (.br (decide (e.D2=[])) (.lv (Ty m.B2) λ(x2:iX×Bool)=>.lf ({B4:=m.B4,Mem:=x0,A7:=m.A7,B2:=x2.1,B1:=m.B1,C6:=m.C6,A6:=m.A6,A4:=m.A4,A9:=m.A9,B0:=m.B0},x2.2)) T1) T1) (.br (e.C3==3) (.br (decide (e.N<=255)) (.br (decide (e.D2=[])) (.an (Qn m.A7 (wrap u8 e.N)) (.lv (Qp9 m.A7 (wrap u8 e.N)) λ(x3:iW×Bool)=>.lf ({B4:=m.B4,Mem:=x0,A7:=x3.1,B2:=m.B2,B1:=m.B1,C6:=m.C6,A6:=m.A6,A4:=m.A4,A9:=m.A9,B0:=m.B0},x3.2))) T1) T1) (.br (e.C3==4) (.an (Qkc m.B1 x0 e) (.lv (Yg m.B1 x0 e) λ(x4:fp×List Int×Bool)=>.lf ({B4:=m.B4,Mem:=x4.2.1,A7:=m.A7,B2:=m.B2,B1:=x4.1,C6:=m.C6,A6:=m.A6,A4:=m.A4,A9:=m.A9,B0:=m.B0},x4.2.2))) (.br (e.C3==5) (.br (e.N==0) (.an (Qpa m.C6 x0 e.D2) (.lv (Yh m.C6 x0 e.D2) λ(x5:ia×List Int×Bool)=>.lf ({B4:=m.B4,Mem:=x5.2.1,A7:=m.A7,B2:=m.B2,B1:=m.B1,C6:=x5.1,A6:=m.A6,A4:=m.A4,A9:=m.A9,B0:=m.B0},x5.2.2))) T1) (.br (e.C3==6) (.br (decide (e.D2=[])) (.lf ({B4:=m.B4,Mem:=x0,A7:=m.A7,B2:=m.B2,B1:=m.B1,C6:=m.C6,A6:={C9:=e.N,C5:=m.A6.C5},A4:=m.A4,A9:=m.A9,B0:=m.B0},true)) T1) T1))))))))
def Mf m e:=(G7 m e).m
abbrev Qdj m e:=(G7 m e).p
def Z3q:bc:=mT 32 [] true [.agg au.sig,.agg gx.sig] [] (λa r=>G7 (au.of (aC a 0)) (gx.of (aC a 1))) (λX=>.du [.agg (au.fg (X.1) (.all 0)),.bool (X.2)]) (λX=>[⟨false,23,1,.ints .u32 (X.1).Mem⟩])
theorem Z11:bn pG Z3q:=oT (.cons EH (.cons Qk5 (.cons Zdn (.cons Z26 (.cons Z0k (.cons Z7k (.nil))))))) Tryz.func32 Tryz.call32 [.row 23 1 (.ints .u32)] [] 2
end
noncomputable section
instance Ss {α β:Type} [Inhabited β]:Inhabited (α⊕β):=⟨.inr default⟩
def V8(b:List Int):(List Int):=
b
def Qbr(b:List Int):List D:=[.ptr 0 0 0]
def Qbz(b:List Int):List Row:=[⟨true,293,2,.gen [[.c9 0,.all 1]]⟩,⟨false,5,1,.ints .u8 b⟩]
def Q7f(X:List Int):D:=.du []
def Q78(X:List Int):List Row:=[⟨true,293,2,.gen [[.c9 0,.all 1]]⟩,⟨false,5,1,.ints .u8 X⟩]
def Qcf:List PT:=[.ptr 0]
def Qbs:List RT:=[.box 293 2 [.self 0,.row 1],.arr 5 1 (.ints .u8)]
def Qls(args:List D)(rows:List Row):(List Int):=V8 (gk .u8 rows 1)
def Qpm:bc:=EN 301 [true] true Qcf Qbs Qls Q7f Q78
theorem Qk7(b:List Int):kj pG 301 (Qbr b) (Qbz b) (Q7f (V8 b)) (Q78 (V8 b)):=by
 exact qI (ρ:=Tryz.jT) {Tryz.rO with} Tryz.jd.toX72 (by kernel_rfl) _
set_option maxRecDepth 100000 in
theorem Ql6(args:List D)(rows:List Row):mr Qcf args 0=Qbr (gk .u8 rows 1):=by kernel_rfl
set_option maxRecDepth 100000 in
theorem Qk2(args:List D)(rows:List Row):lG Qbs rows 0=Qbz (gk .u8 rows 1):=by kernel_rfl
set_option maxRecDepth 100000 in
theorem Qnk(X:List Int):(wm (Q7f X)&&jK (Q78 X))=true:=by kernel_rfl
theorem Qni:bn pG Qpm:=qae Tryz.call301 (λa r=>by rw[Ql6 a r,Qk2 a r];exact Qk7 (gk .u8 r 1)) (λ_ X=>Qnk X)
def Pn(b:List Int)(s:List UInt8):Tree (Int×Unit×(List Int)):=
.lv (V8 b) λ(x0:List Int)=>.cn (decide (1*(x0.length+dK (Q2 s))<=140737488355328)) (.lf ((s.length:Int),(),x0++Q2 s))
def Q8p b s:=(Pn b s).m
abbrev Q6a b s:=(Pn b s).p
def Qll:bc:=mh 1 258 [true,false] [.ptr 0,.one (.str)] [.box 293 2 [.self 0,.row 1],.arr 5 1 (.ints .u8)] (λa r=>Q6a (gk .u8 r 1) (iq a 1)) (λa r=>Q8p (gk .u8 r 1) (iq a 1)) (λX=>.du [.int .i64 (X.1),.jL]) (λX=>[⟨true,293,2,.gen [[.c9 0,.all 1]]⟩,⟨false,5,1,.ints .u8 (X.2.2)⟩])
theorem Qbo:bn pG Qll:=EF drawn mX (.cons Qni (.nil)) Tryz.func258 Tryz.call258 (λa r=>Pn (gk .u8 r 1) (iq a 1)) [.row 5 1 (.ints .u8)] [] 2 (λ_ _ _=>by kernel_rfl) (λ_ _=>rfl) (λ_ _ h=>h)
def Qf9(x:Int)(z:(Int)×(List Int)):Nat:=z.1.toNat
def Pl(x:Int):Tree (List UInt8):=
.lp inferInstance (Qf9 x (x,[])+1) ((rE (x:Int)/\True/\True)/\rE ([]:List Int)/\True) (x,[]) λ(v0:Int×List Int)=>let E1:=decide (1*(v0.2.length+1)<=140737488355328);.br (decide (v0.1>=128)) (.cn E1 (.nx ((rE ((bh u64 v0.1 7):Int)/\True/\True)/\rE ((v0.2++[ir u8 (wrap u8 v0.1) 128]):List Int)/\True) (Sum.inl (bh u64 v0.1 7,v0.2++[ir u8 (wrap u8 v0.1) 128])))) (.cn E1 (.lf (Sum.inr (bytesOf (v0.2++[wrap u8 v0.1])))))
def Qpt x:=(Pl x).m
abbrev Qht x:=(Pl x).p
def Qtm:bw:={
 α:=(Int)×(List Int)
 F:=λst a=>([(0,.int u64 a.1),(3,.all 0)],[⟨false,5,1,.ints u8 a.2⟩])
 a0:=λst=>((lk st 0).toInt,(o4 st.rows (rN st 3)))
 jo:=λst=>[]++[(rX st 3 0)]}
def Qr9:List (Nat×bw):=[(2,Qtm)]
def Qwi:bc:=mT 286 [] true [.one (.int .u64)] [] (λa r=>Pl (aq a 0)) (λX=>.str X) (λX=>[])
theorem Qvz:bn pG Qwi:=oT (.nil) Tryz.func286 Tryz.call286 [] Qr9 3
def Q92(c list:List Int)(z:(Int)×(List Int)):Nat:=(list.length-z.1).toNat
def Po(c list:List Int):Tree (List Int):=
.lp inferInstance (Q92 c list (0,c)+1) ((rZ/\((ao.Nil (ao.ints u64 list)\/rE (1:Nat))/\rE (list:List Int))/\rE ((list.length:Int):Int)/\rE (0:Int)/\True)/\(True/\True/\True)/\rE (c:List Int)/\True) (0,c) λ(v0:Int×List Int)=>.br (decide (v0.1<(list.length:Int))) (.cn (bT 1 1&&bJ 0 1&&decide (0<=v0.1/\v0.1<(list.length:Int))) (.an (Qht (list.getD v0.1.toNat 0)) (.lv (Qpt (list.getD v0.1.toNat 0)) λ(x0:List UInt8)=>.an (Q6a v0.2 x0) (.lv (Q8p v0.2 x0) λ(x1:Int×Unit×List Int)=>.nx ((rZ/\((ao.Nil (ao.ints u64 list)\/rE (1:Nat))/\rE (list:List Int))/\rE ((list.length:Int):Int)/\rE ((wrap i64 (v0.1+1)):Int)/\True)/\(True/\True/\True)/\rE x1.2.2/\True) (Sum.inl (wrap i64 (v0.1+1),x1.2.2)))))) (.lf (Sum.inr v0.2))
def Ip c list:=(Po c list).m
abbrev Iq c list:=(Po c list).p
def Ql0:bw:={
 α:=(Int)×(List Int)
 F:=λst a=>([(0,.ptr 0 0 0),(6,(lk st 6)),(7,(lk st 7)),(8,.int i64 a.1)],[⟨true,293,2,.gen [[.c9 0,.all 1]]⟩,⟨false,5,1,.ints u8 a.2⟩])
 a0:=λst=>((lk st 8).toInt,(o4 st.rows (kU (iT st.rows 0 1) 1000000)))
 jo:=λst=>[0]++[(kU (iT st.rows 0 1) (st.rows.length+1))]}
def Qj3:List (Nat×bw):=[(1,Ql0)]
def Qm5:bc:=mh 1 227 [true,false] [.ptr 0,.one (.ints .u64)] [.box 293 2 [.self 0,.row 1],.arr 5 1 (.ints .u8)] (λa r=>Iq (gk .u8 r 1) (ei .u64 a 1)) (λa r=>Ip (gk .u8 r 1) (ei .u64 a 1)) (λX=>.du []) (λX=>[⟨true,293,2,.gen [[.c9 0,.all 1]]⟩,⟨false,5,1,.ints .u8 X⟩])
theorem V9:bn pG Qm5:=EF drawn mX (.cons Qbo (.cons Qvz (.nil))) Tryz.func227 Tryz.call227 (λa r=>Po (gk .u8 r 1) (ei .u64 a 1)) [.row 5 1 (.ints .u8)] Qj3 3 (λ_ _ _=>by kernel_rfl) (λ_ _=>rfl) (λ_ _ h=>h)
def Qac(c list:List Int)(z:(Int)×(List Int)):Nat:=(list.length-z.1).toNat
def Pp(c list:List Int):Tree (List Int):=
.lp inferInstance (Qac c list (0,c)+1) ((rZ/\((ao.Nil (ao.ints u32 list)\/rE (1:Nat))/\rE (list:List Int))/\rE ((list.length:Int):Int)/\rE (0:Int)/\True)/\(True/\True/\True)/\rE (c:List Int)/\True) (0,c) λ(v0:Int×List Int)=>.br (decide (v0.1<(list.length:Int))) (.cn (bT 1 1&&bJ 0 1&&decide (0<=v0.1/\v0.1<(list.length:Int))) (.an (Iq v0.2 [wrap u64 (list.getD v0.1.toNat 0)]) (.lv (Ip v0.2 [wrap u64 (list.getD v0.1.toNat 0)]) λ(x0:List Int)=>.nx ((rZ/\((ao.Nil (ao.ints u32 list)\/rE (1:Nat))/\rE (list:List Int))/\rE ((list.length:Int):Int)/\rE ((wrap i64 (v0.1+1)):Int)/\True)/\(True/\True/\True)/\rE (x0:List Int)/\True) (Sum.inl (wrap i64 (v0.1+1),x0))))) (.lf (Sum.inr v0.2))
def BK c list:=(Pp c list).m
abbrev BL c list:=(Pp c list).p
def Qnf:bw:={
 α:=(Int)×(List Int)
 F:=λst a=>([(0,.ptr 0 0 0),(6,(lk st 6)),(7,(lk st 7)),(8,.int i64 a.1)],[⟨true,293,2,.gen [[.c9 0,.all 1]]⟩,⟨false,5,1,.ints u8 a.2⟩])
 a0:=λst=>((lk st 8).toInt,(o4 st.rows (kU (iT st.rows 0 1) 1000000)))
 jo:=λst=>[0]++[(kU (iT st.rows 0 1) (st.rows.length+1))]}
def Qkr:List (Nat×bw):=[(1,Qnf)]
def Qo6:bc:=mh 1 226 [true,false] [.ptr 0,.one (.ints .u32)] [.box 293 2 [.self 0,.row 1],.arr 5 1 (.ints .u8)] (λa r=>BL (gk .u8 r 1) (ei .u32 a 1)) (λa r=>BK (gk .u8 r 1) (ei .u32 a 1)) (λX=>.du []) (λX=>[⟨true,293,2,.gen [[.c9 0,.all 1]]⟩,⟨false,5,1,.ints .u8 X⟩])
theorem Qnh:bn pG Qo6:=EF drawn mX (.cons V9 (.nil)) Tryz.func226 Tryz.call226 (λa r=>Pp (gk .u8 r 1) (ei .u32 a 1)) [.row 5 1 (.ints .u8)] Qkr 3 (λ_ _ _=>by kernel_rfl) (λ_ _=>rfl) (λ_ _ h=>h)
def Pr(c:List Int)(s:List UInt8):Tree (List Int):=
.an (Iq c [wrap u64 (s.length:Int)]) (.lv (Ip c [wrap u64 (s.length:Int)]) λ(x0:List Int)=>.an (Q6a x0 s) (.lv (Q8p x0 s) λ(x1:Int×Unit×List Int)=>.lf x1.2.2))
def Qbh c s:=(Pr c s).m
abbrev Q77 c s:=(Pr c s).p
def Qp:bc:=mh 1 228 [true,false] [.ptr 0,.one (.str)] [.box 293 2 [.self 0,.row 1],.arr 5 1 (.ints .u8)] (λa r=>Q77 (gk .u8 r 1) (iq a 1)) (λa r=>Qbh (gk .u8 r 1) (iq a 1)) (λX=>.du []) (λX=>[⟨true,293,2,.gen [[.c9 0,.all 1]]⟩,⟨false,5,1,.ints .u8 X⟩])
theorem Qnp:bn pG Qp:=EF drawn mX (.cons V9 (.cons Qbo (.nil))) Tryz.func228 Tryz.call228 (λa r=>Pr (gk .u8 r 1) (iq a 1)) [.row 5 1 (.ints .u8)] [] 2 (λ_ _ _=>by kernel_rfl) (λ_ _=>rfl) (λ_ _ h=>h)
def Pq(c:List Int)(DO:Bool):Tree (List Int):=
.br DO (.an (Iq c [1]) (.lv (Ip c [1]) λ(x0:List Int)=>.lf x0)) (.an (Iq c [0]) (.lv (Ip c [0]) λ(x1:List Int)=>.lf x1))
def KB c DO:=(Pq c DO).m
abbrev KC c DO:=(Pq c DO).p
def Qqx:bc:=mh 1 229 [true,false] [.ptr 0,.one (.bool)] [.box 293 2 [.self 0,.row 1],.arr 5 1 (.ints .u8)] (λa r=>KC (gk .u8 r 1) (wa a 1)) (λa r=>KB (gk .u8 r 1) (wa a 1)) (λX=>.du []) (λX=>[⟨true,293,2,.gen [[.c9 0,.all 1]]⟩,⟨false,5,1,.ints .u8 X⟩])
theorem Qnr:bn pG Qqx:=EF drawn mX (.cons V9 (.nil)) Tryz.func229 Tryz.call229 (λa r=>Pq (gk .u8 r 1) (wa a 1)) [.row 5 1 (.ints .u8)] [] 2 (λ_ _ _=>by kernel_rfl) (λ_ _=>rfl) (λ_ _ h=>h)
def Wa(b:List Int):((List UInt8)×(List Int)):=
(bytesOf b,b)
def Qf(b:List Int):List D:=[.ptr 0 0 0]
def Qex(b:List Int):List Row:=[⟨true,293,2,.gen [[.c9 0,.all 1]]⟩,⟨false,5,1,.ints .u8 b⟩]
def Qg0(X:((List UInt8)×(List Int))):D:=.str (X.1)
def Qfy(X:((List UInt8)×(List Int))):List Row:=[⟨true,293,2,.gen [[.c9 0,.sl 1 (.ints .u8 X.2) false]]⟩]
def Qg:List PT:=[.ptr 0]
def Qf1:List RT:=[.box 293 2 [.self 0,.row 1],.arr 5 1 (.ints .u8)]
def Qr4(args:List D)(rows:List Row):((List UInt8)×(List Int)):=Wa (gk .u8 rows 1)
def Quw:bc:=VM 1 230 [true] Qg Qf1 Qr4 Qg0 Qfy
theorem Qne(b:List Int):sR pG 230 1 (Qf b) (Qex b) (Qg0 (Wa b)) (Qfy (Wa b)):=by
 exact xf (ρ:=Tryz.jT) (by decide) {Tryz.rO with} Tryz.jd _
set_option maxRecDepth 100000 in
theorem Qo5(args:List D)(rows:List Row):mr Qg args 0=Qf (gk .u8 rows 1):=by kernel_rfl
set_option maxRecDepth 100000 in
theorem Qnq(args:List D)(rows:List Row):lG Qf1 rows 0=Qex (gk .u8 rows 1):=by kernel_rfl
theorem Qt3:bn pG Quw:=zaS (λ_=>Tryz.call230) (λa r=>by rw[Qo5 a r,Qnq a r];exact Qne (gk .u8 r 1))
def Pv(m:au):Tree (List UInt8):=
.an (BL [] [m.B4.X.a0,m.B4.X.a1,m.B4.X.a2,m.B4.X.a3,m.B4.X.a4,m.B4.X.a5,m.B4.X.a6,m.B4.X.a7,m.B4.X.a8,m.B4.X.a9,m.B4.X.kz,m.B4.X.kA,m.B4.X.a12,m.B4.X.kB,m.B4.X.kC,m.B4.X.kD]) (.lv (BK [] [m.B4.X.a0,m.B4.X.a1,m.B4.X.a2,m.B4.X.a3,m.B4.X.a4,m.B4.X.a5,m.B4.X.a6,m.B4.X.a7,m.B4.X.a8,m.B4.X.a9,m.B4.X.kz,m.B4.X.kA,m.B4.X.a12,m.B4.X.kB,m.B4.X.kC,m.B4.X.kD]) λ(x0:List Int)=>.an (BL x0 [m.B4.Pc]) (.lv (BK x0 [m.B4.Pc]) λ(x1:List Int)=>.an (BL x1 [m.B4.B7.a0,m.B4.B7.a1,m.B4.B7.a2,m.B4.B7.a3,m.B4.B7.a4,m.B4.B7.a5,m.B4.B7.a6,m.B4.B7.a7]) (.lv (BK x1 [m.B4.B7.a0,m.B4.B7.a1,m.B4.B7.a2,m.B4.B7.a3,m.B4.B7.a4,m.B4.B7.a5,m.B4.B7.a6,m.B4.B7.a7]) λ(x2:List Int)=>.an (Iq x2 [wrap u64 (m.Mem.length:Int)]) (.lv (Ip x2 [wrap u64 (m.Mem.length:Int)]) λ(x3:List Int)=>.an (BL x3 m.Mem) (.lv (BK x3 m.Mem) λ(x4:List Int)=>.an (Q77 x4 m.A7.D5) (.lv (Qbh x4 m.A7.D5) λ(x5:List Int)=>.an (KC x5 m.B2.D7) (.lv (KB x5 m.B2.D7) λ(x6:List Int)=>.an (BL x6 [m.B2.C7]) (.lv (BK x6 [m.B2.C7]) λ(x7:List Int)=>.an (KC x7 m.B2.D6) (.lv (KB x7 m.B2.D6) λ(x8:List Int)=>.an (BL x8 [m.B1.ag,m.B1.C4,m.B1.Frame]) (.lv (BK x8 [m.B1.ag,m.B1.C4,m.B1.Frame]) λ(x9:List Int)=>.an (Iq x9 [wrap u64 m.B1.C0,wrap u64 m.B1.D8]) (.lv (Ip x9 [wrap u64 m.B1.C0,wrap u64 m.B1.D8]) λ(ki:List Int)=>.an (BL ki [m.B1.B9,m.B1.B5]) (.lv (BK ki [m.B1.B9,m.B1.B5]) λ(mI:List Int)=>.an (Q77 mI m.B1.C1) (.lv (Qbh mI m.B1.C1) λ(lO:List Int)=>.an (BL lO [m.C6.Frame,m.C6.F1]) (.lv (BK lO [m.C6.Frame,m.C6.F1]) λ(me:List Int)=>.an (KC me m.C6.C8) (.lv (KB me m.C6.C8) λ(uM:List Int)=>.an (BL uM [m.C6.C2]) (.lv (BK uM [m.C6.C2]) λ(JH:List Int)=>.an (KC JH m.C6.B8) (.lv (KB JH m.C6.B8) λ(uO:List Int)=>.an (BL uO [m.C6.F4]) (.lv (BK uO [m.C6.F4]) λ(Hv:List Int)=>.an (BL Hv [m.A6.C9,m.A6.C5]) (.lv (BK Hv [m.A6.C9,m.A6.C5]) λ(Hw:List Int)=>.an (Iq Hw [m.A4]) (.lv (Ip Hw [m.A4]) λ(Uu:List Int)=>.an (KC Uu m.A9) (.lv (KB Uu m.A9) λ(Uv:List Int)=>.an (KC Uv m.B0) (.lv (KB Uv m.B0) λ(FN:List Int)=>.lv (Wa FN) λ(FO:List UInt8×List Int)=>.lf FO.1))))))))))))))))))))))
def Y1 m:=(Pv m).m
abbrev Qj8 m:=(Pv m).p
def Z05:bc:=mT 150 [] true [.agg au.sig] [] (λa r=>Pv (au.of (aC a 0))) (λX=>.str X) (λX=>[])
theorem Qx7:bn pG Z05:=oT (.cons Qnh (.cons V9 (.cons Qnp (.cons Qnr (.cons Qt3 (.nil)))))) Tryz.func150 Tryz.call150 [] [] 2
def Qre(h0:Int)(s:List UInt8)(z:(Int)×(Int)):Prop:=0<=z.2/\z.2<=s.length
def Qhm(h0:Int)(s:List UInt8)(z:(Int)×(Int)):Nat:=(s.length-z.2).toNat
def Wb(h0:Int)(s:List UInt8):Tree Int:=
.lp inferInstance (Qhm h0 s (h0,0)+1) ((rE (h0:Int)/\rE (s:List UInt8)/\rE ((s.length:Int):Int)/\rE (0:Int)/\True)/\True) (h0,0) λ(v0:Int×Int)=>.br (decide (v0.2<(s.length:Int))) (.cn (decide (0<=v0.2/\v0.2<(s.length:Int))) (.nx ((rE ((wrap u64 (nu u64 v0.1 (wrap u64 (↑(eW (s.getD v0.2.toNat (0:UInt8))):Int))*1099511628211)):Int)/\rE (s:List UInt8)/\rE ((s.length:Int):Int)/\rE ((wrap i64 (v0.2+1)):Int)/\True)/\True) (Sum.inl (wrap u64 (nu u64 v0.1 (wrap u64 (↑(eW (s.getD v0.2.toNat (0:UInt8))):Int))*1099511628211),wrap i64 (v0.2+1))))) (.lf (Sum.inr v0.1))
def Px h0 s:=(Wb h0 s).m
def Wc(h0:Int)(s:List UInt8):Prop:=
s.length<=1000000000000
theorem Zdc(h0:Int)(s:List UInt8)(hw:Wc h0 s):(Wb h0 s).p:=by
 simp only[Wc]at hw
 unfold Tree.p Wb
 repeat'(first|refine fy (inv:=Qre h0 s) (μ:=Qhm h0 s) ?_ (cO _) (λ_ _=>?_)|exact trivial|refine aa (λ_=>?_) (λ_=>?_)|refine ay ?_ ?_|refine cz ?_ ?_|refine ar (λ_ _=>?_)|refine ff ?_|refine fe ?_|refine And.intro ?_ ?_)
 all_goals((try simp only[Qre,Qhm]at*);exact oR)
def Zgl:bw:={
 α:=(Int)×(Int)
 F:=λst a=>([(0,.int u64 a.1),(1,(lk st 1)),(7,(lk st 7)),(8,.int i64 a.2)],[])
 a0:=λst=>((lk st 0).toInt,(lk st 8).toInt)
 jo:=λst=>[]++[]}
def Z7x:List (Nat×bw):=[(2,Zgl)]
def Zix:bc:=mW 149 [] true [.one (.int .u64),.one (.str)] [] (λa r=>Wc (aq a 0) (iq a 1)) (λa r=>Px (aq a 0) (iq a 1)) (λX=>.int .u64 X) (λX=>[])
theorem Zem:bn pG Zix:=wo drawn mX (.nil) Tryz.func149 Tryz.call149 (λa r=>Wb (aq a 0) (iq a 1)) [] Z7x 3 (hp:=λa r h=>Zdc (aq a 0) (iq a 1) h)
def Pz(m:au):Tree Int:=
.an (Qj8 m) (.lv (Y1 m) λ(x0:List UInt8)=>.an (Wc 14695981039346656037 x0) (.lv (Px 14695981039346656037 x0) λ(x1:Int)=>.lf x1))
def Uy m:=(Pz m).m
abbrev Ux m:=(Pz m).p
def Z6x:bc:=mT 93 [] true [.agg au.sig] [] (λa r=>Pz (au.of (aC a 0))) (λX=>.int .u64 X) (λX=>[])
theorem Qoe:bn pG Z6x:=oT (.cons Zem (.cons Qx7 (.nil))) Tryz.func93 Tryz.call93 [] [] 2
end
noncomputable section
instance Su {α β:Type} [Inhabited β]:Inhabited (α⊕β):=⟨.inr default⟩
def Qoa(h0:Int)(s:List UInt8)(z:(Int)×(Int)):Nat:=(s.length-z.2).toNat
def Y0(h0:Int)(s:List UInt8):Tree Int:=
.lp inferInstance (Qoa h0 s (h0,0)+1) ((rE (h0:Int)/\rE (s:List UInt8)/\rE (0:Int)/\True)/\True) (h0,0) λ(v0:Int×Int)=>.br (decide (v0.2<(s.length:Int))) (.cn (decide (0<=v0.2/\v0.2<(s.length:Int))) (.nx ((rE ((wrap u64 (nu u64 v0.1 (wrap u64 (↑(eW (s.getD v0.2.toNat (0:UInt8))):Int))*1099511628211)):Int)/\rE (s:List UInt8)/\rE ((wrap i64 (v0.2+1)):Int)/\True)/\True) (Sum.inl (wrap u64 (nu u64 v0.1 (wrap u64 (↑(eW (s.getD v0.2.toNat (0:UInt8))):Int))*1099511628211),wrap i64 (v0.2+1))))) (.lf (Sum.inr v0.1))
def Py h0 s:=(Y0 h0 s).m
end
noncomputable section
instance Sv {α β:Type} [Inhabited β]:Inhabited (α⊕β):=⟨.inr default⟩
def Ql3(script:List ej)(z:(Int)):Prop:=1<=z/\(z<=script.length\/z=1)
def Mv(script:List ej)(z:(Int)):Nat:=(script.length-z).toNat
def Mu(script:List ej):Tree Bool:=
.lp inferInstance (Mv script 1+1) ((nR RK.ab 4 script/\rE (1:Int)/\True)/\True) 1 λ(v0:Int)=>.br (decide (v0<(script.length:Int))) (.cn (bT 4 4&&bJ 0 4&&decide (0<=wrap i64 (v0-1)/\wrap i64 (v0-1)<(script.length:Int))) (.cn (bT 4 4&&bJ 0 4&&decide (0<=v0/\v0<(script.length:Int))) (let E2:=script.getD (dF (wrap i64 (v0-1))) (RK.cu RK.ab);let E3:=script.getD v0.toNat (RK.cu RK.ab);.br (decide (E3.At<E2.At)) (.lf (Sum.inr false)) (let T1:Tree ((Int)⊕(Bool)):=.nx ((nR RK.ab 4 script/\rE ((wrap i64 (v0+1)):Int)/\True)/\True) (Sum.inl (wrap i64 (v0+1)));.br (E3.At==E2.At) (.br (E2.D1.C3==1) (.lf (Sum.inr false)) T1) T1)))) (.lf (Sum.inr true))
def Qz4 script:=(Mu script).m
def Wd(script:List ej):Prop:=
script.length<=1000000000000
theorem Z06(script:List ej)(hw:Wd script):(Mu script).p:=by
 simp only[Wd]at hw
 unfold Tree.p Mu
 repeat'(first|refine fy (inv:=Ql3 script) (μ:=Mv script) ?_ (cO _) (λ_ _=>?_)|exact trivial|refine aa (λ_=>?_) (λ_=>?_)|refine ay ?_ ?_|refine cz ?_ ?_|refine ar (λ_ _=>?_)|refine ff ?_|refine fe ?_|refine And.intro ?_ ?_)
 all_goals((try simp only[Ql3,Mv]at*);exact oR)
def Z6:bw:={
 α:=(Int)
 F:=λst a=>([(0,(lk st 0)),(3,.int i64 a)],[])
 a0:=λst=>(lk st 3).toInt
 jo:=λst=>[]++[]}
def Qwj:List (Nat×bw):=[(2,Z6)]
def Z6b:bc:=mW 268 [] true [.one (.av .ab)] [] (λa r=>Wd (jj .ab a 0)) (λa r=>Qz4 (jj .ab a 0)) (λX=>.bool X) (λX=>[])
theorem Z5v:bn pG Z6b:=wo drawn mX (.nil) Tryz.func268 Tryz.call268 (λa r=>Mu (jj .ab a 0)) [] Qwj 3 (hp:=λa r h=>Z06 (jj .ab a 0) h)
def Qmv(m:au)(script:List ej)(dh:Int)(z:(Int)):Nat:=(script.length-z).toNat
def PE(m:au)(script:List ej)(dh:Int):Tree Int:=
.an (R8 m) (.lv (nj m) λ(x0:Bool)=>.br (!x0) (.lf 1300) (.br (decide (dh<m.A4)) (.lf 1300) (.br (decide (wrap u64 (dh-m.A4)>4000)) (.lf 1300) (.br (decide ((script.length:Int)>(400:Int))) (.lf 1300) (.an (Wd script) (.lv (Qz4 script) λ(x1:Bool)=>.br (!x1) (.lf 1301) (.lp inferInstance (Qmv m script dh 0+1) ((rZ/\nR RK.ab 4 script/\rE ((script.length:Int):Int)/\rE (0:Int)/\True)/\(mE m (((ao.Nil (ao.ints u32 m.Mem)\/rE (1:Nat))/\rE m.Mem)) True)/\True) 0 λ(v0:Int)=>.br (decide (v0<(script.length:Int))) (.cn (bT 4 4&&bJ 0 4&&decide (0<=v0/\v0<(script.length:Int))) (.br (decide ((script.getD v0.toNat (RK.cu RK.ab)).At<m.A4)) (.lf (Sum.inr 1301)) (.nx ((rZ/\nR RK.ab 4 script/\rE ((script.length:Int):Int)/\rE ((wrap i64 (v0+1)):Int)/\True)/\(mE m (((ao.Nil (ao.ints u32 m.Mem)\/rE (1:Nat))/\rE m.Mem)) True)/\True) (Sum.inl (wrap i64 (v0+1)))))) (.lf (Sum.inr 0)))))))))
def Z9v m script dh:=(PE m script dh).m
abbrev Qs7 m script dh:=(PE m script dh).p
def Zc4:bw:={
 α:=(Int)
 F:=λst a=>([(3,.ptr 0 0 0),(33,(lk st 33)),(34,(lk st 34)),(35,.int i64 a)],[⟨true,42,49,.gen [mB (cT st 3)]⟩])
 a0:=λst=>(lk st 35).toInt
 jo:=λst=>[]++[(rX st 3 0)]}
def Z3w:List (Nat×bw):=[(6,Zc4)]
def Zg5:bc:=mT 202 [] true [.agg au.sig,.one (.av .ab),.one (.int .u64)] [] (λa r=>PE (au.of (aC a 0)) (jj .ab a 1) (aq a 2)) (λX=>.int .i64 X) (λX=>[])
theorem Zbw:bn pG Zg5:=oT (.cons Qk5 (.cons Z5v (.nil))) Tryz.func202 Tryz.call202 [] Z3w 3
def Qry(m:au)(script:List ej)(dh:Int)(z:(Int)×au×(List dw)):Nat:=(dh-z.2.1.A4).toNat
def Qrn(m:au)(script:List ej)(dh:Int)(v0:Int×au×List dw)(z:(Int)×au):Nat:=(script.length-z.1).toNat
def PF(m:au)(script:List ej)(dh:Int):Tree (au×(List dw)×Int×Int):=
.an (Qs7 m script dh) (.lv (Z9v m script dh) λ(x0:Int)=>let E4:=({B4:={X:={a0:=0,a1:=0,a2:=0,a3:=0,a4:=0,a5:=0,a6:=0,a7:=0,a8:=0,a9:=0,kz:=0,kA:=0,a12:=0,kB:=0,kC:=0,kD:=0},Pc:=0,B7:={a0:=0,a1:=0,a2:=0,a3:=0,a4:=0,a5:=0,a6:=0,a7:=0}},Mem:=[],A7:={D5:=[]},B2:={D7:=false,C7:=0,D6:=false},B1:={ag:=0,C4:=0,Frame:=0,C0:=0,D8:=0,B9:=0,B5:=0,C1:=[]},C6:={Frame:=0,F1:=0,C8:=false,C2:=0,B8:=false,F4:=0},A6:={C9:=0,C5:=0},A4:=0,A9:=false,B0:=false}:au);.br (x0 !=0) (.lf (E4,[],0,x0)) (.an (mQ m.Mem) (.lv (jF m.Mem) λ(x1:List Int)=>let E7:=({B4:=m.B4,Mem:=x1,A7:=m.A7,B2:=m.B2,B1:=m.B1,C6:=m.C6,A6:=m.A6,A4:=m.A4,A9:=m.A9,B0:=m.B0}:au);.lp inferInstance (Qry m script dh (0,E7,[])+1) ((nR RK.ab 4 script/\rE (dh:Int)/\rZ/\rZ/\True/\rE (0:Int)/\rE (0:Int)/\True)/\(mE m (rE (x1:List Int)) True)/\(mE zM True True)/\rE ([]:List (RK.T RK.ba))/\True) (0,E7,[]) λ(v0:Int×au×List dw)=>.br (decide (v0.2.1.A4<dh)) (.br (decide (v0.2.1.A4<1152921504606846976)) (.lp inferInstance (Qrn m script dh v0 (v0.1,v0.2.1)+1) ((nR RK.ab 4 script/\rE (dh:Int)/\rZ/\rZ/\True/\rE (0:Int)/\rE v0.1/\(rE (0:Nat)/\rE (46:Nat))/\rE v0.2.1.A4/\rE ((decide (v0.2.1.A4<1152921504606846976)):Bool)/\True)/\(mE v0.2.1 (((ao.Nil (ao.ints u32 v0.2.1.Mem)\/oQ Nat 1 1)/\rE v0.2.1.Mem)) True)/\(mE zM True True)/\rE v0.2.2/\True) (v0.1,v0.2.1) λ(v1:Int×au)=>let E5:=bT 4 4&&bJ 0 4&&decide (0<=v1.1/\v1.1<(script.length:Int));let E6:=script.getD v1.1.toNat (RK.cu RK.ab);let E8:=decide (v1.1<(script.length:Int));let T1:Tree ((Int×au)⊕((Int×au×List dw)⊕((au×(List dw)×Int×Int)))):=.br v1.2.B0 (.lf (Sum.inr (Sum.inr (v1.2,v0.2.2,v1.1,0)))) (.an (YO v1.2) (.lv (LC v1.2) λ(x3:Bool)=>.br x3 (.br E8 (.lf (Sum.inr (Sum.inr (E4,[],0,1303)))) (.lf (Sum.inr (Sum.inr (v1.2,v0.2.2,v1.1,0))))) (let T2:Tree ((Int×au)⊕((Int×au×List dw)⊕((au×(List dw)×Int×Int)))):=.an (O9 v1.2 0) (.lv (AT v1.2 0) λ(x6:au×List dw)=>.cn (decide (40*(v0.2.2.length+x6.2.length)<=140737488355328)) (.nx ((nR RK.ab 4 script/\rE (dh:Int)/\rZ/\rZ/\True/\rE (0:Int)/\rE v1.1/\True)/\(mE x6.1 (((ao.Nil (ao.ints u32 x6.1.Mem)\/rE (1:Nat))/\rE x6.1.Mem)) True)/\(mE zM True True)/\rE ((v0.2.2++x6.2):List (RK.T RK.ba))/\True) (Sum.inr (Sum.inl (v1.1,x6.1,v0.2.2++x6.2)))));let T3:Tree ((Int×au)⊕((Int×au×List dw)⊕((au×(List dw)×Int×Int)))):=.lf (Sum.inr (Sum.inr (E4,[],0,1302)));.br E8 (.cn E5 (.an (Q8d v1.2) (.lv (Pf v1.2) λ(x4:Bool)=>.br (!x4==(E6.At==v1.2.A4)) T3 (.br (E6.At==v1.2.A4) (.cn E5 (.an (O9 v1.2 E6.D1.N) (.lv (AT v1.2 E6.D1.N) λ(x5:au×List dw)=>.cn (decide (40*(v0.2.2.length+x5.2.length)<=140737488355328)) (.nx ((nR RK.ab 4 script/\rE (dh:Int)/\rZ/\rZ/\True/\rE (0:Int)/\rE ((wrap i64 (v1.1+1)):Int)/\True)/\(mE x5.1 (((ao.Nil (ao.ints u32 x5.1.Mem)\/rE (1:Nat))/\rE x5.1.Mem)) True)/\(mE zM True True)/\rE ((v0.2.2++x5.2):List (RK.T RK.ba))/\True) (Sum.inr (Sum.inl (wrap i64 (v1.1+1),x5.1,v0.2.2++x5.2))))))) T2)))) (.an (Q8d v1.2) (.lv (Pf v1.2) λ(x7:Bool)=>.br (!x7==false) T3 T2)))));.br E8 (.cn E5 (.br (E6.At==v1.2.A4) (.cn E5 (.br (E6.D1.C3 !=1) (.cn E5 (.an (Qdj v1.2 E6.D1) (.lv (Mf v1.2 E6.D1) λ(x2:au×Bool)=>.nx ((nR RK.ab 4 script/\rE (dh:Int)/\rZ/\rZ/\True/\rE (0:Int)/\rE ((wrap i64 (v1.1+1)):Int)/\(rE (0:Nat)/\rE (46:Nat))/\rE v0.2.1.A4/\rE ((decide (v0.2.1.A4<1152921504606846976)):Bool)/\True)/\(mE x2.1 (rE x2.1.Mem) True)/\(mE zM True True)/\rE v0.2.2/\True) (Sum.inl (wrap i64 (v1.1+1),x2.1))))) T1)) T1)) T1) (.lf (Sum.inr (v0.2.1,v0.2.2,v0.1,0)))) (.lf (Sum.inr (v0.2.1,v0.2.2,v0.1,0))))))
def We m script dh:=(PF m script dh).m
abbrev PV m script dh:=(PF m script dh).p
def Zk2:bw:={
 α:=(Int)×au×(List dw)
 F:=λst a=>([(1,(lk st 1)),(2,(lk st 2)),(3,.ptr 0 0 0),(6,.ptr 1 0 0),(11,.all 2),(12,(lk st 12)),(13,.int i64 a.1)],[⟨true,42,49,.gen [mD a.2.1 (.sl 1 (.ints u32 a.2.1.Mem) false)]⟩,⟨true,42,49,.gen [mB (cT st 6)]⟩,⟨false,137,4,.av RK.ba a.2.2⟩])
 a0:=λst=>((lk st 13).toInt,(mR (cT st 3) (NL u32 st.rows (cT st 3 25))),(sM RK.ba st.rows (rN st 11)))
 jo:=λst=>[]++[(rX st 3 0),(rX st 6 1),(rX st 11 2)]}
def Zky:bw:={
 α:=(Int)×au
 F:=λst a=>([(1,(lk st 1)),(2,(lk st 2)),(3,.ptr 0 0 0),(6,.ptr 1 0 0),(11,.all 2),(12,(lk st 12)),(13,.int i64 a.1),(34,.ptr 0 0 46),(35,(lk st 35)),(36,(lk st 36))],[⟨true,42,49,.gen [mD a.2 (.sl 1 (.ints u32 a.2.Mem) false)]⟩,⟨true,42,49,.gen [mB (cT st 6)]⟩,⟨false,137,4,ng st.rows (rN st 11)⟩])
 a0:=λst=>((lk st 13).toInt,(mR (cT st 3) (NL u32 st.rows (cT st 3 25))))
 jo:=λst=>[]++[(rX st 3 0),(rX st 6 1),(rX st 11 2)]}
def Zdw:List (Nat×bw):=[(8,Zk2),(9,Zky)]
def Zq:bc:=bc.fz<|mW 138 [] false [.agg au.sig,.one (.av .ab),.one (.int .u64)] [] (λa r=>PV (au.of (aC a 0)) (jj .ab a 1) (aq a 2)) (λa r=>We (au.of (aC a 0)) (jj .ab a 1) (aq a 2)) (λX=>.du [.agg (au.cells (X.1)),.all 0,.int .i64 (X.2.2.1),.int .i64 (X.2.2.2)]) (λX=>[⟨false,137,4,.av .ba (X.2.1)⟩])
theorem Qsc:bn pG Zq:=M3<|wo drawn mX (.cons Zbw (.cons EH (.cons Z11 (.cons Qnx (.cons Qoo (.cons Z5i (.nil))))))) Tryz.func138 Tryz.call138 (λa r=>PF (au.of (aC a 0)) (jj .ab a 1) (aq a 2)) [.sl (.ints .u32) false,.row 137 4 (.av .ba)] Zdw 3 (λ_ _ _=>by kernel_rfl) (λ_ _=>rfl) (λ_ _ h=>h) (λh=>by cases h)
end
noncomputable section
def Qko(m:au)(script:List ej)(dj:List Int)(z:(Int)×(Int)):Nat:=(dj.length-z.2).toNat
def PN(m:au)(script:List ej)(dj:List Int):Tree Int:=
.br (decide ((dj.length:Int)>(400:Int))) (.lf 4300) (.lp inferInstance (Qko m script dj (m.A4,0)+1) ((nR RK.ab 4 script/\rZ/\rE m.A4/\((ao.Nil (ao.ints u64 dj)\/rE (1:Nat))/\rE (dj:List Int))/\rE ((dj.length:Int):Int)/\rE (0:Int)/\True)/\(mE m (((ao.Nil (ao.ints u32 m.Mem)\/rE (1:Nat))/\rE m.Mem)) True)/\True) (m.A4,0) λ(v0:Int×Int)=>.br (decide (v0.2<(dj.length:Int))) (.cn (bT 1 1&&bJ 0 1&&decide (0<=v0.2/\v0.2<(dj.length:Int))) (.br (decide (dj.getD v0.2.toNat 0<v0.1)) (.lf (Sum.inr 4300)) (.br (decide (wrap u64 (dj.getD v0.2.toNat 0-v0.1)>4000)) (.lf (Sum.inr 4300)) (.nx ((nR RK.ab 4 script/\rZ/\rE ((dj.getD v0.2.toNat 0):Int)/\((ao.Nil (ao.ints u64 dj)\/rE (1:Nat))/\rE (dj:List Int))/\rE ((dj.length:Int):Int)/\rE ((wrap i64 (v0.2+1)):Int)/\True)/\(mE m (((ao.Nil (ao.ints u32 m.Mem)\/rE (1:Nat))/\rE m.Mem)) True)/\True) (Sum.inl (dj.getD v0.2.toNat 0,wrap i64 (v0.2+1))))))) (.an (PV m script m.A4) (.lv (We m script m.A4) λ(x0:au×List dw×Int×Int)=>.lf (Sum.inr x0.2.2.2))))
def Qt m script dj:=(PN m script dj).m
abbrev Qhz m script dj:=(PN m script dj).p
def Z8:bw:={
 α:=(Int)×(Int)
 F:=λst a=>([(1,(lk st 1)),(3,.ptr 0 0 0),(7,.int u64 a.1),(19,(lk st 19)),(20,(lk st 20)),(21,.int i64 a.2)],[⟨true,42,49,.gen [mB (cT st 3)]⟩])
 a0:=λst=>((lk st 7).toInt,(lk st 21).toInt)
 jo:=λst=>[]++[(rX st 3 0)]}
def Z0d:List (Nat×bw):=[(5,Z8)]
def Zdi:bc:=mT 80 [] true [.agg au.sig,.one (.av .ab),.one (.ints .u64)] [] (λa r=>PN (au.of (aC a 0)) (jj .ab a 1) (ei .u64 a 2)) (λX=>.int .i64 X) (λX=>[])
theorem Qrz:bn pG Zdi:=oT (.cons Qsc (.nil)) Tryz.func80 Tryz.call80 [] Z0d 3
def PX(kind:Int)(prog events:List Int):Tree (au×(List ej)):=
.an (Qb kind prog) (.lv (FK kind prog) λ(x0:au)=>.an (Qmm x0 events) (.lv (YL x0 events) λ(x1:cy×List dw)=>.lf (x0,x1.1.D0)))
def Qs8 kind prog events:=(PX kind prog events).m
abbrev Qja kind prog events:=(PX kind prog events).p
def Z0a:bc:=mT 36 [] true [.one (.int .i64),.one (.ints .i64),.one (.ints .i64)] [] (λa r=>PX (aq a 0) (ei .i64 a 1) (ei .i64 a 2)) (λX=>.du [.agg (au.fg (X.1) (.all 0)),.all 1]) (λX=>[⟨false,23,1,.ints .u32 (X.1).Mem⟩,⟨false,103,4,.av .ab (X.2)⟩])
theorem Qyb:bn pG Z0a:=oT (.cons Qny (.cons Zfw (.nil))) Tryz.func36 Tryz.call36 [.row 23 1 (.ints .u32),.row 103 4 (.av .ab)] [] 2
def Qfd(m:au)(l:List Int)(z:(Int)×(Int)×(List Int)):Nat:=(l.length-z.2.1).toNat
def PY(m:au)(l:List Int):Tree (List Int):=
.lp inferInstance (Qfd m l (m.A4,0,[])+1) ((((ao.Nil (ao.ints i64 l)\/rE (1:Nat))/\rE (l:List Int))/\True/\rE m.A4/\rE (0:Int)/\True)/\rE ([]:List Int)/\True) (m.A4,0,[]) λ(v0:Int×Int×List Int)=>.br (decide (v0.2.1<(l.length:Int))) (.cn (bT 1 1&&bJ 0 1&&decide (0<=v0.2.1/\v0.2.1<(l.length:Int))) (.an (EG (l.getD v0.2.1.toNat 0) 20) (.lv (tS (l.getD v0.2.1.toNat 0) 20) λ(x0:Int)=>.cn (decide (8*(v0.2.2.length+1)<=140737488355328)) (.nx ((((ao.Nil (ao.ints i64 l)\/rE (1:Nat))/\rE (l:List Int))/\True/\rE ((wrap u64 (v0.1+wrap u64 x0)):Int)/\rE ((wrap i64 (v0.2.1+1)):Int)/\True)/\rE ((v0.2.2++[wrap u64 (v0.1+wrap u64 x0)]):List Int)/\True) (Sum.inl (wrap u64 (v0.1+wrap u64 x0),wrap i64 (v0.2.1+1),v0.2.2++[wrap u64 (v0.1+wrap u64 x0)])))))) (.lf (Sum.inr v0.2.2))
def Qor m l:=(PY m l).m
abbrev Qio m l:=(PY m l).p
def Quz:bw:={
 α:=(Int)×(Int)×(List Int)
 F:=λst a=>([(1,(lk st 1)),(5,.all 0),(6,.int u64 a.1),(7,.int i64 a.2.1)],[⟨false,40,1,.ints u64 a.2.2⟩])
 a0:=λst=>((lk st 6).toInt,(lk st 7).toInt,(o4 st.rows (rN st 5)))
 jo:=λst=>[]++[(rX st 5 0)]}
def Qqz:List (Nat×bw):=[(4,Quz)]
def Qy3:bc:=mT 38 [] true [.agg au.sig,.one (.ints .i64)] [] (λa r=>PY (au.of (aC a 0)) (ei .i64 a 1)) (λX=>.all 0) (λX=>[⟨false,40,1,.ints .u64 X⟩])
theorem Qvr:bn pG Qy3:=oT (.cons Sj (.nil)) Tryz.func38 Tryz.call38 [.row 40 1 (.ints .u64)] Qqz 3
end
noncomputable section
end
noncomputable section
end
noncomputable section
def PO(i hash err:Int)(kZ:List fv)(lz:List Int)(tV:Int):Tree (Bool×(List fv)×(List Int)×Int):=
.cn (bT 1 1&&bJ 0 1&&decide (0<=i/\i<(lz.length:Int))) (.cn (decide (16*(kZ.length+1)<=140737488355328)) (.lf (true,kZ++[{At:=lz.getD i.toNat 0,D3:=hash}],lz,err)))
def Qm0 i hash err kZ lz tV:=(PO i hash err kZ lz tV).m
abbrev Qde i hash err kZ lz tV:=(PO i hash err kZ lz tV).p
def Z4n:bc:=mh 3 82 [false,false,false,true,true,true] [.one (.int .i64),.one (.int .u64),.one (.int .i64),.ptr 0,.ptr 1,.ptr 2] [.box 87 1 [.row 3],.box 91 1 [.ints .u64],.box 88 1 [.int .i64],.arr 100 2 (.av .ae)] (λa r=>Qde (aq a 0) (aq a 1) (aq a 2) (jQ .ae r 3) (nK .u64 (od r 1 0)) (od r 2 0).toInt) (λa r=>Qm0 (aq a 0) (aq a 1) (aq a 2) (jQ .ae r 3) (nK .u64 (od r 1 0)) (od r 2 0).toInt) (λX=>.bool (X.1)) (λX=>[⟨true,87,1,.gen [[.all 3]]⟩,⟨true,91,1,.gen [[.sl 1 (.ints .u64 X.2.2.1) false]]⟩,⟨true,88,1,.gen [[.int .i64 X.2.2.2]]⟩,⟨false,100,2,.av .ae (X.2.1)⟩])
theorem Qnb:bn pG Z4n:=EF drawn mX (.nil) Tryz.func82 Tryz.call82 (λa r=>PO (aq a 0) (aq a 1) (aq a 2) (jQ .ae r 3) (nK .u64 (od r 1 0)) (od r 2 0).toInt) [.row 100 2 (.av .ae),.sl (.ints .u64) false] [] 2 (λ_ _ _=>by kernel_rfl) (λ_ _=>rfl) (λ_ _ h=>h)
def Qg1(m:au)(script:List ej)(dj:List Int)(vl:List fv)(va:List Int)(vf:Int)(z:(List ej)×(Int)×(List Int)×(Int)×(List fv)×au):Nat:=(dj.length-z.2.1).toNat
def PQ(m:au)(script:List ej)(dj:List Int)(vl:List fv)(va:List Int)(vf:Int):Tree ((List fv)×(List Int)×Int):=
.lp inferInstance (Qg1 m script dj vl va vf (script,0,va,vf,vl,m)+1) ((nR RK.ab 4 script/\True/\rZ/\((ao.Nil (ao.ints u64 dj)\/rE (1:Nat))/\rE (dj:List Int))/\rE ((dj.length:Int):Int)/\rE (0:Int)/\True)/\(True/\True)/\(((ao.Nil (ao.ints u64 va)\/rE (1:Nat))/\rE (va:List Int))/\True)/\(rE (vf:Int)/\True)/\rE (vl:List (RK.T RK.ae))/\(mE m (((ao.Nil (ao.ints u32 m.Mem)\/rE (1:Nat))/\rE m.Mem)) True)/\True) (script,0,va,vf,vl,m) λ(v0:List ej×Int×List Int×Int×List fv×au)=>.br (decide (v0.2.1<(dj.length:Int))) (.cn (bT 1 1&&bJ 0 1&&decide (0<=v0.2.1/\v0.2.1<(dj.length:Int))) (let E1:=dj.getD v0.2.1.toNat 0;.an (PV v0.2.2.2.2.2 v0.1 E1) (.lv (We v0.2.2.2.2.2 v0.1 E1) λ(x0:au×List dw×Int×Int)=>.br (x0.2.2.2 !=0) (.an (Qde v0.2.1 0 x0.2.2.2 v0.2.2.2.2.1 v0.2.2.1 v0.2.2.2.1) (.lv (Qm0 v0.2.1 0 x0.2.2.2 v0.2.2.2.2.1 v0.2.2.1 v0.2.2.2.1) λ(x1:Bool×List fv×List Int×Int)=>.lf (Sum.inr (x1.2.1,x1.2.2.1,x1.2.2.2)))) (.cn (bT 4 4&&bJ 0 4&&decide (0<=x0.2.2.1/\x0.2.2.1<=(v0.1.length:Int)/\(v0.1.length:Int)<=(v0.1.length:Int))) (.an (Ux x0.1) (.lv (Uy x0.1) λ(x2:Int)=>.an (Qde v0.2.1 x2 0 v0.2.2.2.2.1 v0.2.2.1 v0.2.2.2.1) (.lv (Qm0 v0.2.1 x2 0 v0.2.2.2.2.1 v0.2.2.1 v0.2.2.2.1) λ(x3:Bool×List fv×List Int×Int)=>.br (!x3.1) (.lf (Sum.inr (x3.2.1,x3.2.2.1,x3.2.2.2))) (.nx ((((ao.Nil (ao.av RK.ab (dB (dF (v0.1.length:Int)-dF x0.2.2.1) (dC x0.2.2.1.toNat v0.1)))\/oQ Nat 4 4)/\rE ((dB (dF (v0.1.length:Int)-dF x0.2.2.1) (dC x0.2.2.1.toNat v0.1)):List (RK.T RK.ab)))/\True/\rZ/\((ao.Nil (ao.ints u64 dj)\/rE (1:Nat))/\rE (dj:List Int))/\rE ((dj.length:Int):Int)/\rE ((wrap i64 (v0.2.1+1)):Int)/\True)/\(True/\True)/\(((ao.Nil (ao.ints u64 x3.2.2.1)\/oQ Nat 1 1)/\rE x3.2.2.1)/\True)/\(rE x3.2.2.2/\True)/\rE x3.2.1/\(mE x0.1 (((ao.Nil (ao.ints u32 x0.1.Mem)\/oQ Nat 1 1)/\rE x0.1.Mem)) True)/\True) (Sum.inl (dB (dF (v0.1.length:Int)-dF x0.2.2.1) (dC x0.2.2.1.toNat v0.1),wrap i64 (v0.2.1+1),x3.2.2.1,x3.2.2.2,x3.2.1,x0.1)))))))))) (.lf (Sum.inr (v0.2.2.2.2.1,v0.2.2.1,v0.2.2.2.1)))
def Qrt m script dj vl va vf:=(PQ m script dj vl va vf).m
abbrev Qjg m script dj vl va vf:=(PQ m script dj vl va vf).p
def Qxi:bw:={
 α:=(List ej)×(Int)×(List Int)×(Int)×(List fv)×au
 F:=λst a=>([(1,.sl 4 (.av RK.ab a.1) false),(3,.gn 82 [.ptr 0 0 0,.ptr 1 0 0,.ptr 2 0 0]),(4,.ptr 4 0 0),(14,(lk st 14)),(15,(lk st 15)),(16,.int i64 a.2.1)],[⟨true,87,1,.gen [[.all 3]]⟩,⟨true,91,1,.gen [[.sl 1 (.ints u64 a.2.2.1) false]]⟩,⟨true,88,1,.gen [[.int i64 a.2.2.2.1]]⟩,⟨false,100,2,.av RK.ae a.2.2.2.2.1⟩,⟨true,42,49,.gen [mD a.2.2.2.2.2 (.sl 1 (.ints u32 a.2.2.2.2.2.Mem) false)]⟩])
 a0:=λst=>((tI RK.ab (lk st 1)),(lk st 16).toInt,(nK u64 (iT st.rows 1 0)),(iT st.rows 2 0).toInt,(sM RK.ae st.rows (kU (iT st.rows 0 0) 1000000)),(mR (cT st 4) (nK u32 (cT st 4 25))))
 jo:=λst=>[0,1,2]++[(kU (iT st.rows 0 0) (st.rows.length+3)),(rX st 4 4)]}
def Qsr:List (Nat×bw):=[(2,Qxi)]
def Z16:bc:=mh 3 81 [false,false,false,true] [.agg au.sig,.one (.av .ab),.one (.ints .u64),.gn 82 [.ptr 0 0 0,.ptr 1 0 0,.ptr 2 0 0]] [.box 87 1 [.row 3],.box 91 1 [.ints .u64],.box 88 1 [.int .i64],.arr 100 2 (.av .ae)] (λa r=>Qjg (au.of (aC a 0)) (jj .ab a 1) (ei .u64 a 2) (jQ .ae r 3) (nK .u64 (od r 1 0)) (od r 2 0).toInt) (λa r=>Qrt (au.of (aC a 0)) (jj .ab a 1) (ei .u64 a 2) (jQ .ae r 3) (nK .u64 (od r 1 0)) (od r 2 0).toInt) (λX=>.du []) (λX=>[⟨true,87,1,.gen [[.all 3]]⟩,⟨true,91,1,.gen [[.sl 1 (.ints .u64 X.2.1) false]]⟩,⟨true,88,1,.gen [[.int .i64 X.2.2]]⟩,⟨false,100,2,.av .ae (X.1)⟩])
theorem Ql:bn pG Z16:=EF drawn mX (.cons Qsc (.cons Qoe (.cons Qnb (.nil)))) Tryz.func81 Tryz.call81 (λa r=>PQ (au.of (aC a 0)) (jj .ab a 1) (ei .u64 a 2) (jQ .ae r 3) (nK .u64 (od r 1 0)) (od r 2 0).toInt) [.row 100 2 (.av .ae),.sl (.ints .u64) false] Qsr 3 (λ_ _ _=>by kernel_rfl) (λ_ _=>rfl) (λ_ _ h=>h)
def PR(m:au)(script:List ej)(dj:List Int):Tree ((List fv)×Int):=
.an (Qhz m script dj) (.lv (Qt m script dj) λ(x0:Int)=>.br (x0 !=0) (.lf ([],x0)) (.an (Qjg m script dj [] dj 0) (.lv (Qrt m script dj [] dj 0) λ(x1:List fv×List Int×Int)=>.br (x1.2.2 !=0) (.lf ([],x1.2.2)) (.lf (x1.1,0)))))
def Qt6 m script dj:=(PR m script dj).m
abbrev Qhs m script dj:=(PR m script dj).p
def Zcy:bc:=mT 37 [] true [.agg au.sig,.one (.av .ab),.one (.ints .u64)] [] (λa r=>PR (au.of (aC a 0)) (jj .ab a 1) (ei .u64 a 2)) (λX=>.du [.all 0,.int .i64 (X.2)]) (λX=>[⟨false,100,2,.av .ae (X.1)⟩])
theorem Qrj:bn pG Zcy:=oT (.cons Qrz (.cons Ql (.cons Qnb (.cons Ql (.nil))))) Tryz.func37 Tryz.call37 [.row 100 2 (.av .ae)] [] 2
def PS(i hash err:Int)(kZ:List fv)(lz:au)(tV:jR)(ob:List Int):Tree (Bool×(List fv)×au×jR×(List Int)):=
let T1:Tree ((Bool×(List fv)×au×jR×(List Int))):=.br (decide (i>0)) (.cn (bT 1 1&&bJ 0 1&&decide (0<=wrap i64 (i-1)/\wrap i64 (i-1)<(ob.length:Int))) (.lf (false,kZ,lz,{Good:=false,F0:=i,At:=ob.getD (dF (wrap i64 (i-1))) 0},ob))) (.lf (false,kZ,lz,{Good:=false,F0:=i,At:=lz.A4},ob));.br (err==0) (.cn (bT 2 2&&bJ 0 2&&decide (0<=i/\i<(kZ.length:Int))) (.br (hash==(kZ.getD i.toNat (RK.cu RK.ae)).D3) (.lf (true,kZ,lz,tV,ob)) T1)) T1
def Qlo i hash err kZ lz tV ob:=(PS i hash err kZ lz tV ob).m
abbrev Qe i hash err kZ lz tV ob:=(PS i hash err kZ lz tV ob).p
def Z5l:bc:=mh 4 86 [false,false,false,true,true,true,true] [.one (.int .i64),.one (.int .u64),.one (.int .i64),.ptr 0,.ptr 1,.ptr 2,.ptr 3] [.box 87 1 [.av .ae],.box 42 49 au.sig,.box 95 3 jR.sig,.box 91 1 [.ints .u64]] (λa r=>Qe (aq a 0) (aq a 1) (aq a 2) (tI .ae (od r 0 0)) (au.of (r.getD 1 default).cs) (jR.of (r.getD 2 default).cs) (nK .u64 (od r 3 0))) (λa r=>Qlo (aq a 0) (aq a 1) (aq a 2) (tI .ae (od r 0 0)) (au.of (r.getD 1 default).cs) (jR.of (r.getD 2 default).cs) (nK .u64 (od r 3 0))) (λX=>.bool (X.1)) (λX=>[⟨true,87,1,.gen [[.sl 2 (.av .ae X.2.1) false]]⟩,⟨true,42,49,.gen [(au.cells (X.2.2.1))]⟩,⟨true,95,3,.gen [(jR.cells (X.2.2.2.1))]⟩,⟨true,91,1,.gen [[.sl 1 (.ints .u64 X.2.2.2.2) false]]⟩])
theorem Qms:bn pG Z5l:=EF drawn mX (.nil) Tryz.func86 Tryz.call86 (λa r=>PS (aq a 0) (aq a 1) (aq a 2) (tI .ae (od r 0 0)) (au.of (r.getD 1 default).cs) (jR.of (r.getD 2 default).cs) (nK .u64 (od r 3 0))) [.sl (.av .ae) false,.sl (.ints .u32) false,.sl (.ints .u64) false] [] 2 (λ_ _ _=>by kernel_rfl) (λ_ _=>rfl) (λ_ _ h=>h)
def Qfv(m:au)(script:List ej)(dj:List Int)(vl:List fv)(vm:au)(vv:jR)(va:List Int)(z:(List ej)×(Int)×(List fv)×au×jR×(List Int)×au):Nat:=(dj.length-z.2.1).toNat
def PU(m:au)(script:List ej)(dj:List Int)(vl:List fv)(vm:au)(vv:jR)(va:List Int):Tree ((List fv)×au×jR×(List Int)):=
.lp inferInstance (Qfv m script dj vl vm vv va (script,0,vl,vm,vv,va,m)+1) ((nR RK.ab 4 script/\True/\rZ/\((ao.Nil (ao.ints u64 dj)\/rE (1:Nat))/\rE (dj:List Int))/\rE ((dj.length:Int):Int)/\rE (0:Int)/\True)/\(nR RK.ae 2 vl/\True)/\(mE vm (((ao.Nil (ao.ints u32 vm.Mem)\/rE (1:Nat))/\rE vm.Mem)) True)/\(rE vv.Good/\rE vv.F0/\rE vv.At/\True)/\(((ao.Nil (ao.ints u64 va)\/rE (1:Nat))/\rE (va:List Int))/\True)/\(mE m (((ao.Nil (ao.ints u32 m.Mem)\/rE (1:Nat))/\rE m.Mem)) True)/\True) (script,0,vl,vm,vv,va,m) λ(v0:List ej×Int×List fv×au×jR×List Int×au)=>.br (decide (v0.2.1<(dj.length:Int))) (.cn (bT 1 1&&bJ 0 1&&decide (0<=v0.2.1/\v0.2.1<(dj.length:Int))) (let E1:=dj.getD v0.2.1.toNat 0;.an (PV v0.2.2.2.2.2.2 v0.1 E1) (.lv (We v0.2.2.2.2.2.2 v0.1 E1) λ(x0:au×List dw×Int×Int)=>.br (x0.2.2.2 !=0) (.an (Qe v0.2.1 0 x0.2.2.2 v0.2.2.1 v0.2.2.2.1 v0.2.2.2.2.1 v0.2.2.2.2.2.1) (.lv (Qlo v0.2.1 0 x0.2.2.2 v0.2.2.1 v0.2.2.2.1 v0.2.2.2.2.1 v0.2.2.2.2.2.1) λ(x1:Bool×List fv×au×jR×List Int)=>.lf (Sum.inr (x1.2.1,x1.2.2.1,x1.2.2.2.1,x1.2.2.2.2)))) (.cn (bT 4 4&&bJ 0 4&&decide (0<=x0.2.2.1/\x0.2.2.1<=(v0.1.length:Int)/\(v0.1.length:Int)<=(v0.1.length:Int))) (.an (Ux x0.1) (.lv (Uy x0.1) λ(x2:Int)=>.an (Qe v0.2.1 x2 0 v0.2.2.1 v0.2.2.2.1 v0.2.2.2.2.1 v0.2.2.2.2.2.1) (.lv (Qlo v0.2.1 x2 0 v0.2.2.1 v0.2.2.2.1 v0.2.2.2.2.1 v0.2.2.2.2.2.1) λ(x3:Bool×List fv×au×jR×List Int)=>.br (!x3.1) (.lf (Sum.inr (x3.2.1,x3.2.2.1,x3.2.2.2.1,x3.2.2.2.2))) (.nx ((((ao.Nil (ao.av RK.ab (dB (dF (v0.1.length:Int)-dF x0.2.2.1) (dC x0.2.2.1.toNat v0.1)))\/oQ Nat 4 4)/\rE ((dB (dF (v0.1.length:Int)-dF x0.2.2.1) (dC x0.2.2.1.toNat v0.1)):List (RK.T RK.ab)))/\True/\rZ/\((ao.Nil (ao.ints u64 dj)\/rE (1:Nat))/\rE (dj:List Int))/\rE ((dj.length:Int):Int)/\rE ((wrap i64 (v0.2.1+1)):Int)/\True)/\(((ao.Nil (ao.av RK.ae x3.2.1)\/oQ Nat 2 2)/\rE x3.2.1)/\True)/\(mE x3.2.2.1 (((ao.Nil (ao.ints u32 x3.2.2.1.Mem)\/oQ Nat 1 1)/\rE x3.2.2.1.Mem)) True)/\(rE x3.2.2.2.1.Good/\rE x3.2.2.2.1.F0/\rE x3.2.2.2.1.At/\True)/\(((ao.Nil (ao.ints u64 x3.2.2.2.2)\/oQ Nat 1 1)/\rE x3.2.2.2.2)/\True)/\(mE x0.1 (((ao.Nil (ao.ints u32 x0.1.Mem)\/oQ Nat 1 1)/\rE x0.1.Mem)) True)/\True) (Sum.inl (dB (dF (v0.1.length:Int)-dF x0.2.2.1) (dC x0.2.2.1.toNat v0.1),wrap i64 (v0.2.1+1),x3.2.1,x3.2.2.1,x3.2.2.2.1,x3.2.2.2.2,x0.1)))))))))) (.lf (Sum.inr (v0.2.2.1,v0.2.2.2.1,v0.2.2.2.2.1,v0.2.2.2.2.2.1)))
def Qs2 m script dj vl vm vv va:=(PU m script dj vl vm vv va).m
abbrev Qjs m script dj vl vm vv va:=(PU m script dj vl vm vv va).p
def Qwy:bw:={
 α:=(List ej)×(Int)×(List fv)×au×jR×(List Int)×au
 F:=λst a=>([(1,.sl 4 (.av RK.ab a.1) false),(3,.gn 86 [.ptr 0 0 0,.ptr 1 0 0,.ptr 2 0 0,.ptr 3 0 0]),(4,.ptr 4 0 0),(14,(lk st 14)),(15,(lk st 15)),(16,.int i64 a.2.1)],[⟨true,87,1,.gen [[.sl 2 (.av RK.ae a.2.2.1) false]]⟩,⟨true,42,49,.gen [mD a.2.2.2.1 (.sl 1 (.ints u32 a.2.2.2.1.Mem) false)]⟩,⟨true,95,3,.gen [[.bool a.2.2.2.2.1.Good,.int i64 a.2.2.2.2.1.F0,.int u64 a.2.2.2.2.1.At]]⟩,⟨true,91,1,.gen [[.sl 1 (.ints u64 a.2.2.2.2.2.1) false]]⟩,⟨true,42,49,.gen [mD a.2.2.2.2.2.2 (.sl 1 (.ints u32 a.2.2.2.2.2.2.Mem) false)]⟩])
 a0:=λst=>((tI RK.ab (lk st 1)),(lk st 16).toInt,(tI RK.ae (iT st.rows 0 0)),(⟨(⟨(⟨(iT st.rows 1 0).toInt,(iT st.rows 1 1).toInt,(iT st.rows 1 2).toInt,(iT st.rows 1 3).toInt,(iT st.rows 1 4).toInt,(iT st.rows 1 5).toInt,(iT st.rows 1 6).toInt,(iT st.rows 1 7).toInt,(iT st.rows 1 8).toInt,(iT st.rows 1 9).toInt,(iT st.rows 1 10).toInt,(iT st.rows 1 11).toInt,(iT st.rows 1 12).toInt,(iT st.rows 1 13).toInt,(iT st.rows 1 14).toInt,(iT st.rows 1 15).toInt⟩:(iV Int)),(iT st.rows 1 16).toInt,(⟨(iT st.rows 1 17).toInt,(iT st.rows 1 18).toInt,(iT st.rows 1 19).toInt,(iT st.rows 1 20).toInt,(iT st.rows 1 21).toInt,(iT st.rows 1 22).toInt,(iT st.rows 1 23).toInt,(iT st.rows 1 24).toInt⟩:(A8 Int))⟩:bj),(nK u32 (iT st.rows 1 25)),(⟨(iT st.rows 1 26).toStr⟩:iW),(⟨(iT st.rows 1 27).toBool,(iT st.rows 1 28).toInt,(iT st.rows 1 29).toBool⟩:iX),(⟨(iT st.rows 1 30).toInt,(iT st.rows 1 31).toInt,(iT st.rows 1 32).toInt,(iT st.rows 1 33).toInt,(iT st.rows 1 34).toInt,(iT st.rows 1 35).toInt,(iT st.rows 1 36).toInt,(iT st.rows 1 37).toStr⟩:fp),(⟨(iT st.rows 1 38).toInt,(iT st.rows 1 39).toInt,(iT st.rows 1 40).toBool,(iT st.rows 1 41).toInt,(iT st.rows 1 42).toBool,(iT st.rows 1 43).toInt⟩:ia),(⟨(iT st.rows 1 44).toInt,(iT st.rows 1 45).toInt⟩:gv),(iT st.rows 1 46).toInt,(iT st.rows 1 47).toBool,(iT st.rows 1 48).toBool⟩:au),(⟨(iT st.rows 2 0).toBool,(iT st.rows 2 1).toInt,(iT st.rows 2 2).toInt⟩:jR),(nK u64 (iT st.rows 3 0)),(mR (cT st 4) (nK u32 (cT st 4 25))))
 jo:=λst=>[0,1,2,3]++[(rX st 4 4)]}
def Qsg:List (Nat×bw):=[(2,Qwy)]
def Z0u:bc:=bc.fz<|mh 4 81 [false,false,false,true] [.agg au.sig,.one (.av .ab),.one (.ints .u64),.gn 86 [.ptr 0 0 0,.ptr 1 0 0,.ptr 2 0 0,.ptr 3 0 0]] [.box 87 1 [.av .ae],.box 42 49 au.sig,.box 95 3 jR.sig,.box 91 1 [.ints .u64]] (λa r=>Qjs (au.of (aC a 0)) (jj .ab a 1) (ei .u64 a 2) (tI .ae (od r 0 0)) (au.of (r.getD 1 default).cs) (jR.of (r.getD 2 default).cs) (nK .u64 (od r 3 0))) (λa r=>Qs2 (au.of (aC a 0)) (jj .ab a 1) (ei .u64 a 2) (tI .ae (od r 0 0)) (au.of (r.getD 1 default).cs) (jR.of (r.getD 2 default).cs) (nK .u64 (od r 3 0))) (λX=>.du []) (λX=>[⟨true,87,1,.gen [[.sl 2 (.av .ae X.1) false]]⟩,⟨true,42,49,.gen [(au.cells (X.2.1))]⟩,⟨true,95,3,.gen [(jR.cells (X.2.2.1))]⟩,⟨true,91,1,.gen [[.sl 1 (.ints .u64 X.2.2.2) false]]⟩])
theorem Qxg:bn pG Z0u:=M3<|EF drawn mX (.cons Qsc (.cons Qoe (.cons Qms (.nil)))) Tryz.func81 Tryz.call81 (λa r=>PU (au.of (aC a 0)) (jj .ab a 1) (ei .u64 a 2) (tI .ae (od r 0 0)) (au.of (r.getD 1 default).cs) (jR.of (r.getD 2 default).cs) (nK .u64 (od r 3 0))) [.sl (.av .ae) false,.sl (.ints .u32) false,.sl (.ints .u64) false] Qsg 3 (λ_ _ _=>by kernel_rfl) (λ_ _=>rfl) (λ_ _ h=>h)
def Qkx(m:au)(script:List ej)(l:List fv)(z:(Int)×(List Int)):Nat:=(l.length-z.1).toNat
def PW(m:au)(script:List ej)(l:List fv):Tree (jR×Int):=
.lp inferInstance (Qkx m script l (0,[])+1) ((nR RK.ab 4 script/\rZ/\rZ/\rZ/\rZ/\nR RK.ae 2 l/\rE ((l.length:Int):Int)/\rE (0:Int)/\True)/\(mE m (((ao.Nil (ao.ints u32 m.Mem)\/rE (1:Nat))/\rE m.Mem)) True)/\(nR RK.ae 2 l/\True)/\(rE (false:Bool)/\rE (0:Int)/\rE (0:Int)/\True)/\(True/\True)/\rE ([]:List Int)/\True) (0,[]) λ(v0:Int×List Int)=>.br (decide (v0.1<(l.length:Int))) (.cn (bT 2 2&&bJ 0 2&&decide (0<=v0.1/\v0.1<(l.length:Int))) (.cn (decide (8*(v0.2.length+1)<=140737488355328)) (.nx ((nR RK.ab 4 script/\rZ/\rZ/\rZ/\rZ/\nR RK.ae 2 l/\rE ((l.length:Int):Int)/\rE ((wrap i64 (v0.1+1)):Int)/\True)/\(mE m (((ao.Nil (ao.ints u32 m.Mem)\/rE (1:Nat))/\rE m.Mem)) True)/\(nR RK.ae 2 l/\True)/\(rE (false:Bool)/\rE (0:Int)/\rE (0:Int)/\True)/\(True/\True)/\rE ((v0.2++[(l.getD v0.1.toNat (RK.cu RK.ae)).At]):List Int)/\True) (Sum.inl (wrap i64 (v0.1+1),v0.2++[(l.getD v0.1.toNat (RK.cu RK.ae)).At]))))) (.an (Qhz m script v0.2) (.lv (Qt m script v0.2) λ(x0:Int)=>.br (x0 !=0) (.lf (Sum.inr ({Good:=false,F0:=0,At:=0},x0))) (.an (Qjs m script v0.2 l m {Good:=true,F0:=0,At:=0} v0.2) (.lv (Qs2 m script v0.2 l m {Good:=true,F0:=0,At:=0} v0.2) λ(x1:List fv×au×jR×List Int)=>.lf (Sum.inr (x1.2.2.1,0))))))
def Qlv m script l:=(PW m script l).m
abbrev Qd2 m script l:=(PW m script l).p
def Z6w:bw:={
 α:=(Int)×(List Int)
 F:=λst a=>([(1,(lk st 1)),(3,.ptr 0 0 0),(5,.ptr 1 0 0),(6,.ptr 2 0 0),(8,.ptr 3 0 0),(13,(lk st 13)),(14,(lk st 14)),(15,.int i64 a.1)],[⟨true,42,49,.gen [mB (cT st 3)]⟩,⟨true,87,1,.gen [[(cT st 5 0)]]⟩,⟨true,95,3,.gen [[(cT st 6 0),(cT st 6 1),(cT st 6 2)]]⟩,⟨true,91,1,.gen [[.all 4]]⟩,⟨false,40,1,.ints u64 a.2⟩])
 a0:=λst=>((lk st 15).toInt,(o4 st.rows (kU (cT st 8 0) 1000000)))
 jo:=λst=>[]++[(rX st 3 0),(rX st 5 1),(rX st 6 2),(rX st 8 3),(kU (cT st 8 0) (st.rows.length+4))]}
def Z0w:List (Nat×bw):=[(3,Z6w)]
def Zd7:bc:=mT 41 [] true [.agg au.sig,.one (.av .ab),.one (.av .ae)] [] (λa r=>PW (au.of (aC a 0)) (jj .ab a 1) (jj .ae a 2)) (λX=>.du [.agg (jR.cells (X.1)),.int .i64 (X.2)]) (λX=>[])
theorem Qri:bn pG Zd7:=oT (.cons Qrz (.cons Qms (.cons Qxg (.nil)))) Tryz.func41 Tryz.call41 [] Z0w 3
end
noncomputable section
def strconv_Itoa(i:Int):(List UInt8):=
Lib.decDigits i.toNat
def HD(i:Int):Prop:=
0<=i/\i<=9223372036854775807
def Qlg(i:Int):List D:=[.int .i64 i]
def Qlh(i:Int):List Row:=[]
def Qfq(X:List UInt8):D:=.str X
def Qfl(X:List UInt8):List Row:=[]
def Qmr:List PT:=[.one (.int .i64)]
def Qla:List RT:=[]
def Z02(args:List D)(rows:List Row):(List UInt8):=strconv_Itoa (aq args 0)
def Z09(args:List D)(rows:List Row):Prop:=HD (aq args 0)
def Z6f:bc:=mW 147 [] true Qmr Qla Z09 Z02 Qfq Qfl
theorem Quv(i:Int)(hw:HD i):kj pG 147 (Qlg i) (Qlh i) (Qfq (strconv_Itoa i)) (Qfl (strconv_Itoa i)):=by
 exact xai Tryz.strconv_Itoa (by kernel_rfl) Zqh hw.1 hw.2
set_option maxRecDepth 100000 in
theorem Qxp(args:List D)(rows:List Row):mr Qmr args 0=Qlg (aq args 0):=by kernel_rfl
set_option maxRecDepth 100000 in
theorem Qtk(args:List D)(rows:List Row):lG Qla rows 0=Qlh (aq args 0):=by kernel_rfl
set_option maxRecDepth 100000 in
theorem Z1z(X:List UInt8):(wm (Qfq X)&&jK (Qfl X))=true:=by kernel_rfl
theorem Qps:bn pG Z6f:=M4 Tryz.call147 (λargs rows hp=>by rw[Qxp args rows,Qtk args rows];exact Quv (aq args 0) hp) (λ_ X=>Z1z X)
def Qnn(a b:bj)(z:(Int)):Nat:=(16-z).toNat
def Qnj(a b:bj)(z:(Int)):Nat:=(8-z).toNat
def PZ(a b:bj):Tree (List UInt8):=
.lp inferInstance (Qnn a b 0+1) ((rZ/\rZ/\rE (0:Int)/\True)/\(rE a.X.a0/\rE a.X.a1/\rE a.X.a2/\rE a.X.a3/\rE a.X.a4/\rE a.X.a5/\rE a.X.a6/\rE a.X.a7/\rE a.X.a8/\rE a.X.a9/\rE a.X.kz/\rE a.X.kA/\rE a.X.a12/\rE a.X.kB/\rE a.X.kC/\rE a.X.kD/\rE a.Pc/\rE a.B7.a0/\rE a.B7.a1/\rE a.B7.a2/\rE a.B7.a3/\rE a.B7.a4/\rE a.B7.a5/\rE a.B7.a6/\rE a.B7.a7/\True)/\(rE b.X.a0/\rE b.X.a1/\rE b.X.a2/\rE b.X.a3/\rE b.X.a4/\rE b.X.a5/\rE b.X.a6/\rE b.X.a7/\rE b.X.a8/\rE b.X.a9/\rE b.X.kz/\rE b.X.kA/\rE b.X.a12/\rE b.X.kB/\rE b.X.kC/\rE b.X.kD/\rE b.Pc/\rE b.B7.a0/\rE b.B7.a1/\rE b.B7.a2/\rE b.B7.a3/\rE b.B7.a4/\rE b.B7.a5/\rE b.B7.a6/\rE b.B7.a7/\True)/\True) 0 λ(v0:Int)=>.br (decide (v0<16)) (let E1:=bJ 0 1&&decide (0<=v0/\v0<(↑16:Int));.cn E1 (.cn E1 (.br (aK (iV.l a.X) v0.toNat 0 !=aK (iV.l b.X) v0.toNat 0) (.an (HD v0) (.lv (strconv_Itoa v0) λ(x0:List UInt8)=>.cn (decide (2+x0.length<=maxLen)) (.lf (Sum.inr ((120:UInt8)::([(32:UInt8)]++x0)))))) (.nx ((rZ/\rZ/\rE ((wrap i64 (v0+1)):Int)/\True)/\(rE a.X.a0/\rE a.X.a1/\rE a.X.a2/\rE a.X.a3/\rE a.X.a4/\rE a.X.a5/\rE a.X.a6/\rE a.X.a7/\rE a.X.a8/\rE a.X.a9/\rE a.X.kz/\rE a.X.kA/\rE a.X.a12/\rE a.X.kB/\rE a.X.kC/\rE a.X.kD/\rE a.Pc/\rE a.B7.a0/\rE a.B7.a1/\rE a.B7.a2/\rE a.B7.a3/\rE a.B7.a4/\rE a.B7.a5/\rE a.B7.a6/\rE a.B7.a7/\True)/\(rE b.X.a0/\rE b.X.a1/\rE b.X.a2/\rE b.X.a3/\rE b.X.a4/\rE b.X.a5/\rE b.X.a6/\rE b.X.a7/\rE b.X.a8/\rE b.X.a9/\rE b.X.kz/\rE b.X.kA/\rE b.X.a12/\rE b.X.kB/\rE b.X.kC/\rE b.X.kD/\rE b.Pc/\rE b.B7.a0/\rE b.B7.a1/\rE b.B7.a2/\rE b.B7.a3/\rE b.B7.a4/\rE b.B7.a5/\rE b.B7.a6/\rE b.B7.a7/\True)/\True) (Sum.inl (wrap i64 (v0+1))))))) (.br (a.Pc !=b.Pc) (.lf (Sum.inr [(112:UInt8),99])) (.lp inferInstance (Qnj a b 0+1) ((rZ/\rZ/\rE (0:Int)/\True)/\(rE a.X.a0/\rE a.X.a1/\rE a.X.a2/\rE a.X.a3/\rE a.X.a4/\rE a.X.a5/\rE a.X.a6/\rE a.X.a7/\rE a.X.a8/\rE a.X.a9/\rE a.X.kz/\rE a.X.kA/\rE a.X.a12/\rE a.X.kB/\rE a.X.kC/\rE a.X.kD/\rE a.Pc/\rE a.B7.a0/\rE a.B7.a1/\rE a.B7.a2/\rE a.B7.a3/\rE a.B7.a4/\rE a.B7.a5/\rE a.B7.a6/\rE a.B7.a7/\True)/\(rE b.X.a0/\rE b.X.a1/\rE b.X.a2/\rE b.X.a3/\rE b.X.a4/\rE b.X.a5/\rE b.X.a6/\rE b.X.a7/\rE b.X.a8/\rE b.X.a9/\rE b.X.kz/\rE b.X.kA/\rE b.X.a12/\rE b.X.kB/\rE b.X.kC/\rE b.X.kD/\rE b.Pc/\rE b.B7.a0/\rE b.B7.a1/\rE b.B7.a2/\rE b.B7.a3/\rE b.B7.a4/\rE b.B7.a5/\rE b.B7.a6/\rE b.B7.a7/\True)/\True) 0 λ(v1:Int)=>.br (decide (v1<8)) (let E2:=bJ 0 1&&decide (0<=v1/\v1<(↑8:Int));.cn E2 (.cn E2 (.br (aK (A8.l a.B7) v1.toNat 0 !=aK (A8.l b.B7) v1.toNat 0) (.an (HD v1) (.lv (strconv_Itoa v1) λ(x1:List UInt8)=>.cn (decide (4+x1.length<=maxLen)) (.lf (Sum.inr (Sum.inr ((99:UInt8)::([(115:UInt8),114,32]++x1))))))) (.nx ((rZ/\rZ/\rE ((wrap i64 (v1+1)):Int)/\True)/\(rE a.X.a0/\rE a.X.a1/\rE a.X.a2/\rE a.X.a3/\rE a.X.a4/\rE a.X.a5/\rE a.X.a6/\rE a.X.a7/\rE a.X.a8/\rE a.X.a9/\rE a.X.kz/\rE a.X.kA/\rE a.X.a12/\rE a.X.kB/\rE a.X.kC/\rE a.X.kD/\rE a.Pc/\rE a.B7.a0/\rE a.B7.a1/\rE a.B7.a2/\rE a.B7.a3/\rE a.B7.a4/\rE a.B7.a5/\rE a.B7.a6/\rE a.B7.a7/\True)/\(rE b.X.a0/\rE b.X.a1/\rE b.X.a2/\rE b.X.a3/\rE b.X.a4/\rE b.X.a5/\rE b.X.a6/\rE b.X.a7/\rE b.X.a8/\rE b.X.a9/\rE b.X.kz/\rE b.X.kA/\rE b.X.a12/\rE b.X.kB/\rE b.X.kC/\rE b.X.kD/\rE b.Pc/\rE b.B7.a0/\rE b.B7.a1/\rE b.B7.a2/\rE b.B7.a3/\rE b.B7.a4/\rE b.B7.a5/\rE b.B7.a6/\rE b.B7.a7/\True)/\True) (Sum.inl (wrap i64 (v1+1))))))) (.lf (Sum.inr (Sum.inr [])))))
def Qmq a b:=(PZ a b).m
abbrev Qa9 a b:=(PZ a b).p
def Qsm:bw:={
 α:=(Int)
 F:=λst a=>([(2,.ptr 0 0 0),(3,.ptr 1 0 0),(7,.int i64 a)],[⟨true,28,25,.gen [[(cT st 2 0),(cT st 2 1),(cT st 2 2),(cT st 2 3),(cT st 2 4),(cT st 2 5),(cT st 2 6),(cT st 2 7),(cT st 2 8),(cT st 2 9),(cT st 2 10),(cT st 2 11),(cT st 2 12),(cT st 2 13),(cT st 2 14),(cT st 2 15),(cT st 2 16),(cT st 2 17),(cT st 2 18),(cT st 2 19),(cT st 2 20),(cT st 2 21),(cT st 2 22),(cT st 2 23),(cT st 2 24)]]⟩,⟨true,28,25,.gen [[(cT st 3 0),(cT st 3 1),(cT st 3 2),(cT st 3 3),(cT st 3 4),(cT st 3 5),(cT st 3 6),(cT st 3 7),(cT st 3 8),(cT st 3 9),(cT st 3 10),(cT st 3 11),(cT st 3 12),(cT st 3 13),(cT st 3 14),(cT st 3 15),(cT st 3 16),(cT st 3 17),(cT st 3 18),(cT st 3 19),(cT st 3 20),(cT st 3 21),(cT st 3 22),(cT st 3 23),(cT st 3 24)]]⟩])
 a0:=λst=>(lk st 7).toInt
 jo:=λst=>[]++[(rX st 2 0),(rX st 3 1)]}
def Qsu:bw:={
 α:=(Int)
 F:=λst a=>([(2,.ptr 0 0 0),(3,.ptr 1 0 0),(28,.int i64 a)],[⟨true,28,25,.gen [[(cT st 2 0),(cT st 2 1),(cT st 2 2),(cT st 2 3),(cT st 2 4),(cT st 2 5),(cT st 2 6),(cT st 2 7),(cT st 2 8),(cT st 2 9),(cT st 2 10),(cT st 2 11),(cT st 2 12),(cT st 2 13),(cT st 2 14),(cT st 2 15),(cT st 2 16),(cT st 2 17),(cT st 2 18),(cT st 2 19),(cT st 2 20),(cT st 2 21),(cT st 2 22),(cT st 2 23),(cT st 2 24)]]⟩,⟨true,28,25,.gen [[(cT st 3 0),(cT st 3 1),(cT st 3 2),(cT st 3 3),(cT st 3 4),(cT st 3 5),(cT st 3 6),(cT st 3 7),(cT st 3 8),(cT st 3 9),(cT st 3 10),(cT st 3 11),(cT st 3 12),(cT st 3 13),(cT st 3 14),(cT st 3 15),(cT st 3 16),(cT st 3 17),(cT st 3 18),(cT st 3 19),(cT st 3 20),(cT st 3 21),(cT st 3 22),(cT st 3 23),(cT st 3 24)]]⟩])
 a0:=λst=>(lk st 28).toInt
 jo:=λst=>[]++[(rX st 2 0),(rX st 3 1)]}
def Qo3:List (Nat×bw):=[(2,Qsm),(10,Qsu)]
def Qv5:bc:=mT 90 [] true [.agg bj.sig,.agg bj.sig] [] (λa r=>PZ (bj.of (aC a 0)) (bj.of (aC a 1))) (λX=>.str X) (λX=>[])
theorem Qsv:bn pG Qv5:=oT (.cons Qps (.nil)) Tryz.func90 Tryz.call90 [] Qo3 3
def Qng(a b:List Int)(z:(Int)):Nat:=(a.length-z).toNat
def P0(a b:List Int):Tree (List UInt8):=
.br ((a.length:Int) !=(b.length:Int)) (.lf ([(109:UInt8),101,109])) (.lp inferInstance (Qng a b 0+1) ((((ao.Nil (ao.ints u32 a)\/rE (1:Nat))/\rE (a:List Int))/\((ao.Nil (ao.ints u32 b)\/rE (1:Nat))/\rE (b:List Int))/\rE ((a.length:Int):Int)/\rE (0:Int)/\True)/\True) 0 λ(v0:Int)=>.br (decide (v0<(a.length:Int))) (.cn (bT 1 1&&bJ 0 1&&decide (0<=v0/\v0<(a.length:Int))) (.cn (bT 1 1&&bJ 0 1&&decide (0<=v0/\v0<(b.length:Int))) (.br (a.getD v0.toNat 0 !=b.getD v0.toNat 0) (.an (HD v0) (.lv (strconv_Itoa v0) λ(x0:List UInt8)=>.cn (decide (4+x0.length<=maxLen)) (.lf (Sum.inr ((109:UInt8)::([(101:UInt8),109,32]++x0)))))) (.nx ((((ao.Nil (ao.ints u32 a)\/rE (1:Nat))/\rE (a:List Int))/\((ao.Nil (ao.ints u32 b)\/rE (1:Nat))/\rE (b:List Int))/\rE ((a.length:Int):Int)/\rE ((wrap i64 (v0+1)):Int)/\True)/\True) (Sum.inl (wrap i64 (v0+1))))))) (.lf (Sum.inr [])))
def Qn0 a b:=(P0 a b).m
abbrev Qaa a b:=(P0 a b).p
def Qsk:bw:={
 α:=(Int)
 F:=λst a=>([(0,(lk st 0)),(1,(lk st 1)),(12,(lk st 12)),(13,.int i64 a)],[])
 a0:=λst=>(lk st 13).toInt
 jo:=λst=>[]++[]}
def Qpd:List (Nat×bw):=[(4,Qsk)]
def Qvo:bc:=mT 91 [] true [.one (.ints .u32),.one (.ints .u32)] [] (λa r=>P0 (ei .u32 a 0) (ei .u32 a 1)) (λX=>.str X) (λX=>[])
theorem Qsx:bn pG Qvo:=oT (.cons Qps (.nil)) Tryz.func91 Tryz.call91 [] Qpd 3
def P2(a b:au):Tree (List UInt8):=
.an (Qa9 a.B4 b.B4) (.lv (Qmq a.B4 b.B4) λ(x0:List UInt8)=>.br (!decide (x0=[])) (.lf x0) (.an (Qaa a.Mem b.Mem) (.lv (Qn0 a.Mem b.Mem) λ(x1:List UInt8)=>.br (!decide (x1=[])) (.lf x1) (.br (!eqs [D.str a.A7.D5] [D.str b.A7.D5]) (.lf ([(99:UInt8),111,110,115,111,108,101])) (.br (!eqs [D.bool a.B2.D7,D.int u32 a.B2.C7,D.bool a.B2.D6] [D.bool b.B2.D7,D.int u32 b.B2.C7,D.bool b.B2.D6]) (.lf ([(116:UInt8),105,109,101,114])) (.br (!eqs [D.int u32 a.B1.ag,D.int u32 a.B1.C4,D.int u32 a.B1.Frame,D.int i64 a.B1.C0,D.int i64 a.B1.D8,D.int u32 a.B1.B9,D.int u32 a.B1.B5,D.str a.B1.C1] [D.int u32 b.B1.ag,D.int u32 b.B1.C4,D.int u32 b.B1.Frame,D.int i64 b.B1.C0,D.int i64 b.B1.D8,D.int u32 b.B1.B9,D.int u32 b.B1.B5,D.str b.B1.C1]) (.lf ([(100:UInt8),105,115,107])) (.br (!eqs [D.int u32 a.C6.Frame,D.int u32 a.C6.F1,D.bool a.C6.C8,D.int u32 a.C6.C2,D.bool a.C6.B8,D.int u32 a.C6.F4] [D.int u32 b.C6.Frame,D.int u32 b.C6.F1,D.bool b.C6.C8,D.int u32 b.C6.C2,D.bool b.C6.B8,D.int u32 b.C6.F4]) (.lf ([(110:UInt8),105,99])) (.br (!eqs [D.int u32 a.A6.C9,D.int u32 a.A6.C5] [D.int u32 b.A6.C9,D.int u32 b.A6.C5]) (.lf ([(98:UInt8),97,108,108,111,111,110])) (.br (a.A4 !=b.A4) (.lf ([(99:UInt8),111,117,110,116])) (.br (!a.A9==b.A9) (.lf ([(119:UInt8),97,105,116,105,110,103])) (.br (!a.B0==b.B0) (.lf ([(104:UInt8),97,108,116,101,100])) (.lf ([])))))))))))))
def UJ a b:=(P2 a b).m
abbrev P1 a b:=(P2 a b).p
def Z33:bc:=mT 43 [] true [.agg au.sig,.agg au.sig] [] (λa r=>P2 (au.of (aC a 0)) (au.of (aC a 1))) (λX=>.str X) (λX=>[])
theorem Z0v:bn pG Z33:=oT (.cons Qsv (.cons Qsx (.nil))) Tryz.func43 Tryz.call43 [] [] 2
def P4:Tree Bool:=
.an (Qb 2 [0]) (.lv (FK 2 [0]) λ(x0:au)=>.an (Qhs x0 [] [1,3]) (.lv (Qt6 x0 [] [1,3]) λ(x1:List fv×Int)=>.br (x1.2 !=0) (.lf false) (.br ((x1.1.length:Int) !=(2:Int)) (.lf false) (.an (Qd2 x0 [] x1.1) (.lv (Qlv x0 [] x1.1) λ(x2:jR×Int)=>let E3:=bT 2 2&&bJ 0 2&&decide ((0:Int)<=(1:Int)/\1<(x1.1.length:Int));.cn E3 (.cn E3 (let E2:=x1.1.getD (dF 1) (RK.cu RK.ae);.an (Qd2 x0 [] (List.set x1.1 (dF 1) {At:=E2.At,D3:=wrap u64 (E2.D3+1)})) (.lv (Qlv x0 [] (List.set x1.1 (dF 1) {At:=E2.At,D3:=wrap u64 (E2.D3+1)})) λ(x3:jR×Int)=>.br (x2.2==0) (.br x2.1.Good (.br (x3.2==0) (.br (!x3.1.Good) (.br (x3.1.F0==1) (.br (x3.1.At==1) (let E1:=({B4:={X:={a0:=x0.B4.X.a0,a1:=x0.B4.X.a1,a2:=x0.B4.X.a2,a3:=x0.B4.X.a3,a4:=x0.B4.X.a4,a5:=7,a6:=x0.B4.X.a6,a7:=x0.B4.X.a7,a8:=x0.B4.X.a8,a9:=x0.B4.X.a9,kz:=x0.B4.X.kz,kA:=x0.B4.X.kA,a12:=x0.B4.X.a12,kB:=x0.B4.X.kB,kC:=x0.B4.X.kC,kD:=x0.B4.X.kD},Pc:=x0.B4.Pc,B7:=x0.B4.B7},Mem:=x0.Mem,A7:=x0.A7,B2:=x0.B2,B1:=x0.B1,C6:=x0.C6,A6:=x0.A6,A4:=x0.A4,A9:=x0.A9,B0:=x0.B0}:au);.an (P1 x0 E1) (.lv (UJ x0 E1) λ(x4:List UInt8)=>.br (decide (x4=[(120:UInt8),32,53])) (.an (P1 x0 x0) (.lv (UJ x0 x0) λ(x5:List UInt8)=>.lf (decide (x5=[])))) (.lf false))) (.lf false)) (.lf false)) (.lf false)) (.lf false)) (.lf false)) (.lf false)))))))))
def FQ:Bool:=(P4).m
abbrev HE:Prop:=(P4).p
def Zdp:bc:=mT 35 [] true [] [] (λa r=>P4) (λX=>.bool X) (λX=>[])
theorem Z78:bn pG Zdp:=oT (.cons Qny (.cons Qrj (.cons Qri (.cons Z0v (.nil))))) Tryz.func35 Tryz.call35 [] [] 2
end
noncomputable section
def Qd7(kind:Int)(prog events l:List Int)(jk:Int)(bf:List Bool)(z:(Int)×(List fv)):Nat:=(l.length-z.1).toNat
def UL(kind:Int)(prog events l:List Int)(jk:Int)(bf:List Bool):Tree Bool:=
.br (decide ((prog.length:Int)>(60:Int))) (.an HE (.lv FQ λ(x0:Bool)=>.lf x0)) (.br (decide ((events.length:Int)>(20:Int))) (.an HE (.lv FQ λ(x1:Bool)=>.lf x1)) (.br (decide ((l.length:Int)<(1:Int))) (.an HE (.lv FQ λ(x2:Bool)=>.lf x2)) (.br (decide ((l.length:Int)>(10:Int))) (.an HE (.lv FQ λ(x3:Bool)=>.lf x3)) (.br (decide ((bf.length:Int)<(l.length:Int))) (.an HE (.lv FQ λ(x4:Bool)=>.lf x4)) (.an (Qja kind prog events) (.lv (Qs8 kind prog events) λ(x5:au×List ej)=>.an (Qio x5.1 l) (.lv (Qor x5.1 l) λ(x6:List Int)=>.an (Qhs x5.1 x5.2 x6) (.lv (Qt6 x5.1 x5.2 x6) λ(x7:List fv×Int)=>.br (x7.2 !=0) (.br ((x7.1.length:Int)==(0:Int)) (.an HE (.lv FQ λ(x8:Bool)=>.lf x8)) (.lf false)) (.br ((x7.1.length:Int) !=(l.length:Int)) (.lf false) (.an (EG jk (x7.1.length:Int)) (.lv (tS jk (x7.1.length:Int)) λ(x9:Int)=>.lp inferInstance (Qd7 kind prog events l jk bf (0,[])+1) ((((ao.Nil (ao.bu bf)\/rE (1:Nat))/\rE (bf:List Bool))/\rE (false:Bool)/\rZ/\True/\True/\rE (x9:Int)/\True/\rE (0:Int)/\True)/\(mE x5.1 True True)/\rE x5.1.Mem/\rE x5.2/\rE x7.1/\rE ([]:List (RK.T RK.ae))/\True) (0,[]) λ(v0:Int×List fv)=>.br (decide (v0.1<(x7.1.length:Int))) (.cn (bT 2 2&&bJ 0 2&&decide (0<=v0.1/\v0.1<(x7.1.length:Int))) (let T1:Tree ((Int×List fv)⊕(Bool)):=.nx ((((ao.Nil (ao.bu bf)\/rE (1:Nat))/\rE (bf:List Bool))/\rE (false:Bool)/\rZ/\True/\True/\rE (x9:Int)/\True/\rE ((wrap i64 (v0.1+1)):Int)/\True)/\(mE x5.1 True True)/\rE x5.1.Mem/\rE x5.2/\rE x7.1/\rE v0.2/\True) (Sum.inl (wrap i64 (v0.1+1),v0.2));let E2:=bT 1 1&&bJ 0 1&&decide (0<=v0.1/\v0.1<(bf.length:Int));let E4:=decide (16*(v0.2.length+1)<=140737488355328);let E5:=bf.getD v0.1.toNat false;.br (v0.1==x9) (.cn E2 (.br E5 (.cn E4 (let E3:=x7.1.getD v0.1.toNat (RK.cu RK.ae);.nx ((((ao.Nil (ao.bu bf)\/rE (1:Nat))/\rE (bf:List Bool))/\rE (false:Bool)/\rZ/\True/\True/\rE (x9:Int)/\True/\rE ((wrap i64 (v0.1+1)):Int)/\True)/\(mE x5.1 True True)/\rE x5.1.Mem/\rE x5.2/\rE x7.1/\rE ((v0.2++[{At:=(x7.1.getD v0.1.toNat (RK.cu RK.ae)).At,D3:=wrap u64 ((x7.1.getD v0.1.toNat (RK.cu RK.ae)).D3+1)}]):List (RK.T RK.ae))/\True) (Sum.inl (wrap i64 (v0.1+1),v0.2++[{At:=E3.At,D3:=wrap u64 (E3.D3+1)}])))) T1)) (.cn E2 (.br E5 (.cn E4 (.nx ((((ao.Nil (ao.bu bf)\/rE (1:Nat))/\rE (bf:List Bool))/\rE (false:Bool)/\rZ/\True/\True/\rE (x9:Int)/\True/\rE ((wrap i64 (v0.1+1)):Int)/\True)/\(mE x5.1 True True)/\rE x5.1.Mem/\rE x5.2/\rE x7.1/\rE ((v0.2++[x7.1.getD v0.1.toNat (RK.cu RK.ae)]):List (RK.T RK.ae))/\True) (Sum.inl (wrap i64 (v0.1+1),v0.2++[x7.1.getD v0.1.toNat (RK.cu RK.ae)])))) T1)))) (.an (Qd2 x5.1 x5.2 v0.2) (.lv (Qlv x5.1 x5.2 v0.2) λ(ki:jR×Int)=>.br (ki.2==0) (.cn (bT 1 1&&bJ 0 1&&decide (0<=x9/\x9<(bf.length:Int))) (.br (ki.1.Good==!bf.getD x9.toNat false) (.an HE (.lv FQ λ(mI:Bool)=>.lf (Sum.inr mI))) (.lf (Sum.inr false)))) (.lf (Sum.inr false)))))))))))))))
def Qfs kind prog events l jk bf:=(UL kind prog events l jk bf).m
abbrev Qg2 kind prog events l jk bf:=(UL kind prog events l jk bf).p
def Qtc:bw:={
 α:=(Int)×(List fv)
 F:=λst a=>([(5,(lk st 5)),(12,(lk st 12)),(13,.ptr 0 0 0),(14,.all 2),(15,.all 3),(17,(lk st 17)),(18,.all 4),(19,.int i64 a.1)],[⟨true,42,49,.gen [[(cT st 13 0),(cT st 13 1),(cT st 13 2),(cT st 13 3),(cT st 13 4),(cT st 13 5),(cT st 13 6),(cT st 13 7),(cT st 13 8),(cT st 13 9),(cT st 13 10),(cT st 13 11),(cT st 13 12),(cT st 13 13),(cT st 13 14),(cT st 13 15),(cT st 13 16),(cT st 13 17),(cT st 13 18),(cT st 13 19),(cT st 13 20),(cT st 13 21),(cT st 13 22),(cT st 13 23),(cT st 13 24),.all 1,(cT st 13 26),(cT st 13 27),(cT st 13 28),(cT st 13 29),(cT st 13 30),(cT st 13 31),(cT st 13 32),(cT st 13 33),(cT st 13 34),(cT st 13 35),(cT st 13 36),(cT st 13 37),(cT st 13 38),(cT st 13 39),(cT st 13 40),(cT st 13 41),(cT st 13 42),(cT st 13 43),(cT st 13 44),(cT st 13 45),(cT st 13 46),(cT st 13 47),(cT st 13 48)]]⟩,⟨false,23,1,ng st.rows (kU (cT st 13 25) 1000000)⟩,⟨false,103,4,ng st.rows (rN st 14)⟩,⟨false,100,2,ng st.rows (rN st 15)⟩,⟨false,100,2,.av RK.ae a.2⟩])
 a0:=λst=>((lk st 19).toInt,(sM RK.ae st.rows (rN st 18)))
 jo:=λst=>[]++[(rX st 13 0),(kU (cT st 13 25) (st.rows.length+1)),(rX st 14 2),(rX st 15 3),(rX st 18 4)]}
def Qnz:List (Nat×bw):=[(12,Qtc)]
def Qux:bc:=mT 10 [] true [.one (.int .i64),.one (.ints .i64),.one (.ints .i64),.one (.ints .i64),.one (.int .i64),.one (.bu)] [] (λa r=>UL (aq a 0) (ei .i64 a 1) (ei .i64 a 2) (ei .i64 a 3) (aq a 4) (Jam a 5)) (λX=>.bool X) (λX=>[])
theorem Qsj:bn pG Qux:=oT (.cons Z78 (.cons Qyb (.cons Qrj (.cons Qvr (.cons Sj (.cons Qri (.nil))))))) Tryz.func10 Tryz.call10 [] Qnz 3

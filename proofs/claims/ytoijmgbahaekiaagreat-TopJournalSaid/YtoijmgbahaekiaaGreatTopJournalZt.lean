import Derived.Test.YtoijmgbahaekiaaGreatTopJournalZd
import Derived.Test.YtoijmgbahaekiaaGreatTopJournalFi
open Nat renaming beq->bV,blt->bK,lt_succ_self->dQ
open List renaming getD->aK,length->dR,drop->dV,take->dU,set->fF
open Int renaming toNat->dM,ofNat->iD,NonNeg->iE,tmod->hZ
open UInt8 renaming ofNat->dC,toNat->iC
set_option maxRecDepth 100000
set_option linter.all false
namespace Go.Proofs.YtoijmgbahaekiaaGreat
open Go Go.GD Go.IntKind
noncomputable section
instance sumInhZi {α β:Type} [Inhabited β]:Inhabited (α⊕β):=⟨.inr default⟩
def Qma(src:List UInt8)(z:(Int)×(List Int)):Nat:=((Qw2 src).2.1.length-z.1).toNat
def Qm5(src:List UInt8)(v0:Int×List Int)(z:(Int)×(List Int)):Nat:=(1024-z.1).toNat
def Q7w(src:List UInt8):Tree ((List Int)×Q1a):=
.an (Qh8 src) (.lv (Qw2 src) λ(x0:List Q2×List Q06×Q1a)=>.br (x0.2.2.Err !=0) (.lf ([],x0.2.2)) (.lp inferInstance (Qma src (0,[])+1) ((True/\rZ/\True/\True/\True/\rE (0:Int)/\True)/\(rE (0:Int)/\rE (0:Int)/\True)/\rE x0.1/\rE x0.2.1/\rE ([]:List Int)/\True) (0,[]) λ(v0:Int×List Int)=>.br (decide (v0.1<(x0.2.1.length:Int))) (.cn (bV 6 6&&bK 0 6&&decide (0<=v0.1/\v0.1<(x0.2.1.length:Int))) (let E4:=x0.2.1.getD v0.1.toNat (RK.dflt RK.vmfleetref1Statement);let T1:Tree ((Int×List Int)⊕(((List Int)×Q1a))):=.lp inferInstance (Qm5 src v0 (0,v0.2)+1) ((True/\rZ/\True/\True/\True/\rE v0.1/\rZ/\rE (0:Int)/\True)/\(rE (0:Int)/\rE (0:Int)/\True)/\rE x0.1/\rE x0.2.1/\(rE ((x0.2.1.getD v0.1.toNat (RK.dflt RK.vmfleetref1Statement)).what:List UInt8)/\rE ((x0.2.1.getD v0.1.toNat (RK.dflt RK.vmfleetref1Statement)).op:Int)/\((Els.Nil (D.toEs (aK (Els.get (Els.recs RK.vmfleetref1Statement x0.2.1) v0.1.toNat) ((0:Nat)+(1:Nat)+(1:Nat)) D.dead))\/rE (3:Nat))/\rE ((x0.2.1.getD v0.1.toNat (RK.dflt RK.vmfleetref1Statement)).l:List (RK.T RK.vmfleetref1Arg)))/\rE ((x0.2.1.getD v0.1.toNat (RK.dflt RK.vmfleetref1Statement)).D8:Int)/\rE ((x0.2.1.getD v0.1.toNat (RK.dflt RK.vmfleetref1Statement)).at_:Int)/\rE ((x0.2.1.getD v0.1.toNat (RK.dflt RK.vmfleetref1Statement)).size:Int)/\True)/\rE v0.2/\True) (0,v0.2) λ(v1:Int×List Int)=>.br (decide (v1.1<E4.size)) (.cn (decide (4*(v1.2.length+1)<=140737488355328)) (.nx ((True/\rZ/\True/\True/\True/\rE v0.1/\rZ/\rE ((wrap i64 (v1.1+1)):Int)/\True)/\(rE (0:Int)/\rE (0:Int)/\True)/\rE x0.1/\rE x0.2.1/\(rE ((x0.2.1.getD v0.1.toNat (RK.dflt RK.vmfleetref1Statement)).what:List UInt8)/\rE ((x0.2.1.getD v0.1.toNat (RK.dflt RK.vmfleetref1Statement)).op:Int)/\((Els.Nil (Els.recs RK.vmfleetref1Arg (x0.2.1.getD v0.1.toNat (RK.dflt RK.vmfleetref1Statement)).l)\/rE (3:Nat))/\rE ((x0.2.1.getD v0.1.toNat (RK.dflt RK.vmfleetref1Statement)).l:List (RK.T RK.vmfleetref1Arg)))/\rE ((x0.2.1.getD v0.1.toNat (RK.dflt RK.vmfleetref1Statement)).D8:Int)/\rE ((x0.2.1.getD v0.1.toNat (RK.dflt RK.vmfleetref1Statement)).at_:Int)/\rE ((x0.2.1.getD v0.1.toNat (RK.dflt RK.vmfleetref1Statement)).size:Int)/\True)/\rE ((v1.2++[0]):List Int)/\True) (Sum.inl (wrap i64 (v1.1+1),v1.2++[0])))) (.nx ((True/\rZ/\True/\True/\True/\rE ((wrap i64 (v0.1+1)):Int)/\True)/\(rE (0:Int)/\rE (0:Int)/\True)/\rE x0.1/\rE x0.2.1/\rE v1.2/\True) (Sum.inr (Sum.inl (wrap i64 (v0.1+1),v1.2))));let E5:=bV 3 3&&bK 0 3&&decide ((0:Int)<=(0:Int)/\0<(↑(dR E4.l):Int));let E7:=aK E4.l (dM 0) (RK.dflt RK.vmfleetref1Arg);let E8:=decide (4*(v0.2.length+1)<=140737488355328);let T2:Tree ((Int×List Int)⊕(((List Int)×Q1a))):=.cn E5 (.cn (bV 3 3&&bK 0 3&&decide ((0:Int)<=(1:Int)/\1<(↑(dR E4.l):Int))) (.lv (Q1k {Op:=16,A:=E7.reg,B:=(aK E4.l (dM 1) (RK.dflt RK.vmfleetref1Arg)).reg,C:=0,F3:=0}) λ(x4:Int×Bool)=>.cn E8 (.nx ((True/\rZ/\True/\True/\True/\rE ((wrap i64 (v0.1+1)):Int)/\True)/\(rE (0:Int)/\rE (0:Int)/\True)/\rE x0.1/\rE x0.2.1/\rE ((v0.2++[x4.1]):List Int)/\True) (Sum.inl (wrap i64 (v0.1+1),v0.2++[x4.1])))));let T3:Tree ((Int×List Int)⊕(((List Int)×Q1a))):=.lv (Q1k {Op:=16,A:=0,B:=0,C:=0,F3:=0}) λ(x5:Int×Bool)=>.cn E8 (.nx ((True/\rZ/\True/\True/\True/\rE ((wrap i64 (v0.1+1)):Int)/\True)/\(rE (0:Int)/\rE (0:Int)/\True)/\rE x0.1/\rE x0.2.1/\rE ((v0.2++[x5.1]):List Int)/\True) (Sum.inl (wrap i64 (v0.1+1),v0.2++[x5.1])));let E9:=decide (E4.what=[(46:UInt8),115,112,97,99,101]);let E10:=decide (E4.what=[(46:UInt8),119,111,114,100]);let E12:=decide (E4.what=[(110:UInt8),111,112]);let E13:=decide (4*(v0.2.length+2)<=140737488355328);let E14:=decide (E4.what=[(108:UInt8),105]);let E15:=decide (E4.what=[(109:UInt8),118]);.br (decide ((↑(dR E4.l):Int)>(0:Int))) (.cn (bV 3 3&&bK 0 3&&decide (0<=wrap i64 ((↑(dR E4.l):Int)-(1:Int))/\wrap i64 ((↑(dR E4.l):Int)-(1:Int))<(↑(dR E4.l):Int))) (let E6:=aK E4.l (dM (wrap i64 ((↑(dR E4.l):Int)-(1:Int)))) (RK.dflt RK.vmfleetref1Arg);.br (!decide (E6.label=[])) (.an (Q2w x0.1 E6.label) (.lv (Qj5 x0.1 E6.label) λ(x1:Int×Bool)=>.br (!x1.2) (.lf (Sum.inr ([],{Err:=302,Line:=E4.D8}))) (.br (decide (E4.op>0)) (let E11:=wrap i64 (wrap i64 (Int.tdiv (wrap i64 x1.1) 4)-E4.at_);.br E10 (.cn E8 (.nx ((True/\rZ/\True/\True/\True/\rE ((wrap i64 (v0.1+1)):Int)/\True)/\(rE (0:Int)/\rE (0:Int)/\True)/\rE x0.1/\rE x0.2.1/\rE ((v0.2++[wrap u32 (wrap i64 (wrap i64 (Int.tdiv (wrap i64 x1.1) 4)-(x0.2.1.getD v0.1.toNat (RK.dflt RK.vmfleetref1Statement)).at_))]):List Int)/\True) (Sum.inl (wrap i64 (v0.1+1),v0.2++[wrap u32 E11])))) (.br E9 T1 (.br E14 (.cn E5 (.lv (Q1k {Op:=24,A:=E7.reg,B:=0,C:=0,F3:=wrap i32 (ishr u32 (wrap u32 E11) 16)}) λ(x2:Int×Bool)=>.cn E5 (.cn E5 (.lv (Q1k {Op:=18,A:=E7.reg,B:=E7.reg,C:=0,F3:=wrap i32 (iand u32 (wrap u32 E11) 65535)}) λ(x3:Int×Bool)=>.cn E13 (.nx ((True/\rZ/\True/\True/\True/\rE ((wrap i64 (v0.1+1)):Int)/\True)/\(rE (0:Int)/\rE (0:Int)/\True)/\rE x0.1/\rE x0.2.1/\rE ((v0.2++[x2.1,x3.1]):List Int)/\True) (Sum.inl (wrap i64 (v0.1+1),v0.2++[x2.1,x3.1]))))))) (.br E15 T2 (.br E12 T3 (.an (Q87 E4 E11) (.lv (Qk3 E4 E11) λ(x6:Int×Bool)=>.br (!x6.2) (.lf (Sum.inr ([],{Err:=304,Line:=E4.D8}))) (.cn E8 (.nx ((True/\rZ/\True/\True/\True/\rE ((wrap i64 (v0.1+1)):Int)/\True)/\(rE (0:Int)/\rE (0:Int)/\True)/\rE x0.1/\rE x0.2.1/\rE ((v0.2++[x6.1]):List Int)/\True) (Sum.inl (wrap i64 (v0.1+1),v0.2++[x6.1]))))))))))) (.br E10 (.cn E8 (.nx ((True/\rZ/\True/\True/\True/\rE ((wrap i64 (v0.1+1)):Int)/\True)/\(rE (0:Int)/\rE (0:Int)/\True)/\rE x0.1/\rE x0.2.1/\rE ((v0.2++[wrap u32 (wrap i64 x1.1)]):List Int)/\True) (Sum.inl (wrap i64 (v0.1+1),v0.2++[wrap u32 (wrap i64 x1.1)])))) (.br E9 T1 (.br E14 (.cn E5 (.lv (Q1k {Op:=24,A:=E7.reg,B:=0,C:=0,F3:=wrap i32 (ishr u32 (wrap u32 (wrap i64 x1.1)) 16)}) λ(x7:Int×Bool)=>.cn E5 (.cn E5 (.lv (Q1k {Op:=18,A:=E7.reg,B:=E7.reg,C:=0,F3:=wrap i32 (iand u32 (wrap u32 (wrap i64 x1.1)) 65535)}) λ(x8:Int×Bool)=>.cn E13 (.nx ((True/\rZ/\True/\True/\True/\rE ((wrap i64 (v0.1+1)):Int)/\True)/\(rE (0:Int)/\rE (0:Int)/\True)/\rE x0.1/\rE x0.2.1/\rE ((v0.2++[x7.1,x8.1]):List Int)/\True) (Sum.inl (wrap i64 (v0.1+1),v0.2++[x7.1,x8.1]))))))) (.br E15 T2 (.br E12 T3 (.an (Q87 E4 (wrap i64 x1.1)) (.lv (Qk3 E4 (wrap i64 x1.1)) λ(x11:Int×Bool)=>.br (!x11.2) (.lf (Sum.inr ([],{Err:=304,Line:=E4.D8}))) (.cn E8 (.nx ((True/\rZ/\True/\True/\True/\rE ((wrap i64 (v0.1+1)):Int)/\True)/\(rE (0:Int)/\rE (0:Int)/\True)/\rE x0.1/\rE x0.2.1/\rE ((v0.2++[x11.1]):List Int)/\True) (Sum.inl (wrap i64 (v0.1+1),v0.2++[x11.1])))))))))))))) (.br E10 (.cn E8 (.nx ((True/\rZ/\True/\True/\True/\rE ((wrap i64 (v0.1+1)):Int)/\True)/\(rE (0:Int)/\rE (0:Int)/\True)/\rE x0.1/\rE x0.2.1/\rE ((v0.2++[wrap u32 (aK (x0.2.1.getD v0.1.toNat (RK.dflt RK.vmfleetref1Statement)).l (dM (wrap i64 ((↑(dR (x0.2.1.getD v0.1.toNat (RK.dflt RK.vmfleetref1Statement)).l):Int)-(1:Int)))) (RK.dflt RK.vmfleetref1Arg)).num]):List Int)/\True) (Sum.inl (wrap i64 (v0.1+1),v0.2++[wrap u32 E6.num])))) (.br E9 T1 (.br E14 (.cn E5 (.lv (Q1k {Op:=24,A:=E7.reg,B:=0,C:=0,F3:=wrap i32 (ishr u32 (wrap u32 E6.num) 16)}) λ(x12:Int×Bool)=>.cn E5 (.cn E5 (.lv (Q1k {Op:=18,A:=E7.reg,B:=E7.reg,C:=0,F3:=wrap i32 (iand u32 (wrap u32 E6.num) 65535)}) λ(x13:Int×Bool)=>.cn E13 (.nx ((True/\rZ/\True/\True/\True/\rE ((wrap i64 (v0.1+1)):Int)/\True)/\(rE (0:Int)/\rE (0:Int)/\True)/\rE x0.1/\rE x0.2.1/\rE ((v0.2++[x12.1,x13.1]):List Int)/\True) (Sum.inl (wrap i64 (v0.1+1),v0.2++[x12.1,x13.1]))))))) (.br E15 T2 (.br E12 T3 (.an (Q87 E4 E6.num) (.lv (Qk3 E4 E6.num) λ(x16:Int×Bool)=>.br (!x16.2) (.lf (Sum.inr ([],{Err:=304,Line:=E4.D8}))) (.cn E8 (.nx ((True/\rZ/\True/\True/\True/\rE ((wrap i64 (v0.1+1)):Int)/\True)/\(rE (0:Int)/\rE (0:Int)/\True)/\rE x0.1/\rE x0.2.1/\rE ((v0.2++[x16.1]):List Int)/\True) (Sum.inl (wrap i64 (v0.1+1),v0.2++[x16.1]))))))))))))) (.br E10 (.cn E8 (.nx ((True/\rZ/\True/\True/\True/\rE ((wrap i64 (v0.1+1)):Int)/\True)/\(rE (0:Int)/\rE (0:Int)/\True)/\rE x0.1/\rE x0.2.1/\rE ((v0.2++[wrap u32 0]):List Int)/\True) (Sum.inl (wrap i64 (v0.1+1),v0.2++[wrap u32 0])))) (.br E9 T1 (.br E14 (.cn E5 (.lv (Q1k {Op:=24,A:=E7.reg,B:=0,C:=0,F3:=wrap i32 (ishr u32 (wrap u32 0) 16)}) λ(x17:Int×Bool)=>.cn E5 (.cn E5 (.lv (Q1k {Op:=18,A:=E7.reg,B:=E7.reg,C:=0,F3:=wrap i32 (iand u32 (wrap u32 0) 65535)}) λ(x18:Int×Bool)=>.cn E13 (.nx ((True/\rZ/\True/\True/\True/\rE ((wrap i64 (v0.1+1)):Int)/\True)/\(rE (0:Int)/\rE (0:Int)/\True)/\rE x0.1/\rE x0.2.1/\rE ((v0.2++[x17.1,x18.1]):List Int)/\True) (Sum.inl (wrap i64 (v0.1+1),v0.2++[x17.1,x18.1]))))))) (.br E15 T2 (.br E12 T3 (.an (Q87 E4 0) (.lv (Qk3 E4 0) λ(x21:Int×Bool)=>.br (!x21.2) (.lf (Sum.inr ([],{Err:=304,Line:=E4.D8}))) (.cn E8 (.nx ((True/\rZ/\True/\True/\True/\rE ((wrap i64 (v0.1+1)):Int)/\True)/\(rE (0:Int)/\rE (0:Int)/\True)/\rE x0.1/\rE x0.2.1/\rE ((v0.2++[x21.1]):List Int)/\True) (Sum.inl (wrap i64 (v0.1+1),v0.2++[x21.1]))))))))))))) (.lf (Sum.inr (v0.2,{Err:=0,Line:=0})))))
def Qnu src:=(Q7w src).m
abbrev Qbm src:=(Q7w src).p
def Qsk:LInv:={
 α:=(Int)×(List Int)
 F:=λst a=>([(2,(lk st 2)),(3,.ptr 0 0 0),(4,.all 1),(5,.all 2),(7,.all 3),(8,.int i64 a.1)],[⟨true,188,2,.gen [[(cT st 3 0),(cT st 3 1)]]⟩,⟨false,396,2,esOf st.rows (rN st 4)⟩,⟨false,286,6,esOf st.rows (rN st 5)⟩,⟨false,25,1,.ints u32 a.2⟩])
 a0:=λst=>((lk st 8).toInt,(Qfh st.rows (rN st 7)))
 ex0:=λst=>[]++[(rX st 3 0),(rX st 4 1),(rX st 5 2),(rX st 7 3)]}
def Qsu:LInv:={
 α:=(Int)×(List Int)
 F:=λst a=>([(2,(lk st 2)),(3,.ptr 0 0 0),(4,.all 1),(5,.all 2),(7,.all 4),(8,(lk st 8)),(9,.ptr 3 0 0),(14,.int i64 a.1)],[⟨true,188,2,.gen [[(cT st 3 0),(cT st 3 1)]]⟩,⟨false,396,2,esOf st.rows (rN st 4)⟩,⟨false,286,6,esOf st.rows (rN st 5)⟩,⟨true,286,6,.gen [[(cT st 9 0),(cT st 9 1),(cT st 9 2),(cT st 9 3),(cT st 9 4),(cT st 9 5)]]⟩,⟨false,25,1,.ints u32 a.2⟩])
 a0:=λst=>((lk st 14).toInt,(Qfh st.rows (rN st 7)))
 ex0:=λst=>[]++[(rX st 3 0),(rX st 4 1),(rX st 5 2),(rX st 9 3),(rX st 7 4)]}
def Qmr:List (Nat×LInv):=[(6,Qsk),(29,Qsu)]
def Qv7:Q09:=mT 74 [] true [.one (.str)] [] (λa r=>Q7w (argS a 0)) (λX=>.tup [.all 0,.agg (Q1a.cells (X.2))]) (λX=>[⟨false,25,1,.ints .u32 (X.1)⟩])
theorem Qt0:Q05 pG Qv7:=oT (.cons Z4k (.cons Qiw (.cons Qlk (.cons Z6a (.nil))))) Tryz.func74 Tryz.call74 [.row 25 1 (.ints .u32)] Qmr 3
end
noncomputable section
def Qr6(t:Q14):Tree (Q14×Bool):=
.br (!t.F5) (.lf (t,false)) (.lf ({F5:=false,D1:=t.D1,F1:=true},true))
def Z0h t:=(Qr6 t).m
def Z52:Q09:=mS 240 [] true [.agg Q14.sig] [] (λa r=>Qr6 (Q14.of (aC a 0))) (λX=>.tup [.agg (Q14.cells (X.1)),.bool (X.2)]) (λX=>[])
theorem Z27:Q05 pG Z52:=oS (.nil) Tryz.func240 Tryz.call240 [] [] 2
def Q9(c:Q0m)(b:Int):Tree (Q0m×Bool):=
.br (decide ((c.F0.length:Int)>=(16:Int))) (.lf (c,false)) (.cn (decide (c.F0.length+1<=maxLen)) (.lf ({F0:=c.F0++[(λ(n:Int)=>dC n.toNat) b]},true)))
def Qr1 c b:=(Q9 c b).m
abbrev Qcp c b:=(Q9 c b).p
def Qyk:Q09:=mT 241 [] true [.agg Q0m.sig,.one (.int .u8)] [] (λa r=>Q9 (Q0m.of (aC a 0)) (argI a 1)) (λX=>.tup [.agg (Q0m.cells (X.1)),.bool (X.2)]) (λX=>[])
theorem Qu2:Q05 pG Qyk:=oT (.nil) Tryz.func241 Tryz.call241 [] [] 2
def Q7x(d0:Q0l)(m:List Int)(e:Q1x):Tree (Q0l×(List Int)×Bool):=
let T2:Tree ((Q0l×(List Int)×Bool)):=.an (Q08 m) (.lv (Q0b m) λ(x0:List Int)=>.lf (d0,x0,false));.br (d0.D5 !=1) T2 (.br (e.C5 !=4) T2 (.br (decide (e.N>1)) T2 (.an (Q08 m) (.lv (Q0b m) λ(x3:List Int)=>let E3:=({Blocks:=d0.Blocks,C8:=d0.C8,Frame:=d0.Frame,D5:=2,Cmd:=0,C4:=0,C3:=0,D0:=[]}:Q0l);let E4:=({Blocks:=d0.Blocks,C8:=d0.C8,Frame:=d0.Frame,D5:=3,Cmd:=0,C4:=0,C3:=0,D0:=[]}:Q0l);let T1:Tree ((Q0l×(List Int)×Bool)):=.br (!decide (e.F6=[])) (.lf (d0,x3,false)) (.br (e.N==1) (.lf (E3,x3,true)) (.lf (E4,x3,true)));.br (e.N==1) (.br (d0.Cmd==1) (.lv (Qly m d0.C3) λ(x4:Bool)=>.br (!x4) (.lf (d0,x3,false)) (.an (Q4l m (wrap i64 d0.C3) e.F6) (.lv (Qbq m (wrap i64 d0.C3) e.F6) λ(x5:List Int×Bool)=>.br (!x5.2) (.lf (d0,x5.1,false)) (.br (e.N==1) (.lf (E3,x5.1,true)) (.lf (E4,x5.1,true)))))) T1) T1))))
def Qna d0 m e:=(Q7x d0 m e).m
abbrev Qb9 d0 m e:=(Q7x d0 m e).p
def Quw:Q09:=mT 242 [] true [.agg Q0l.sig,.one (.ints .u32),.agg Q1x.sig] [] (λa r=>Q7x (Q0l.of (aC a 0)) (argL .u32 a 1) (Q1x.of (aC a 2))) (λX=>.tup [.agg (Q0l.cells (X.1)),.all 0,.bool (X.2.2)]) (λX=>[⟨false,25,1,.ints .u32 (X.2.1)⟩])
theorem Qs7:Q05 pG Quw:=oT (.cons Q0s (.cons Qlv (.cons Qb2 (.nil)))) Tryz.func242 Tryz.call242 [.row 25 1 (.ints .u32)] [] 2
def Qaq(n:Q1f)(m:List Int)(frame:List UInt8):Tree (Q1f×(List Int)×Bool):=
let T1:Tree ((Q1f×(List Int)×Bool)):=.an (Q08 m) (.lv (Q0b m) λ(x0:List Int)=>.lf (n,x0,false));.br (!n.D4) T1 (.br (decide ((frame.length:Int)<(1:Int))) T1 (.br (decide ((frame.length:Int)>(128:Int))) T1 (.lv (Qkr m n.D2) λ(x3:Bool)=>.br (!x3) T1 (.an (Q79 m (wrap i64 n.D2)) (.lv (Qhw m (wrap i64 n.D2)) λ(x5:List UInt8×Bool)=>.cn (decide (0<=(frame.length:Int)/\(frame.length:Int)<=(x5.1.length:Int)/\(x5.1.length:Int)<=(x5.1.length:Int))) (let E2:=dM (x5.1.length:Int)-dM (frame.length:Int);let E3:=dV (dM (frame.length:Int)) x5.1;.cn (decide (frame.length+dR (dU E2 E3)<=maxLen)) (.an (Q4l m (wrap i64 n.D2) (frame++dU E2 E3)) (.lv (Qbq m (wrap i64 n.D2) (frame++dU E2 E3)) λ(x6:List Int×Bool)=>.lf ({Frame:=n.Frame,Len:=n.Len,D4:=false,D2:=0,C2:=true,Got:=wrap u32 (frame.length:Int)},x6.1,true)))))))))
def Qw3 n m frame:=(Qaq n m frame).m
abbrev Qds n m frame:=(Qaq n m frame).p
def Z35:Q09:=mT 243 [] true [.agg Q1f.sig,.one (.ints .u32),.one (.str)] [] (λa r=>Qaq (Q1f.of (aC a 0)) (argL .u32 a 1) (argS a 2)) (λX=>.tup [.agg (Q1f.cells (X.1)),.all 0,.bool (X.2.2)]) (λX=>[⟨false,25,1,.ints .u32 (X.2.1)⟩])
theorem Qyf:Q05 pG Z35:=oT (.cons Qhl (.cons Q0s (.cons Qg6 (.cons Qb2 (.nil))))) Tryz.func243 Tryz.call243 [.row 25 1 (.ints .u32)] [] 2
def Q7u(m:Q00)(e:Q1x):Tree (Q00×Bool):=
.an (Q08 m.Mem) (.lv (Q0b m.Mem) λ(x0:List Int)=>let E2:=({A7:=m.A7,Mem:=x0,B0:=m.B0,B7:=m.B7,B5:=m.B5,D6:=m.D6,A6:=m.A6,B6:=m.B6,B2:=m.B2,B4:=m.B4}:Q00);.an (Q5f E2) (.lv (Qe5 E2) λ(x1:Bool)=>let T1:Tree ((Q00×Bool)):=.lf (E2,false);.br (!x1) T1 (.br m.B4 T1 (.br (e.C5==2) (.br (e.N==0) (.br (decide (e.F6=[])) (.lv (Z0h m.B7) λ(x2:Q14×Bool)=>.lf ({A7:=m.A7,Mem:=x0,B0:=m.B0,B7:=x2.1,B5:=m.B5,D6:=m.D6,A6:=m.A6,B6:=m.B6,B2:=m.B2,B4:=m.B4},x2.2)) T1) T1) (.br (e.C5==3) (.br (decide (e.N<=255)) (.br (decide (e.F6=[])) (.an (Qcp m.B0 (wrap u8 e.N)) (.lv (Qr1 m.B0 (wrap u8 e.N)) λ(x3:Q0m×Bool)=>.lf ({A7:=m.A7,Mem:=x0,B0:=x3.1,B7:=m.B7,B5:=m.B5,D6:=m.D6,A6:=m.A6,B6:=m.B6,B2:=m.B2,B4:=m.B4},x3.2))) T1) T1) (.br (e.C5==4) (.an (Qb9 m.B5 x0 e) (.lv (Qna m.B5 x0 e) λ(x4:Q0l×List Int×Bool)=>.lf ({A7:=m.A7,Mem:=x4.2.1,B0:=m.B0,B7:=m.B7,B5:=x4.1,D6:=m.D6,A6:=m.A6,B6:=m.B6,B2:=m.B2,B4:=m.B4},x4.2.2))) (.br (e.C5==5) (.br (e.N==0) (.an (Qds m.D6 x0 e.F6) (.lv (Qw3 m.D6 x0 e.F6) λ(x5:Q1f×List Int×Bool)=>.lf ({A7:=m.A7,Mem:=x5.2.1,B0:=m.B0,B7:=m.B7,B5:=m.B5,D6:=x5.1,A6:=m.A6,B6:=m.B6,B2:=m.B2,B4:=m.B4},x5.2.2))) T1) (.br (e.C5==6) (.br (decide (e.F6=[])) (.lf ({A7:=m.A7,Mem:=x0,B0:=m.B0,B7:=m.B7,B5:=m.B5,D6:=m.D6,A6:={D9:=e.N,E0:=m.A6.E0},B6:=m.B6,B2:=m.B2,B4:=m.B4},true)) T1) T1))))))))
def Qnn m e:=(Q7u m e).m
abbrev Qb7 m e:=(Q7u m e).p
def Qxi:Q09:=mT 142 [] true [.agg Q00.sig,.agg Q1x.sig] [] (λa r=>Q7u (Q00.of (aC a 0)) (Q1x.of (aC a 1))) (λX=>.tup [.agg (Q00.cellsW (X.1) (.all 0)),.bool (X.2)]) (λX=>[⟨false,25,1,.ints .u32 (X.1).Mem⟩])
theorem Qst:Q05 pG Qxi:=oT (.cons Q0s (.cons Qbs (.cons Z27 (.cons Qu2 (.cons Qs7 (.cons Qyf (.nil))))))) Tryz.func142 Tryz.call142 [.row 25 1 (.ints .u32)] [] 2
end
noncomputable section
instance sumInhRb {α β:Type} [Inhabited β]:Inhabited (α⊕β):=⟨.inr default⟩
def Qga(script:List Q1s)(z:(Int)):Prop:=1<=z/\(z<=script.length\/z=1)
def Qaj(script:List Q1s)(z:(Int)):Nat:=(script.length-z).toNat
def Qbp(script:List Q1s):Tree Bool:=
.lp inferInstance (Qaj script 1+1) ((nR RK.apiEntry 4 script/\rE (1:Int)/\True)/\True) 1 λ(v0:Int)=>.br (decide (v0<(script.length:Int))) (.cn (bV 4 4&&bK 0 4&&decide (0<=wrap i64 (v0-1)/\wrap i64 (v0-1)<(script.length:Int))) (.cn (bV 4 4&&bK 0 4&&decide (0<=v0/\v0<(script.length:Int))) (let E2:=script.getD (dM (wrap i64 (v0-1))) (RK.dflt RK.apiEntry);let E3:=script.getD v0.toNat (RK.dflt RK.apiEntry);.br (decide (E3.At<E2.At)) (.lf (Sum.inr false)) (let T1:Tree ((Int)⊕(Bool)):=.nx ((nR RK.apiEntry 4 script/\rE ((wrap i64 (v0+1)):Int)/\True)/\True) (Sum.inl (wrap i64 (v0+1)));.br (E3.At==E2.At) (.br (E2.Event.C5==1) (.lf (Sum.inr false)) T1) T1)))) (.lf (Sum.inr true))
def Qr5 script:=(Qbp script).m
def Q3k(script:List Q1s):Prop:=
script.length<=1000000000000
theorem Qs6(script:List Q1s)(hw:Q3k script):(Qbp script).p:=by
 simp only[Q3k]at hw
 unfold Tree.p Qbp
 repeat'(first|refine w_lp (inv:=Qga script) (μ:=Qaj script) ?_ (dQ _) (λ_ _=>?_)|exact trivial|refine w_br (λ_=>?_) (λ_=>?_)|refine w_cn ?_ ?_|refine w_an ?_ ?_|refine w_lv (λ_ _=>?_)|refine w_nx ?_|refine w_lf ?_|refine And.intro ?_ ?_)
 all_goals((try simp only[Qga,Qaj]at*);exact fin0)
def Qtu:LInv:={
 α:=(Int)
 F:=λst a=>([(0,(lk st 0)),(3,.int i64 a)],[])
 a0:=λst=>(lk st 3).toInt
 ex0:=λst=>[]++[]}
def Qpn:List (Nat×LInv):=[(2,Qtu)]
def Qyb:Q09:=mkP 239 [] true [.one (.recs .apiEntry)] [] (λa r=>Q3k (argR .apiEntry a 0)) (λa r=>Qr5 (argR .apiEntry a 0)) (λX=>.bool X) (λX=>[])
theorem Qwd:Q05 pG Qyb:=Q0o drawn Q0k (.nil) Tryz.func239 Tryz.call239 (λa r=>Qbp (argR .apiEntry a 0)) [] Qpn 3 (hp:=λa r h=>Qs6 (argR .apiEntry a 0) h)
def Qtg(m:Q00)(script:List Q1s)(until0:Int)(z:(Int)):Nat:=(script.length-z).toNat
def Qcc(m:Q00)(script:List Q1s)(until0:Int):Tree Int:=
.an (Q5f m) (.lv (Qe5 m) λ(x0:Bool)=>.br (!x0) (.lf 1300) (.br (decide (until0<m.B6)) (.lf 1300) (.br (decide (wrap u64 (until0-m.B6)>4000)) (.lf 1300) (.br (decide ((script.length:Int)>(400:Int))) (.lf 1300) (.an (Q3k script) (.lv (Qr5 script) λ(x1:Bool)=>.br (!x1) (.lf 1301) (.lp inferInstance (Qtg m script until0 0+1) ((rZ/\nR RK.apiEntry 4 script/\rE ((script.length:Int):Int)/\rE (0:Int)/\True)/\(mE m (((Els.Nil (Els.ints u32 m.Mem)\/rE (1:Nat))/\rE m.Mem)) True)/\True) 0 λ(v0:Int)=>.br (decide (v0<(script.length:Int))) (.cn (bV 4 4&&bK 0 4&&decide (0<=v0/\v0<(script.length:Int))) (.br (decide ((script.getD v0.toNat (RK.dflt RK.apiEntry)).At<m.B6)) (.lf (Sum.inr 1301)) (.nx ((rZ/\nR RK.apiEntry 4 script/\rE ((script.length:Int):Int)/\rE ((wrap i64 (v0+1)):Int)/\True)/\(mE m (((Els.Nil (Els.ints u32 m.Mem)\/rE (1:Nat))/\rE m.Mem)) True)/\True) (Sum.inl (wrap i64 (v0+1)))))) (.lf (Sum.inr 0)))))))))
def Z0d m script until0:=(Qcc m script until0).m
abbrev Qg7 m script until0:=(Qcc m script until0).p
def Z2a:LInv:={
 α:=(Int)
 F:=λst a=>([(3,.ptr 0 0 0),(33,(lk st 33)),(34,(lk st 34)),(35,.int i64 a)],[⟨true,43,49,.gen [mB (cT st 3)]⟩])
 a0:=λst=>(lk st 35).toInt
 ex0:=λst=>[]++[(rX st 3 0)]}
def Qup:List (Nat×LInv):=[(6,Z2a)]
def Z4w:Q09:=mT 141 [] true [.agg Q00.sig,.one (.recs .apiEntry),.one (.int .u64)] [] (λa r=>Qcc (Q00.of (aC a 0)) (argR .apiEntry a 1) (argI a 2)) (λX=>.int .i64 X) (λX=>[])
theorem Z22:Q05 pG Z4w:=oT (.cons Qbs (.cons Qwd (.nil))) Tryz.func141 Tryz.call141 [] Qup 3
def Qyu(m:Q00)(script:List Q1s)(until0:Int)(z:(Int)×Q00×(List Q0n)):Nat:=(until0-z.2.1.B6).toNat
def Qxl(m:Q00)(script:List Q1s)(until0:Int)(v0:Int×Q00×List Q0n)(z:(Int)×Q00):Nat:=(script.length-z.1).toNat
def Qgb(m:Q00)(script:List Q1s)(until0:Int):Tree (Q00×(List Q0n)×Int×Int):=
.an (Qg7 m script until0) (.lv (Z0d m script until0) λ(x0:Int)=>let E4:=({A7:={X:={a0:=0,a1:=0,a2:=0,a3:=0,a4:=0,a5:=0,a6:=0,a7:=0,a8:=0,a9:=0,a10:=0,a11:=0,a12:=0,a13:=0,a14:=0,a15:=0},Pc:=0,C6:={a0:=0,a1:=0,a2:=0,a3:=0,a4:=0,a5:=0,a6:=0,a7:=0}},Mem:=[],B0:={F0:=[]},B7:={F5:=false,D1:=0,F1:=false},B5:={Blocks:=0,C8:=0,Frame:=0,D5:=0,Cmd:=0,C4:=0,C3:=0,D0:=[]},D6:={Frame:=0,Len:=0,D4:=false,D2:=0,C2:=false,Got:=0},A6:={D9:=0,E0:=0},B6:=0,B2:=false,B4:=false}:Q00);.br (x0 !=0) (.lf (E4,[],0,x0)) (.an (Q08 m.Mem) (.lv (Q0b m.Mem) λ(x1:List Int)=>let E7:=({A7:=m.A7,Mem:=x1,B0:=m.B0,B7:=m.B7,B5:=m.B5,D6:=m.D6,A6:=m.A6,B6:=m.B6,B2:=m.B2,B4:=m.B4}:Q00);.lp inferInstance (Qyu m script until0 (0,E7,[])+1) ((nR RK.apiEntry 4 script/\rE (until0:Int)/\rZ/\rZ/\True/\rE (0:Int)/\rE (0:Int)/\True)/\(mE m (rE (x1:List Int)) True)/\(mE zM True True)/\rE ([]:List (RK.T RK.apiOutput))/\True) (0,E7,[]) λ(v0:Int×Q00×List Q0n)=>.br (decide (v0.2.1.B6<until0)) (.br (decide (v0.2.1.B6<1152921504606846976)) (.lp inferInstance (Qxl m script until0 v0 (v0.1,v0.2.1)+1) ((nR RK.apiEntry 4 script/\rE (until0:Int)/\rZ/\rZ/\True/\rE (0:Int)/\rE v0.1/\(rE (0:Nat)/\rE (46:Nat))/\rE v0.2.1.B6/\rE ((decide (v0.2.1.B6<1152921504606846976)):Bool)/\True)/\(mE v0.2.1 (((Els.Nil (Els.ints u32 v0.2.1.Mem)\/eqAt Nat 1 1)/\rE v0.2.1.Mem)) True)/\(mE zM True True)/\rE v0.2.2/\True) (v0.1,v0.2.1) λ(v1:Int×Q00)=>let E5:=bV 4 4&&bK 0 4&&decide (0<=v1.1/\v1.1<(script.length:Int));let E6:=script.getD v1.1.toNat (RK.dflt RK.apiEntry);let E8:=decide (v1.1<(script.length:Int));let T1:Tree ((Int×Q00)⊕((Int×Q00×List Q0n)⊕((Q00×(List Q0n)×Int×Int)))):=.br v1.2.B4 (.lf (Sum.inr (Sum.inr (v1.2,v0.2.2,v1.1,0)))) (.an (Q9g v1.2) (.lv (Qjy v1.2) λ(x3:Bool)=>.br x3 (.br E8 (.lf (Sum.inr (Sum.inr (E4,[],0,1303)))) (.lf (Sum.inr (Sum.inr (v1.2,v0.2.2,v1.1,0))))) (let T2:Tree ((Int×Q00)⊕((Int×Q00×List Q0n)⊕((Q00×(List Q0n)×Int×Int)))):=.an (Q9j v1.2 0) (.lv (Qjk v1.2 0) λ(x6:Q00×List Q0n)=>.cn (decide (40*(v0.2.2.length+x6.2.length)<=140737488355328)) (.nx ((nR RK.apiEntry 4 script/\rE (until0:Int)/\rZ/\rZ/\True/\rE (0:Int)/\rE v1.1/\True)/\(mE x6.1 (((Els.Nil (Els.ints u32 x6.1.Mem)\/eqAt Nat 1 1)/\rE x6.1.Mem)) True)/\(mE zM True True)/\rE ((v0.2.2++x6.2):List (RK.T RK.apiOutput))/\True) (Sum.inr (Sum.inl (v1.1,x6.1,v0.2.2++x6.2)))));let T3:Tree ((Int×Q00)⊕((Int×Q00×List Q0n)⊕((Q00×(List Q0n)×Int×Int)))):=.lf (Sum.inr (Sum.inr (E4,[],0,1302)));.br E8 (.cn E5 (.an (Q4a v1.2) (.lv (Qav v1.2) λ(x4:Bool)=>.br (!x4==(E6.At==v1.2.B6)) T3 (.br (E6.At==v1.2.B6) (.cn E5 (.an (Q9j v1.2 E6.Event.N) (.lv (Qjk v1.2 E6.Event.N) λ(x5:Q00×List Q0n)=>.cn (decide (40*(v0.2.2.length+x5.2.length)<=140737488355328)) (.nx ((nR RK.apiEntry 4 script/\rE (until0:Int)/\rZ/\rZ/\True/\rE (0:Int)/\rE ((wrap i64 (v1.1+1)):Int)/\True)/\(mE x5.1 (((Els.Nil (Els.ints u32 x5.1.Mem)\/eqAt Nat 1 1)/\rE x5.1.Mem)) True)/\(mE zM True True)/\rE ((v0.2.2++x5.2):List (RK.T RK.apiOutput))/\True) (Sum.inr (Sum.inl (wrap i64 (v1.1+1),x5.1,v0.2.2++x5.2))))))) T2)))) (.an (Q4a v1.2) (.lv (Qav v1.2) λ(x7:Bool)=>.br (!x7==false) T3 T2)))));.br E8 (.cn E5 (.br (E6.At==v1.2.B6) (.cn E5 (.br (E6.Event.C5 !=1) (.cn E5 (.an (Qb7 v1.2 E6.Event) (.lv (Qnn v1.2 E6.Event) λ(x2:Q00×Bool)=>.nx ((nR RK.apiEntry 4 script/\rE (until0:Int)/\rZ/\rZ/\True/\rE (0:Int)/\rE ((wrap i64 (v1.1+1)):Int)/\(rE (0:Nat)/\rE (46:Nat))/\rE v0.2.1.B6/\rE ((decide (v0.2.1.B6<1152921504606846976)):Bool)/\True)/\(mE x2.1 (rE x2.1.Mem) True)/\(mE zM True True)/\rE v0.2.2/\True) (Sum.inl (wrap i64 (v1.1+1),x2.1))))) T1)) T1)) T1) (.lf (Sum.inr (v0.2.1,v0.2.2,v0.1,0)))) (.lf (Sum.inr (v0.2.1,v0.2.2,v0.1,0))))))
def Z8v m script until0:=(Qgb m script until0).m
abbrev Qjb m script until0:=(Qgb m script until0).p
def Z8b:LInv:={
 α:=(Int)×Q00×(List Q0n)
 F:=λst a=>([(1,(lk st 1)),(2,(lk st 2)),(3,.ptr 0 0 0),(6,.ptr 1 0 0),(11,.all 2),(12,(lk st 12)),(13,.int i64 a.1)],[⟨true,43,49,.gen [mD a.2.1 (.sl 1 (.ints u32 a.2.1.Mem) false)]⟩,⟨true,43,49,.gen [mB (cT st 6)]⟩,⟨false,71,4,.recs RK.apiOutput a.2.2⟩])
 a0:=λst=>((lk st 13).toInt,(mR (cT st 3) (frzI u32 st.rows (cT st 3 25))),(Q55 RK.apiOutput st.rows (rN st 11)))
 ex0:=λst=>[]++[(rX st 3 0),(rX st 6 1),(rX st 11 2)]}
def Z7m:LInv:={
 α:=(Int)×Q00
 F:=λst a=>([(1,(lk st 1)),(2,(lk st 2)),(3,.ptr 0 0 0),(6,.ptr 1 0 0),(11,.all 2),(12,(lk st 12)),(13,.int i64 a.1),(34,.ptr 0 0 46),(35,(lk st 35)),(36,(lk st 36))],[⟨true,43,49,.gen [mD a.2 (.sl 1 (.ints u32 a.2.Mem) false)]⟩,⟨true,43,49,.gen [mB (cT st 6)]⟩,⟨false,71,4,esOf st.rows (rN st 11)⟩])
 a0:=λst=>((lk st 13).toInt,(mR (cT st 3) (frzI u32 st.rows (cT st 3 25))))
 ex0:=λst=>[]++[(rX st 3 0),(rX st 6 1),(rX st 11 2)]}
def Z3a:List (Nat×LInv):=[(8,Z8b),(9,Z7m)]
def Zbw:Q09:=Q09.fz<|mkP 52 [] false [.agg Q00.sig,.one (.recs .apiEntry),.one (.int .u64)] [] (λa r=>Qjb (Q00.of (aC a 0)) (argR .apiEntry a 1) (argI a 2)) (λa r=>Z8v (Q00.of (aC a 0)) (argR .apiEntry a 1) (argI a 2)) (λX=>.tup [.agg (Q00.cells (X.1)),.all 0,.int .i64 (X.2.2.1),.int .i64 (X.2.2.2)]) (λX=>[⟨false,71,4,.recs .apiOutput (X.2.1)⟩])
theorem Z7h:Q05 pG Zbw:=fz_ok<|Q0o drawn Q0k (.cons Z22 (.cons Q0s (.cons Qst (.cons Qj4 (.cons Qiu (.cons Qug (.nil))))))) Tryz.func52 Tryz.call52 (λa r=>Qgb (Q00.of (aC a 0)) (argR .apiEntry a 1) (argI a 2)) [.sl (.ints .u32) false,.row 71 4 (.recs .apiOutput)] Z3a 3 (λ_ _ _=>by kernel_rfl) (λ_ _=>rfl) (λ_ _ h=>h) (λh=>by cases h)
end
noncomputable section
def tblRw0:List UInt8:=[(108:UInt8),111,111,112,58,32,105,110,32,114,49,44,32,49,10,98,101,113,32,114,49,44,32,114,48,44,32,108,111,111,112,10,105,110,32,114,50,44,32,48,10,111,117,116,32,114,50,44,32,48,10,106,97,108,32,114,48,44,32,108,111,111,112,10]
instance sumInhRw {α β:Type} [Inhabited β]:Inhabited (α⊕β):=⟨.inr default⟩
def Qe8:Tree Q00:=
.an (Qbm tblRw0) (.lv (Qnu tblRw0) λ(x0:List Int×Q1a)=>.an (Qjf 1 0 x0.1) (.lv (Z9v 1 0 x0.1) λ(x1:Q00×Bool)=>.lf x1.1))
def Z5t:Q00:=(Qe8).m
abbrev Qhm:Prop:=(Qe8).p
def Z74:Q09:=mT 53 [] true [] [] (λa r=>Qe8) (λX=>.agg (Q00.cellsW X (.all 0))) (λX=>[⟨false,25,1,.ints .u32 X.Mem⟩])
theorem Z4a:Q05 pG Z74:=oT (.cons Qt0 (.cons Z81 (.nil))) Tryz.func53 Tryz.call53 [.row 25 1 (.ints .u32)] [] 2
def Q9q:Tree Bool:=
.an Qhm (.lv Z5t λ(x0:Q00)=>.an (Qjb x0 [{At:=2,Event:={C5:=3,N:=65,F6:=[]}}] 20) (.lv (Z8v x0 [{At:=2,Event:={C5:=3,N:=65,F6:=[]}}] 20) λ(x1:Q00×List Q0n×Int×Int)=>.br (x1.2.2.2==0) (.br (x1.1.B6==20) (.an (Q5f x1.1) (.lv (Qe5 x1.1) λ(x2:Bool)=>.lf x2)) (.lf false)) (.lf false)))
def Qa5:Bool:=(Q9q).m
abbrev Q3r:Prop:=(Q9q).p
def Z71:Q09:=mT 8 [] true [] [] (λa r=>Q9q) (λX=>.bool X) (λX=>[])
theorem Z6b:Q05 pG Z71:=oT (.cons Z7h (.cons Z4a (.cons Qbs (.nil)))) Tryz.func8 Tryz.call8 [] [] 2
end
noncomputable section
instance sumInhJa {α β:Type} [Inhabited β]:Inhabited (α⊕β):=⟨.inr default⟩
def Qlt(h0:Int)(s:List UInt8)(z:(Int)×(Int)):Prop:=0<=z.2/\z.2<=s.length
def Qdp(h0:Int)(s:List UInt8)(z:(Int)×(Int)):Nat:=(s.length-z.2).toNat
def Qhf(h0:Int)(s:List UInt8):Tree Int:=
.lp inferInstance (Qdp h0 s (h0,0)+1) ((rE (h0:Int)/\rE (s:List UInt8)/\rE ((s.length:Int):Int)/\rE (0:Int)/\True)/\True) (h0,0) λ(v0:Int×Int)=>.br (decide (v0.2<(s.length:Int))) (.cn (decide (0<=v0.2/\v0.2<(s.length:Int))) (.nx ((rE ((wrap u64 (ixor u64 v0.1 (wrap u64 (↑(iC (s.getD v0.2.toNat (0:UInt8))):Int))*1099511628211)):Int)/\rE (s:List UInt8)/\rE ((s.length:Int):Int)/\rE ((wrap i64 (v0.2+1)):Int)/\True)/\True) (Sum.inl (wrap u64 (ixor u64 v0.1 (wrap u64 (↑(iC (s.getD v0.2.toNat (0:UInt8))):Int))*1099511628211),wrap i64 (v0.2+1))))) (.lf (Sum.inr v0.1))
def Z41 h0 s:=(Qhf h0 s).m
def Qd9(h0:Int)(s:List UInt8):Prop:=
s.length<=1000000000000
theorem Z1n(h0:Int)(s:List UInt8)(hw:Qd9 h0 s):(Qhf h0 s).p:=by
 simp only[Qd9]at hw
 unfold Tree.p Qhf
 repeat'(first|refine w_lp (inv:=Qlt h0 s) (μ:=Qdp h0 s) ?_ (dQ _) (λ_ _=>?_)|exact trivial|refine w_br (λ_=>?_) (λ_=>?_)|refine w_cn ?_ ?_|refine w_an ?_ ?_|refine w_lv (λ_ _=>?_)|refine w_nx ?_|refine w_lf ?_|refine And.intro ?_ ?_)
 all_goals((try simp only[Qlt,Qdp]at*);exact fin0)
def Z58:LInv:={
 α:=(Int)×(Int)
 F:=λst a=>([(0,.int u64 a.1),(1,(lk st 1)),(7,(lk st 7)),(8,.int i64 a.2)],[])
 a0:=λst=>((lk st 0).toInt,(lk st 8).toInt)
 ex0:=λst=>[]++[]}
def Qxr:List (Nat×LInv):=[(2,Z58)]
def Z7u:Q09:=mkP 272 [] true [.one (.int .u64),.one (.str)] [] (λa r=>Qd9 (argI a 0) (argS a 1)) (λa r=>Z41 (argI a 0) (argS a 1)) (λX=>.int .u64 X) (λX=>[])
theorem Z4x:Q05 pG Z7u:=Q0o drawn Q0k (.nil) Tryz.func272 Tryz.call272 (λa r=>Qhf (argI a 0) (argS a 1)) [] Qxr 3 (hp:=λa r h=>Z1n (argI a 0) (argS a 1) h)
def Qce(x:Int)(z:(Int)×(List Int)):Nat:=z.1.toNat
def Q3z(x:Int):Tree (List UInt8):=
.lp inferInstance (Qce x (x,[])+1) ((rE (x:Int)/\True/\True)/\rE ([]:List Int)/\True) (x,[]) λ(v0:Int×List Int)=>let E1:=decide (1*(v0.2.length+1)<=140737488355328);.br (decide (v0.1>=128)) (.cn E1 (.nx ((rE ((ishr u64 v0.1 7):Int)/\True/\True)/\rE ((v0.2++[ior u8 (wrap u8 v0.1) 128]):List Int)/\True) (Sum.inl (ishr u64 v0.1 7,v0.2++[ior u8 (wrap u8 v0.1) 128])))) (.cn E1 (.lf (Sum.inr (bytesOf (v0.2++[wrap u8 v0.1])))))
def Q5m x:=(Q3z x).m
abbrev Q2z x:=(Q3z x).p
def Qns:LInv:={
 α:=(Int)×(List Int)
 F:=λst a=>([(0,.int u64 a.1),(3,.all 0)],[⟨false,5,1,.ints u8 a.2⟩])
 a0:=λst=>((lk st 0).toInt,(Qfh st.rows (rN st 3)))
 ex0:=λst=>[]++[(rX st 3 0)]}
def Qky:List (Nat×LInv):=[(2,Qns)]
def Qpg:Q09:=mT 78 [] true [.one (.int .u64)] [] (λa r=>Q3z (argI a 0)) (λX=>.str X) (λX=>[])
theorem Q71:Q05 pG Qpg:=oT (.nil) Tryz.func78 Tryz.call78 [] Qky 3
def Q4r(s:List UInt8)(z:(Int)×(Int)):Nat:=(10-z.2).toNat
def Q51(s:List UInt8):Tree (Int×Int×Bool):=
.lp inferInstance (Q4r s (0,0)+1) ((rE (s:List UInt8)/\rE (0:Int)/\rE ((if 10<(s.length:Int)then 10 else(s.length:Int)):Int)/\rE (0:Int)/\True)/\True) (0,0) λ(v0:Int×Int)=>.br (decide (v0.2<if 10<(s.length:Int)then 10 else(s.length:Int))) (.cn (decide (0<=v0.2/\v0.2<(s.length:Int))) (let E3:=(↑(iC (s.getD v0.2.toNat (0:UInt8))):Int);let T1:Tree ((Int×Int)⊕((Int×Int×Bool))):=.cn (decide (0<=wrap u64 (wrap i64 (7*v0.2)))) (let E4:=ishl u64 (wrap u64 (iand u8 E3 127)) (wrap u64 (wrap i64 (7*v0.2)));.br (decide (E3>=(128:Int))) (.nx ((rE (s:List UInt8)/\rE ((ior u64 v0.1 (ishl u64 (wrap u64 (iand u8 (↑(iC (s.getD v0.2.toNat (0:UInt8))):Int) 127)) (wrap u64 (wrap i64 (7*v0.2))))):Int)/\rE ((if 10<(s.length:Int)then 10 else(s.length:Int)):Int)/\rE ((wrap i64 (v0.2+1)):Int)/\True)/\True) (Sum.inl (ior u64 v0.1 E4,wrap i64 (v0.2+1)))) (let T2:Tree ((Int×Int)⊕((Int×Int×Bool))):=.lf (Sum.inr (ior u64 v0.1 E4,wrap i64 (v0.2+1),true));.br (E3==(0:Int)) (.br (decide (v0.2>0)) (.lf (Sum.inr (0,0,false))) T2) T2));.br (v0.2==9) (.br (decide (E3>(1:Int))) (.lf (Sum.inr (0,0,false))) T1) T1)) (.lf (Sum.inr (0,0,false)))
def Qk7 s:=(Q51 s).m
abbrev Qch s:=(Q51 s).p
def Qum:LInv:={
 α:=(Int)×(Int)
 F:=λst a=>([(0,(lk st 0)),(5,.int u64 a.1),(10,(lk st 10)),(11,.int i64 a.2)],[])
 a0:=λst=>((lk st 5).toInt,(lk st 11).toInt)
 ex0:=λst=>[]++[]}
def Qqk:List (Nat×LInv):=[(3,Qum)]
def Qy1:Q09:=mT 80 [] true [.one (.str)] [] (λa r=>Q51 (argS a 0)) (λX=>.tup [.int .u64 (X.1),.int .i64 (X.2.1),.bool (X.2.2)]) (λX=>[])
theorem Qiv:Q05 pG Qy1:=oT (.nil) Tryz.func80 Tryz.call80 [] Qqk 3
def Qff(s:List UInt8)(z:(Int)×(A8 Int)):Nat:=(8-z.1).toNat
def Q9a(s:List UInt8):Tree (List UInt8):=
.an (Qd9 14695981039346656037 s) (.lv (Z41 14695981039346656037 s) λ(x0:Int)=>.lp inferInstance (Qff s (0,{a0:=0,a1:=0,a2:=0,a3:=0,a4:=0,a5:=0,a6:=0,a7:=0})+1) ((rE (x0:Int)/\rZ/\rE (0:Int)/\True)/\(rE (0:Int)/\rE (0:Int)/\rE (0:Int)/\rE (0:Int)/\rE (0:Int)/\rE (0:Int)/\rE (0:Int)/\rE (0:Int)/\True)/\True) (0,{a0:=0,a1:=0,a2:=0,a3:=0,a4:=0,a5:=0,a6:=0,a7:=0}) λ(v0:Int×A8 Int)=>.br (decide (v0.1<8)) (.cn (decide (0<=wrap i64 (8*wrap i64 (7-v0.1)))) (.cn (bK 0 1&&decide (0<=v0.1/\v0.1<(↑8:Int))) (.nx ((rE (x0:Int)/\rZ/\rE ((wrap i64 (v0.1+1)):Int)/\True)/\(eqAt Int (aK (fF [v0.2.a0,v0.2.a1,v0.2.a2,v0.2.a3,v0.2.a4,v0.2.a5,v0.2.a6,v0.2.a7] v0.1.toNat (wrap u8 (ishr u64 x0 (wrap i64 (8*wrap i64 (7-v0.1)))))) 0 0) (A8.of 0 (fF (A8.l v0.2) v0.1.toNat (wrap u8 (ishr u64 x0 (wrap i64 (8*wrap i64 (7-v0.1))))))).a0/\eqAt Int (aK (fF [v0.2.a0,v0.2.a1,v0.2.a2,v0.2.a3,v0.2.a4,v0.2.a5,v0.2.a6,v0.2.a7] v0.1.toNat (wrap u8 (ishr u64 x0 (wrap i64 (8*wrap i64 (7-v0.1)))))) ((0:Nat)+(1:Nat)) 0) (A8.of 0 (fF (A8.l v0.2) v0.1.toNat (wrap u8 (ishr u64 x0 (wrap i64 (8*wrap i64 (7-v0.1))))))).a1/\eqAt Int (aK (fF [v0.2.a0,v0.2.a1,v0.2.a2,v0.2.a3,v0.2.a4,v0.2.a5,v0.2.a6,v0.2.a7] v0.1.toNat (wrap u8 (ishr u64 x0 (wrap i64 (8*wrap i64 (7-v0.1)))))) ((0:Nat)+(1:Nat)+(1:Nat)) 0) (A8.of 0 (fF (A8.l v0.2) v0.1.toNat (wrap u8 (ishr u64 x0 (wrap i64 (8*wrap i64 (7-v0.1))))))).a2/\eqAt Int (aK (fF [v0.2.a0,v0.2.a1,v0.2.a2,v0.2.a3,v0.2.a4,v0.2.a5,v0.2.a6,v0.2.a7] v0.1.toNat (wrap u8 (ishr u64 x0 (wrap i64 (8*wrap i64 (7-v0.1)))))) ((0:Nat)+(1:Nat)+(1:Nat)+(1:Nat)) 0) (A8.of 0 (fF (A8.l v0.2) v0.1.toNat (wrap u8 (ishr u64 x0 (wrap i64 (8*wrap i64 (7-v0.1))))))).a3/\eqAt Int (aK (fF [v0.2.a0,v0.2.a1,v0.2.a2,v0.2.a3,v0.2.a4,v0.2.a5,v0.2.a6,v0.2.a7] v0.1.toNat (wrap u8 (ishr u64 x0 (wrap i64 (8*wrap i64 (7-v0.1)))))) ((0:Nat)+(1:Nat)+(1:Nat)+(1:Nat)+(1:Nat)) 0) (A8.of 0 (fF (A8.l v0.2) v0.1.toNat (wrap u8 (ishr u64 x0 (wrap i64 (8*wrap i64 (7-v0.1))))))).a4/\eqAt Int (aK (fF [v0.2.a0,v0.2.a1,v0.2.a2,v0.2.a3,v0.2.a4,v0.2.a5,v0.2.a6,v0.2.a7] v0.1.toNat (wrap u8 (ishr u64 x0 (wrap i64 (8*wrap i64 (7-v0.1)))))) ((0:Nat)+(1:Nat)+(1:Nat)+(1:Nat)+(1:Nat)+(1:Nat)) 0) (A8.of 0 (fF (A8.l v0.2) v0.1.toNat (wrap u8 (ishr u64 x0 (wrap i64 (8*wrap i64 (7-v0.1))))))).a5/\eqAt Int (aK (fF [v0.2.a0,v0.2.a1,v0.2.a2,v0.2.a3,v0.2.a4,v0.2.a5,v0.2.a6,v0.2.a7] v0.1.toNat (wrap u8 (ishr u64 x0 (wrap i64 (8*wrap i64 (7-v0.1)))))) ((0:Nat)+(1:Nat)+(1:Nat)+(1:Nat)+(1:Nat)+(1:Nat)+(1:Nat)) 0) (A8.of 0 (fF (A8.l v0.2) v0.1.toNat (wrap u8 (ishr u64 x0 (wrap i64 (8*wrap i64 (7-v0.1))))))).a6/\eqAt Int (aK (fF [v0.2.a0,v0.2.a1,v0.2.a2,v0.2.a3,v0.2.a4,v0.2.a5,v0.2.a6,v0.2.a7] v0.1.toNat (wrap u8 (ishr u64 x0 (wrap i64 (8*wrap i64 (7-v0.1)))))) ((0:Nat)+(1:Nat)+(1:Nat)+(1:Nat)+(1:Nat)+(1:Nat)+(1:Nat)+(1:Nat)) 0) (A8.of 0 (fF (A8.l v0.2) v0.1.toNat (wrap u8 (ishr u64 x0 (wrap i64 (8*wrap i64 (7-v0.1))))))).a7/\True)/\True) (Sum.inl (wrap i64 (v0.1+1),A8.of 0 (fF (A8.l v0.2) v0.1.toNat (wrap u8 (ishr u64 x0 (wrap i64 (8*wrap i64 (7-v0.1))))))))))) (.lf (Sum.inr [(λ(n:Int)=>dC n.toNat) v0.2.a0,(λ(n:Int)=>dC n.toNat) v0.2.a1,(λ(n:Int)=>dC n.toNat) v0.2.a2,(λ(n:Int)=>dC n.toNat) v0.2.a3,(λ(n:Int)=>dC n.toNat) v0.2.a4,(λ(n:Int)=>dC n.toNat) v0.2.a5,(λ(n:Int)=>dC n.toNat) v0.2.a6,(λ(n:Int)=>dC n.toNat) v0.2.a7])))
def Q0g s:=(Q9a s).m
abbrev Q9d s:=(Q9a s).p
def Qx6:LInv:={
 α:=(Int)×(A8 Int)
 F:=λst a=>([(3,(lk st 3)),(4,.ptr 0 0 0),(8,.int i64 a.1)],[⟨true,482,8,.gen [[.int u8 a.2.a0,.int u8 a.2.a1,.int u8 a.2.a2,.int u8 a.2.a3,.int u8 a.2.a4,.int u8 a.2.a5,.int u8 a.2.a6,.int u8 a.2.a7]]⟩])
 a0:=λst=>((lk st 8).toInt,(⟨(cT st 4 0).toInt,(cT st 4 1).toInt,(cT st 4 2).toInt,(cT st 4 3).toInt,(cT st 4 4).toInt,(cT st 4 5).toInt,(cT st 4 6).toInt,(cT st 4 7).toInt⟩:(A8 Int)))
 ex0:=λst=>[]++[(rX st 4 0)]}
def Qq0:List (Nat×LInv):=[(4,Qx6)]
def Qy0:Q09:=mT 298 [] true [.one (.str)] [] (λa r=>Q9a (argS a 0)) (λX=>.str X) (λX=>[])
theorem Qk4:Q05 pG Qy0:=oT (.cons Z4x (.nil)) Tryz.func298 Tryz.call298 [] Qq0 3
def Q58(seq:Int)(body:List UInt8):Tree (List UInt8):=
.an (Q2z seq) (.lv (Q5m seq) λ(x0:List UInt8)=>.an (Q2z (wrap u64 (body.length:Int))) (.lv (Q5m (wrap u64 (body.length:Int))) λ(x1:List UInt8)=>.cn (decide (x0.length+x1.length<=maxLen)) (.cn (decide (dR (x0++x1)+body.length<=maxLen)) (.an (Q9d (x0++x1++body)) (.lv (Q0g (x0++x1++body)) λ(x2:List UInt8)=>.cn (decide (dR (x0++x1++body)+x2.length<=maxLen)) (.lf (x0++x1++body++x2)))))))
def Qoa seq body:=(Q58 seq body).m
abbrev Qgl seq body:=(Q58 seq body).p
def Qvc:Q09:=mT 199 [] true [.one (.int .u64),.one (.str)] [] (λa r=>Q58 (argI a 0) (argS a 1)) (λX=>.str X) (λX=>[])
theorem Qso:Q05 pG Qvc:=oT (.cons Q71 (.cons Qk4 (.nil))) Tryz.func199 Tryz.call199 [] [] 2
def Q21(r:Q0h):Tree (Int×Q0h):=
.an (Qch r.rest) (.lv (Qk7 r.rest) λ(x0:Int×Int×Bool)=>.br (!x0.2.2) (.lf (0,{rest:=r.rest,bad:=true})) (.br r.bad (.lf (0,{rest:=r.rest,bad:=true})) (.cn (decide (0<=x0.2.1/\x0.2.1<=(r.rest.length:Int)/\(r.rest.length:Int)<=(r.rest.length:Int))) (.lf (x0.1,{rest:=dU (dM (r.rest.length:Int)-dM x0.2.1) (dV x0.2.1.toNat r.rest),bad:=r.bad})))))
def Q6s r:=(Q21 r).m
abbrev Q4g r:=(Q21 r).p
def Qgw:Q09:=mT 171 [true] true [.ptr 0] [.box 308 2 Q0h.sig] (λa r=>Q21 (Q0h.of (r.getD 0 default).cs)) (λX=>.int .u64 (X.1)) (λX=>[⟨true,308,2,.gen [(Q0h.cells (X.2))]⟩])
theorem Q98:Q05 pG Qgw:=oT (.cons Qiv (.nil)) Tryz.func171 Tryz.call171 [] [] 2
def Q2x(r:Q0h):Tree ((List UInt8)×Q0h):=
.an (Q4g r) (.lv (Q6s r) λ(x0:Int×Q0h)=>.br x0.2.bad (.lf ([],{rest:=x0.2.rest,bad:=true})) (.br (decide (x0.1>wrap u64 (x0.2.rest.length:Int))) (.lf ([],{rest:=x0.2.rest,bad:=true})) (.cn (decide ((0:Int)<=(0:Int)/\0<=x0.1/\x0.1<=(x0.2.rest.length:Int))) (.cn (decide (0<=x0.1/\x0.1<=(x0.2.rest.length:Int)/\(x0.2.rest.length:Int)<=(x0.2.rest.length:Int))) (.lf (dU (dM x0.1-dM 0) (dV (dM 0) x0.2.rest),{rest:=dU (dM (x0.2.rest.length:Int)-dM x0.1) (dV x0.1.toNat x0.2.rest),bad:=x0.2.bad}))))))
def Qd1 r:=(Q2x r).m
abbrev Q9x r:=(Q2x r).p
def Qiq:Q09:=mT 270 [true] true [.ptr 0] [.box 308 2 Q0h.sig] (λa r=>Q2x (Q0h.of (r.getD 0 default).cs)) (λX=>.str (X.1)) (λX=>[⟨true,308,2,.gen [(Q0h.cells (X.2))]⟩])
theorem Qha:Q05 pG Qiq:=oT (.cons Q98 (.nil)) Tryz.func270 Tryz.call270 [] [] 2
def Q7a(s:List UInt8):Tree (Int×(List UInt8)×Int):=
.an (Q4g {rest:=s,bad:=false}) (.lv (Q6s {rest:=s,bad:=false}) λ(x0:Int×Q0h)=>.an (Q9x x0.2) (.lv (Qd1 x0.2) λ(x1:List UInt8×Q0h)=>.br x1.2.bad (.lf (0,[],1900)) (.br ((x1.2.rest.length:Int) !=(8:Int)) (.lf (0,[],1900)) (.cn (decide ((0:Int)<=(0:Int)/\0<=wrap i64 ((s.length:Int)-(8:Int))/\wrap i64 ((s.length:Int)-(8:Int))<=(s.length:Int))) (let E1:=dU (dM (wrap i64 ((s.length:Int)-(8:Int)))-dM 0) (dV (dM 0) s);.an (Q9d E1) (.lv (Q0g E1) λ(x2:List UInt8)=>.br (!decide (x2=x1.2.rest)) (.lf (0,[],1903)) (.lf (x0.1,x1.1,0))))))))
def Qo7 s:=(Q7a s).m
abbrev Qh0 s:=(Q7a s).p
def Qv:Q09:=mT 296 [] true [.one (.str)] [] (λa r=>Q7a (argS a 0)) (λX=>.tup [.int .u64 (X.1),.str (X.2.1),.int .i64 (X.2.2)]) (λX=>[])
theorem Qsi:Q05 pG Qv:=oT (.cons Q98 (.cons Qha (.cons Qk4 (.nil)))) Tryz.func296 Tryz.call296 [] [] 2
end
noncomputable section
instance sumInhJb {α β:Type} [Inhabited β]:Inhabited (α⊕β):=⟨.inr default⟩
def Q4m(b:List Int)(n:Int):Tree (List Int):=
.an (Q2z (wrap u64 n)) (.lv (Q5m (wrap u64 n)) λ(x0:List UInt8)=>.cn (decide (1*(b.length+dR (Q6z x0))<=140737488355328)) (.lf (b++Q6z x0)))
def Q0x b n:=(Q4m b n).m
abbrev Q0j b n:=(Q4m b n).p
def Qfo:Q09:=mkKP 0 299 [true,false] [.one (.row 0),.one (.int .i64)] [.arr 5 1 (.ints .u8)] (λa r=>Q0j (rowL .u8 r 0) (argI a 1)) (λa r=>Q0x (rowL .u8 r 0) (argI a 1)) (λX=>.all 0) (λX=>[⟨false,5,1,.ints .u8 X⟩])
theorem Qmh:Q05 pG Qfo:=Qph drawn Q0k (.cons Q71 (.nil)) Tryz.func299 Tryz.call299 (λa r=>Q4m (rowL .u8 r 0) (argI a 1)) [.row 5 1 (.ints .u8)] [] 2 (λ_ _ _=>by kernel_rfl) (λ_ _=>rfl) (λ_ _ h=>h)
def Q4o(b:List Int)(n:Int):Tree (List Int):=
.an (Q2z (wrap u64 n)) (.lv (Q5m (wrap u64 n)) λ(x0:List UInt8)=>.cn (decide (1*(0+dR (Q6z x0))<=140737488355328)) (.lf (Q6z x0)))
def Qib b n:=(Q4o b n).m
abbrev Qd4 b n:=(Q4o b n).p
def Qf9:Q09:=mkKP 0 299 [true,false] [.one .nil0,.one (.int .i64)] [] (λa r=>Qd4 (argL .u8 a 0) (argI a 1)) (λa r=>Qib (argL .u8 a 0) (argI a 1)) (λX=>.all 0) (λX=>[⟨false,5,1,.ints .u8 X⟩])
theorem Qm1:Q05 pG Qf9:=Qph drawn Q0k (.cons Q71 (.nil)) Tryz.func299 Tryz.call299 (λa r=>Q4o (argL .u8 a 0) (argI a 1)) [.row 5 1 (.ints .u8)] [] 2 (λ_ _ _=>by kernel_rfl) (λ_ _=>rfl) (λ_ _ h=>h)
def Qsg:Q09:=Qf9.or Qfo
theorem Qpy:Q05 pG Qsg:=Q05.or rfl rfl (λh=>h) Qm1 Qmh
def Q6l(o0:Q03):Tree (List UInt8):=
.an (Qd4 [] o0.C5) (.lv (Qib [] o0.C5) λ(x0:List Int)=>.an (Q0j x0 (o0.B8.length:Int)) (.lv (Q0x x0 (o0.B8.length:Int)) λ(x1:List Int)=>.cn (decide (1*(x1.length+dR (Q6z o0.B8))<=140737488355328)) (.br o0.B1.Up (.an (Q0j (x1++Q6z o0.B8) o0.A) (.lv (Q0x (x1++Q6z o0.B8) o0.A) λ(x2:List Int)=>.an (Q0j x2 o0.B) (.lv (Q0x x2 o0.B) λ(x3:List Int)=>.an (Q0j x3 o0.A3.B9) (.lv (Q0x x3 o0.A3.B9) λ(x4:List Int)=>.an (Q0j x4 o0.A3.D3) (.lv (Q0x x4 o0.A3.D3) λ(x5:List Int)=>.an (Q0j x5 o0.A3.A7) (.lv (Q0x x5 o0.A3.A7) λ(x6:List Int)=>.an (Q0j x6 o0.A3.C7) (.lv (Q0x x6 o0.A3.C7) λ(x7:List Int)=>.an (Q0j x7 o0.B1.C0) (.lv (Q0x x7 o0.B1.C0) λ(x8:List Int)=>.an (Q0j x8 o0.B1.A7) (.lv (Q0x x8 o0.B1.A7) λ(x9:List Int)=>.an (Q0j x9 (iD 1)) (.lv (Q0x x9 (iD 1)) λ(x10:List Int)=>.lf (bytesOf x10))))))))))) (.an (Q0j (x1++Q6z o0.B8) o0.A) (.lv (Q0x (x1++Q6z o0.B8) o0.A) λ(x11:List Int)=>.an (Q0j x11 o0.B) (.lv (Q0x x11 o0.B) λ(x12:List Int)=>.an (Q0j x12 o0.A3.B9) (.lv (Q0x x12 o0.A3.B9) λ(x13:List Int)=>.an (Q0j x13 o0.A3.D3) (.lv (Q0x x13 o0.A3.D3) λ(x14:List Int)=>.an (Q0j x14 o0.A3.A7) (.lv (Q0x x14 o0.A3.A7) λ(x15:List Int)=>.an (Q0j x15 o0.A3.C7) (.lv (Q0x x15 o0.A3.C7) λ(x16:List Int)=>.an (Q0j x16 o0.B1.C0) (.lv (Q0x x16 o0.B1.C0) λ(x17:List Int)=>.an (Q0j x17 o0.B1.A7) (.lv (Q0x x17 o0.B1.A7) λ(x18:List Int)=>.an (Q0j x18 (iD 0)) (.lv (Q0x x18 (iD 0)) λ(x19:List Int)=>.lf (bytesOf x19))))))))))))))
def Qlg o0:=(Q6l o0).m
abbrev Qfn o0:=(Q6l o0).p
def Qt2:Q09:=mT 200 [] true [.agg Q03.sig] [] (λa r=>Q6l (Q03.of (aC a 0))) (λX=>.str X) (λX=>[])
theorem Qpt:Q05 pG Qt2:=oT (.cons Qpy (.nil)) Tryz.func200 Tryz.call200 [] [] 2
def Q1l(r:Q07):Tree (Int×Q07):=
.br r.bad (.lf (0,r)) (.an (Qch r.rest) (.lv (Qk7 r.rest) λ(x0:Int×Int×Bool)=>.br (!x0.2.2) (.lf (0,{rest:=r.rest,bad:=true})) (.cn (decide (0<=x0.2.1/\x0.2.1<=(r.rest.length:Int)/\(r.rest.length:Int)<=(r.rest.length:Int))) (.lf (x0.1,{rest:=dU (dM (r.rest.length:Int)-dM x0.2.1) (dV x0.2.1.toNat r.rest),bad:=r.bad})))))
def Q1 r:=(Q1l r).m
abbrev Q0p r:=(Q1l r).p
def Qhz:Q09:=mT 295 [true] true [.ptr 0] [.box 338 2 Q07.sig] (λa r=>Q1l (Q07.of (r.getD 0 default).cs)) (λX=>.int .u64 (X.1)) (λX=>[⟨true,338,2,.gen [(Q07.cells (X.2))]⟩])
theorem Qa:Q05 pG Qhz:=oT (.cons Qiv (.nil)) Tryz.func295 Tryz.call295 [] [] 2
def Q1r(r:Q07)(n:Int):Tree ((List UInt8)×Q07):=
.br r.bad (.lf ([],{rest:=r.rest,bad:=true})) (.br (decide (n>wrap u64 (r.rest.length:Int))) (.lf ([],{rest:=r.rest,bad:=true})) (.cn (decide ((0:Int)<=(0:Int)/\0<=n/\n<=(r.rest.length:Int))) (.cn (decide (0<=n/\n<=(r.rest.length:Int)/\(r.rest.length:Int)<=(r.rest.length:Int))) (.lf (dU (dM n-dM 0) (dV (dM 0) r.rest),{rest:=dU (dM (r.rest.length:Int)-dM n) (dV n.toNat r.rest),bad:=r.bad})))))
def Q8k r n:=(Q1r r n).m
abbrev Q5k r n:=(Q1r r n).p
def Qio:Q09:=mT 294 [true,false] true [.ptr 0,.one (.int .u64)] [.box 338 2 Q07.sig] (λa r=>Q1r (Q07.of (r.getD 0 default).cs) (argI a 1)) (λX=>.str (X.1)) (λX=>[⟨true,338,2,.gen [(Q07.cells (X.2))]⟩])
theorem Qag:Q05 pG Qio:=oT (.nil) Tryz.func294 Tryz.call294 [] [] 2
def Q69(s:List UInt8):Tree (Q03×Bool):=
.an (Q0p {rest:=s,bad:=false}) (.lv (Q1 {rest:=s,bad:=false}) λ(x0:Int×Q07)=>.an (Q0p x0.2) (.lv (Q1 x0.2) λ(x1:Int×Q07)=>.an (Q5k x1.2 x1.1) (.lv (Q8k x1.2 x1.1) λ(x2:List UInt8×Q07)=>.an (Q0p x2.2) (.lv (Q1 x2.2) λ(x3:Int×Q07)=>.an (Q0p x3.2) (.lv (Q1 x3.2) λ(x4:Int×Q07)=>.an (Q0p x4.2) (.lv (Q1 x4.2) λ(x5:Int×Q07)=>.an (Q0p x5.2) (.lv (Q1 x5.2) λ(x6:Int×Q07)=>.an (Q0p x6.2) (.lv (Q1 x6.2) λ(x7:Int×Q07)=>.an (Q0p x7.2) (.lv (Q1 x7.2) λ(x8:Int×Q07)=>.an (Q0p x8.2) (.lv (Q1 x8.2) λ(x9:Int×Q07)=>.an (Q0p x9.2) (.lv (Q1 x9.2) λ(x10:Int×Q07)=>.an (Q0p x10.2) (.lv (Q1 x10.2) λ(x11:Int×Q07)=>let T1:Tree ((Q03×Bool)):=.lf ({C5:=0,B8:=[],A:=0,B:=0,A3:={B9:=0,D3:=0,A7:=0,C7:=0},B1:={C0:=0,A7:=0,Up:=false}},false);.br x11.2.bad T1 (.br (decide (x11.1>1)) T1 (.br (!decide (x11.2.rest=[])) T1 (.lf ({C5:=wrap i64 x0.1,B8:=x2.1,A:=wrap i64 x3.1,B:=wrap i64 x4.1,A3:={B9:=wrap i64 x5.1,D3:=wrap i64 x6.1,A7:=wrap i64 x7.1,C7:=wrap i64 x8.1},B1:={C0:=wrap i64 x9.1,A7:=wrap i64 x10.1,Up:=x11.1==1}},true))))))))))))))))
def Qla s:=(Q69 s).m
abbrev Qft s:=(Q69 s).p
def Qt9:Q09:=mT 297 [] true [.one (.str)] [] (λa r=>Q69 (argS a 0)) (λX=>.tup [.agg (Q03.cells (X.1)),.bool (X.2)]) (λX=>[])
theorem Qpm:Q05 pG Qt9:=oT (.cons Qa (.cons Qag (.nil))) Tryz.func297 Tryz.call297 [] [] 2
end
noncomputable section
instance sumInhJc {α β:Type} [Inhabited β]:Inhabited (α⊕β):=⟨.inr default⟩
def Q6f(n:Int)(o0:Q03):Tree (List UInt8):=
.an (Qfn o0) (.lv (Qlg o0) λ(x0:List UInt8)=>.an (Qgl (wrap u64 n) x0) (.lv (Qoa (wrap u64 n) x0) λ(x1:List UInt8)=>.an (Q2z (wrap u64 (x1.length:Int))) (.lv (Q5m (wrap u64 (x1.length:Int))) λ(x2:List UInt8)=>.cn (decide (x2.length+x1.length<=maxLen)) (.lf (x2++x1)))))
def Ql9 n o0:=(Q6f n o0).m
abbrev Qfq n o0:=(Q6f n o0).p
def Qs4:Q09:=mT 99 [] true [.one (.int .i64),.agg Q03.sig] [] (λa r=>Q6f (argI a 0) (Q03.of (aC a 1))) (λX=>.str X) (λX=>[])
theorem Qpw:Q05 pG Qs4:=oT (.cons Qso (.cons Qpt (.cons Q71 (.nil)))) Tryz.func99 Tryz.call99 [] [] 2
def Q2j(r:Q07)(n:Int):Tree (Q03×Bool×Q07):=
.an (Q0p r) (.lv (Q1 r) λ(x0:Int×Q07)=>.an (Q5k x0.2 x0.1) (.lv (Q8k x0.2 x0.1) λ(x1:List UInt8×Q07)=>let T1:Tree ((Q03×Bool×Q07)):=.lf ({C5:=0,B8:=[],A:=0,B:=0,A3:={B9:=0,D3:=0,A7:=0,C7:=0},B1:={C0:=0,A7:=0,Up:=false}},false,x1.2);.br x1.2.bad T1 (.an (Qh0 x1.1) (.lv (Qo7 x1.1) λ(x2:Int×List UInt8×Int)=>.br (x2.2.2 !=0) T1 (.br (x2.1 !=wrap u64 n) T1 (.an (Qft x2.2.1) (.lv (Qla x2.2.1) λ(x3:Q03×Bool)=>.lf (x3.1,x3.2,x1.2))))))))
def Qs2 r n:=(Q2j r n).m
abbrev Qic r n:=(Q2j r n).p
def Qy5:Q09:=mT 198 [true,false] true [.ptr 0,.one (.int .i64)] [.box 338 2 Q07.sig] (λa r=>Q2j (Q07.of (r.getD 0 default).cs) (argI a 1)) (λX=>.tup [.agg (Q03.cells (X.1)),.bool (X.2.1)]) (λX=>[⟨true,338,2,.gen [(Q07.cells (X.2.2))]⟩])
theorem Qwr:Q05 pG Qy5:=oT (.cons Qag (.cons Qa (.cons Qsi (.cons Qpm (.nil))))) Tryz.func198 Tryz.call198 [] [] 2
def Qex(journal:List UInt8)(z:(Int)×Q07×(List Q03)):Nat:=z.2.1.rest.length
def Q7e(journal:List UInt8):Tree ((List Q03)×Int):=
.lp inferInstance (Qex journal (0,{rest:=journal,bad:=false},[])+1) ((rE (journal:List UInt8)/\rZ/\True/\rE (0:Int)/\True)/\(rE (journal:List UInt8)/\rE (false:Bool)/\True)/\rE ([]:List (RK.T RK.apiManage))/\True) (0,{rest:=journal,bad:=false},[]) λ(v0:Int×Q07×List Q03)=>.an (Qic v0.2.1 (v0.2.2.length:Int)) (.lv (Qs2 v0.2.1 (v0.2.2.length:Int)) λ(x0:Q03×Bool×Q07)=>.br (!x0.2.1) (.lf (Sum.inr (v0.2.2,v0.1))) (.cn (decide (96*(v0.2.2.length+1)<=140737488355328)) (.nx ((rE (journal:List UInt8)/\rZ/\True/\rE ((wrap i64 ((journal.length:Int)-(x0.2.2.rest.length:Int))):Int)/\True)/\(rE x0.2.2.rest/\rE x0.2.2.bad/\True)/\rE ((v0.2.2++[x0.1]):List (RK.T RK.apiManage))/\True) (Sum.inl (wrap i64 ((journal.length:Int)-(x0.2.2.rest.length:Int)),x0.2.2,v0.2.2++[x0.1])))))
def Qhe journal:=(Q7e journal).m
abbrev Qbc journal:=(Q7e journal).p
def Qsa:LInv:={
 α:=(Int)×Q07×(List Q03)
 F:=λst a=>([(0,(lk st 0)),(4,.ptr 0 0 0),(5,.all 1),(6,.int i64 a.1)],[⟨true,338,2,.gen [[.str a.2.1.rest,.bool a.2.1.bad]]⟩,⟨false,113,11,.recs RK.apiManage a.2.2⟩])
 a0:=λst=>((lk st 6).toInt,(⟨(cT st 4 0).toStr,(cT st 4 1).toBool⟩:Q07),(Q55 RK.apiManage st.rows (rN st 5)))
 ex0:=λst=>[]++[(rX st 4 0),(rX st 5 1)]}
def Qnv:List (Nat×LInv):=[(1,Qsa)]
def Qvl:Q09:=mT 98 [] true [.one (.str)] [] (λa r=>Q7e (argS a 0)) (λX=>.tup [.all 0,.int .i64 (X.2)]) (λX=>[⟨false,113,11,.recs .apiManage (X.1)⟩])
theorem Qi7:Q05 pG Qvl:=oT (.cons Qwr (.nil)) Tryz.func98 Tryz.call98 [.row 113 11 (.recs .apiManage)] Qnv 3
def Q6a(journal:List UInt8)(o0:Q03):Tree ((List UInt8)×Bool):=
.br (decide ((journal.length:Int)>(8192:Int))) (.lf (journal,false)) (.br (decide ((o0.B8.length:Int)>(8192:Int))) (.lf (journal,false)) (.an (Qbc journal) (.lv (Qhe journal) λ(x0:List Q03×Int)=>.an (Qfq (x0.1.length:Int) o0) (.lv (Ql9 (x0.1.length:Int) o0) λ(x1:List UInt8)=>.cn (decide (journal.length+x1.length<=maxLen)) (.br (decide ((↑(dR (journal++x1)):Int)>(8192:Int))) (.lf (journal,false)) (.lf (journal++x1,true)))))))
def Q3w journal o0:=(Q6a journal o0).m
abbrev Q4v journal o0:=(Q6a journal o0).p
def Qtb:Q09:=mT 33 [] true [.one (.str),.agg Q03.sig] [] (λa r=>Q6a (argS a 0) (Q03.of (aC a 1))) (λX=>.tup [.str (X.1),.bool (X.2)]) (λX=>[])
theorem Qqm:Q05 pG Qtb:=oT (.cons Qi7 (.cons Qpw (.nil))) Tryz.func33 Tryz.call33 [] [] 2
end
noncomputable section
instance sumInhJd {α β:Type} [Inhabited β]:Inhabited (α⊕β):=⟨.inr default⟩
def Q83(n:Int):Tree Bool:=
.br (decide (n>=0)) (.lf (decide (n<=1000000))) (.lf false)
def Q5l n:=(Q83 n).m
def Qq3:Q09:=mS 207 [] true [.one (.int .i64)] [] (λa r=>Q83 (argI a 0)) (λX=>.bool X) (λX=>[])
theorem Qfj:Q05 pG Qq3:=oS (.nil) Tryz.func207 Tryz.call207 [] [] 2
def Q3s(d0:Q0a):Tree Bool:=
.br (decide (d0.B9>=0)) (.br (decide (d0.B9<=d0.D3)) (.lv (Q5l d0.D3) λ(x0:Bool)=>.br x0 (.lv (Q5l d0.A7) λ(x1:Bool)=>.br x1 (.lf (decide (d0.C7>=0))) (.lf false)) (.lf false)) (.lf false)) (.lf false)
def Q2h d0:=(Q3s d0).m
def Qhs:Q09:=mS 106 [] true [.agg Q0a.sig] [] (λa r=>Q3s (Q0a.of (aC a 0))) (λX=>.bool X) (λX=>[])
theorem Q3j:Q05 pG Qhs:=oS (.cons Qfj (.nil)) Tryz.func106 Tryz.call106 [] [] 2
def Q4n(c:Q04):Tree Bool:=
.lv (Q5l c.C0) λ(x0:Bool)=>.br x0 (.lv (Q5l c.A7) λ(x1:Bool)=>.lf x1) (.lf false)
def Q47 c:=(Q4n c).m
def Qj8:Q09:=mS 108 [] true [.agg Q04.sig] [] (λa r=>Q4n (Q04.of (aC a 0))) (λX=>.bool X) (λX=>[])
theorem Q6q:Q05 pG Qj8:=oS (.cons Qfj (.nil)) Tryz.func108 Tryz.call108 [] [] 2
def Qc(c:Q04)(l:List Q0a)(z:(Int)):Nat:=(l.length-z).toNat
def Q5a(c:Q04)(l:List Q0a):Tree Bool:=
.lv (Q47 c) λ(x0:Bool)=>.br (!x0) (.lf false) (.br (decide ((l.length:Int)>(16:Int))) (.lf false) (.lp inferInstance (Qc c l 0+1) ((nR RK.apiDemand 4 l/\rE ((l.length:Int):Int)/\rE (0:Int)/\True)/\True) 0 λ(v0:Int)=>.br (decide (v0<(l.length:Int))) (.cn (bV 4 4&&bK 0 4&&decide (0<=v0/\v0<(l.length:Int))) (.lv (Q2h (l.getD v0.toNat (RK.dflt RK.apiDemand))) λ(x1:Bool)=>.br (!x1) (.lf (Sum.inr false)) (.nx ((nR RK.apiDemand 4 l/\rE ((l.length:Int):Int)/\rE ((wrap i64 (v0+1)):Int)/\True)/\True) (Sum.inl (wrap i64 (v0+1)))))) (.lf (Sum.inr true))))
def Qen c l:=(Q5a c l).m
abbrev Q9s c l:=(Q5a c l).p
def Qnj:LInv:={
 α:=(Int)
 F:=λst a=>([(15,(lk st 15)),(16,(lk st 16)),(17,.int i64 a)],[])
 a0:=λst=>(lk st 17).toInt
 ex0:=λst=>[]++[]}
def Qkv:List (Nat×LInv):=[(4,Qnj)]
def Qpx:Q09:=mT 303 [] true [.agg Q04.sig,.one (.recs .apiDemand)] [] (λa r=>Q5a (Q04.of (aC a 0)) (argR .apiDemand a 1)) (λX=>.bool X) (λX=>[])
theorem Qfm:Q05 pG Qpx:=oT (.cons Q6q (.cons Q3j (.nil))) Tryz.func303 Tryz.call303 [] Qkv 3
def Qd0(c:Q04)(l:List Q0a)(z:(Int)×(Int)×(Int)):Nat:=(l.length-z.2.2).toNat
def Q65(c:Q04)(l:List Q0a):Tree (Int×Int):=
.an (Q9s c l) (.lv (Qen c l) λ(x0:Bool)=>.br (!x0) (.lf (0,0)) (.lp inferInstance (Qd0 c l (c.C0,c.A7,0)+1) ((rE c.C0/\rE c.A7/\nR RK.apiDemand 4 l/\rE ((l.length:Int):Int)/\rE (0:Int)/\True)/\True) (c.C0,c.A7,0) λ(v0:Int×Int×Int)=>.br (decide (v0.2.2<(l.length:Int))) (.cn (bV 4 4&&bK 0 4&&decide (0<=v0.2.2/\v0.2.2<(l.length:Int))) (let E1:=l.getD v0.2.2.toNat (RK.dflt RK.apiDemand);.nx ((rE ((wrap i64 (v0.1-(l.getD v0.2.2.toNat (RK.dflt RK.apiDemand)).B9)):Int)/\rE ((wrap i64 (v0.2.1-(l.getD v0.2.2.toNat (RK.dflt RK.apiDemand)).A7)):Int)/\nR RK.apiDemand 4 l/\rE ((l.length:Int):Int)/\rE ((wrap i64 (v0.2.2+1)):Int)/\True)/\True) (Sum.inl (wrap i64 (v0.1-E1.B9),wrap i64 (v0.2.1-E1.A7),wrap i64 (v0.2.2+1))))) (.lf (Sum.inr (v0.1,v0.2.1)))))
def Qlj c l:=(Q65 c l).m
abbrev Qf8 c l:=(Q65 c l).p
def Qqh:LInv:={
 α:=(Int)×(Int)×(Int)
 F:=λst a=>([(6,.int i64 a.1),(7,.int i64 a.2.1),(18,(lk st 18)),(19,(lk st 19)),(20,.int i64 a.2.2)],[])
 a0:=λst=>((lk st 6).toInt,(lk st 7).toInt,(lk st 20).toInt)
 ex0:=λst=>[]++[]}
def Qmi:List (Nat×LInv):=[(5,Qqh)]
def Qsy:Q09:=mT 304 [] true [.agg Q04.sig,.one (.recs .apiDemand)] [] (λa r=>Q65 (Q04.of (aC a 0)) (argR .apiDemand a 1)) (λX=>.tup [.int .i64 (X.1),.int .i64 (X.2)]) (λX=>[])
theorem Qqw:Q05 pG Qsy:=oT (.cons Qfm (.nil)) Tryz.func304 Tryz.call304 [] Qmi 3
def Qc4(c:Q04)(l:List Q0a)(d0:Q0a)(z:(Int)):Nat:=(l.length-z).toNat
def Q5b(c:Q04)(l:List Q0a)(d0:Q0a):Tree Int:=
.an (Q9s c l) (.lv (Qen c l) λ(x0:Bool)=>.br (!x0) (.lf 3900) (.lv (Q2h d0) λ(x1:Bool)=>.br (!x1) (.lf 3900) (.br (!c.Up) (.lf 3904) (.an (Qf8 c l) (.lv (Qlj c l) λ(x2:Int×Int)=>.br (decide (x2.1<d0.B9)) (.lf 3901) (.br (decide (x2.2<d0.A7)) (.lf 3902) (.br (d0.C7 !=0) (.lp inferInstance (Qc4 c l d0 0+1) ((rZ/\nR RK.apiDemand 4 l/\rE ((l.length:Int):Int)/\rE (0:Int)/\True)/\(rE d0.B9/\rE d0.D3/\rE d0.A7/\rE d0.C7/\True)/\True) 0 λ(v0:Int)=>.br (decide (v0<(l.length:Int))) (.cn (bV 4 4&&bK 0 4&&decide (0<=v0/\v0<(l.length:Int))) (.br ((l.getD v0.toNat (RK.dflt RK.apiDemand)).C7==d0.C7) (.lf (Sum.inr 3903)) (.nx ((rZ/\nR RK.apiDemand 4 l/\rE ((l.length:Int):Int)/\rE ((wrap i64 (v0+1)):Int)/\True)/\(rE d0.B9/\rE d0.D3/\rE d0.A7/\rE d0.C7/\True)/\True) (Sum.inl (wrap i64 (v0+1)))))) (.lf (Sum.inr 0))) (.lf 0))))))))
def Q7n c l d0:=(Q5b c l d0).m
abbrev Q40 c l d0:=(Q5b c l d0).p
def Qnp:LInv:={
 α:=(Int)
 F:=λst a=>([(5,.ptr 0 0 0),(40,(lk st 40)),(41,(lk st 41)),(42,.int i64 a)],[⟨true,109,4,.gen [[(cT st 5 0),(cT st 5 1),(cT st 5 2),(cT st 5 3)]]⟩])
 a0:=λst=>(lk st 42).toInt
 ex0:=λst=>[]++[(rX st 5 0)]}
def Ql3:List (Nat×LInv):=[(12,Qnp)]
def Qp0:Q09:=mT 204 [] true [.agg Q04.sig,.one (.recs .apiDemand),.agg Q0a.sig] [] (λa r=>Q5b (Q04.of (aC a 0)) (argR .apiDemand a 1) (Q0a.of (aC a 2))) (λX=>.int .i64 X) (λX=>[])
theorem Qa8:Q05 pG Qp0:=oT (.cons Qfm (.cons Q3j (.cons Qqw (.nil)))) Tryz.func204 Tryz.call204 [] Ql3 3
def Qcu(c:Q04)(l:List Q0a)(z:(Int)):Nat:=(l.length-z).toNat
def Q6g(c:Q04)(l:List Q0a):Tree Bool:=
.lp inferInstance (Qcu c l 0+1) ((nR RK.apiDemand 4 l/\rZ/\nR RK.apiDemand 4 l/\rE ((l.length:Int):Int)/\rE (0:Int)/\True)/\(rE c.C0/\rE c.A7/\rE c.Up/\True)/\True) 0 λ(v0:Int)=>.br (decide (v0<(l.length:Int))) (.cn (bV 4 4&&bK 0 4&&decide (0<=v0/\v0<(l.length:Int))) (.cn (bV 4 4&&bK 0 4&&decide ((0:Int)<=(0:Int)/\0<=v0/\v0<=(l.length:Int))) (let E1:=dU (dM v0-dM 0) (dV (dM 0) l);let E2:=l.getD v0.toNat (RK.dflt RK.apiDemand);.an (Q40 c E1 E2) (.lv (Q7n c E1 E2) λ(x0:Int)=>.br (x0 !=0) (.lf (Sum.inr false)) (.nx ((nR RK.apiDemand 4 l/\rZ/\nR RK.apiDemand 4 l/\rE ((l.length:Int):Int)/\rE ((wrap i64 (v0+1)):Int)/\True)/\(rE c.C0/\rE c.A7/\rE c.Up/\True)/\True) (Sum.inl (wrap i64 (v0+1)))))))) (.lf (Sum.inr true))
def Ql8 c l:=(Q6g c l).m
abbrev Qfd c l:=(Q6g c l).p
def Qoy:LInv:={
 α:=(Int)
 F:=λst a=>([(1,(lk st 1)),(2,.ptr 0 0 0),(7,(lk st 7)),(8,(lk st 8)),(9,.int i64 a)],[⟨true,111,3,.gen [[(cT st 2 0),(cT st 2 1),(cT st 2 2)]]⟩])
 a0:=λst=>(lk st 9).toInt
 ex0:=λst=>[]++[(rX st 2 0)]}
def Qm7:List (Nat×LInv):=[(2,Qoy)]
def Qsp:Q09:=mT 109 [] true [.agg Q04.sig,.one (.recs .apiDemand)] [] (λa r=>Q6g (Q04.of (aC a 0)) (argR .apiDemand a 1)) (λX=>.bool X) (λX=>[])
theorem Qpa:Q05 pG Qsp:=oT (.cons Qa8 (.nil)) Tryz.func109 Tryz.call109 [] Qm7 3
def Qfr(l:List Q0d)(host:Int)(z:(Int)×(List Q0a)):Nat:=(l.length-z.1).toNat
def Qf3(l:List Q0d)(host:Int)(v0:Int×List Q0a)(z:(Int)×(List Q0a)):Nat:=(2-z.1).toNat
def Q8y(l:List Q0d)(host:Int):Tree (List Q0a):=
.lp inferInstance (Qfr l host (0,[])+1) ((rE (host:Int)/\True/\nR RK.apiPlaced 7 l/\rE ((l.length:Int):Int)/\rE (0:Int)/\True)/\rE ([]:List (RK.T RK.apiDemand))/\True) (0,[]) λ(v0:Int×List Q0a)=>.br (decide (v0.1<(l.length:Int))) (.cn (bV 7 7&&bK 0 7&&decide (0<=v0.1/\v0.1<(l.length:Int))) (.lp inferInstance (Qf3 l host v0 (0,v0.2)+1) ((rE (host:Int)/\True/\rZ/\nR RK.apiPlaced 7 l/\rE ((l.length:Int):Int)/\rE v0.1/\(rE ((l.getD v0.1.toNat (RK.dflt RK.apiPlaced)).On.a0:Int)/\rE ((l.getD v0.1.toNat (RK.dflt RK.apiPlaced)).On.a1:Int)/\True)/\rE (0:Int)/\True)/\(rE ((l.getD v0.1.toNat (RK.dflt RK.apiPlaced)).B8:List UInt8)/\rE ((l.getD v0.1.toNat (RK.dflt RK.apiPlaced)).A3.B9:Int)/\rE ((l.getD v0.1.toNat (RK.dflt RK.apiPlaced)).A3.D3:Int)/\rE ((l.getD v0.1.toNat (RK.dflt RK.apiPlaced)).A3.A7:Int)/\rE ((l.getD v0.1.toNat (RK.dflt RK.apiPlaced)).A3.C7:Int)/\rE ((l.getD v0.1.toNat (RK.dflt RK.apiPlaced)).On.a0:Int)/\rE ((l.getD v0.1.toNat (RK.dflt RK.apiPlaced)).On.a1:Int)/\True)/\rE v0.2/\True) (0,v0.2) λ(v1:Int×List Q0a)=>.br (decide (v1.1<2)) (.cn (bV 1 1&&(bV 2 2&&decide (0<=v1.1/\v1.1<(↑2:Int)))) (let E1:=l.getD v0.1.toNat (RK.dflt RK.apiPlaced);.br (aK (A2.l E1.On) v1.1.toNat 0==host) (.cn (decide (32*(v1.2.length+1)<=140737488355328)) (.nx ((rE (host:Int)/\True/\rZ/\nR RK.apiPlaced 7 l/\rE ((l.length:Int):Int)/\rE v0.1/\(rE ((l.getD v0.1.toNat (RK.dflt RK.apiPlaced)).On.a0:Int)/\rE ((l.getD v0.1.toNat (RK.dflt RK.apiPlaced)).On.a1:Int)/\True)/\rE ((wrap i64 (v1.1+1)):Int)/\True)/\(rE ((l.getD v0.1.toNat (RK.dflt RK.apiPlaced)).B8:List UInt8)/\rE ((l.getD v0.1.toNat (RK.dflt RK.apiPlaced)).A3.B9:Int)/\rE ((l.getD v0.1.toNat (RK.dflt RK.apiPlaced)).A3.D3:Int)/\rE ((l.getD v0.1.toNat (RK.dflt RK.apiPlaced)).A3.A7:Int)/\rE ((l.getD v0.1.toNat (RK.dflt RK.apiPlaced)).A3.C7:Int)/\rE ((l.getD v0.1.toNat (RK.dflt RK.apiPlaced)).On.a0:Int)/\rE ((l.getD v0.1.toNat (RK.dflt RK.apiPlaced)).On.a1:Int)/\True)/\rE ((v1.2++[(l.getD v0.1.toNat (RK.dflt RK.apiPlaced)).A3]):List (RK.T RK.apiDemand))/\True) (Sum.inl (wrap i64 (v1.1+1),v1.2++[E1.A3])))) (.nx ((rE (host:Int)/\True/\rZ/\nR RK.apiPlaced 7 l/\rE ((l.length:Int):Int)/\rE v0.1/\(rE ((l.getD v0.1.toNat (RK.dflt RK.apiPlaced)).On.a0:Int)/\rE ((l.getD v0.1.toNat (RK.dflt RK.apiPlaced)).On.a1:Int)/\True)/\rE ((wrap i64 (v1.1+1)):Int)/\True)/\(rE ((l.getD v0.1.toNat (RK.dflt RK.apiPlaced)).B8:List UInt8)/\rE ((l.getD v0.1.toNat (RK.dflt RK.apiPlaced)).A3.B9:Int)/\rE ((l.getD v0.1.toNat (RK.dflt RK.apiPlaced)).A3.D3:Int)/\rE ((l.getD v0.1.toNat (RK.dflt RK.apiPlaced)).A3.A7:Int)/\rE ((l.getD v0.1.toNat (RK.dflt RK.apiPlaced)).A3.C7:Int)/\rE ((l.getD v0.1.toNat (RK.dflt RK.apiPlaced)).On.a0:Int)/\rE ((l.getD v0.1.toNat (RK.dflt RK.apiPlaced)).On.a1:Int)/\True)/\rE v1.2/\True) (Sum.inl (wrap i64 (v1.1+1),v1.2))))) (.nx ((rE (host:Int)/\True/\nR RK.apiPlaced 7 l/\rE ((l.length:Int):Int)/\rE ((wrap i64 (v0.1+1)):Int)/\True)/\rE v1.2/\True) (Sum.inr (Sum.inl (wrap i64 (v0.1+1),v1.2)))))) (.lf (Sum.inr v0.2))
def Qc3 l host:=(Q8y l host).m
abbrev Q67 l host:=(Q8y l host).p
def Qu8:LInv:={
 α:=(Int)×(List Q0a)
 F:=λst a=>([(1,(lk st 1)),(5,.all 0),(10,(lk st 10)),(11,(lk st 11)),(12,.int i64 a.1)],[⟨false,109,4,.recs RK.apiDemand a.2⟩])
 a0:=λst=>((lk st 12).toInt,(Q55 RK.apiDemand st.rows (rN st 5)))
 ex0:=λst=>[]++[(rX st 5 0)]}
def Qvb:LInv:={
 α:=(Int)×(List Q0a)
 F:=λst a=>([(1,(lk st 1)),(5,.all 1),(7,.ptr 0 0 0),(10,(lk st 10)),(11,(lk st 11)),(12,(lk st 12)),(17,(lk st 17)),(18,.int i64 a.1)],[⟨true,220,7,.gen [[(cT st 7 0),(cT st 7 1),(cT st 7 2),(cT st 7 3),(cT st 7 4),(cT st 7 5),(cT st 7 6)]]⟩,⟨false,109,4,.recs RK.apiDemand a.2⟩])
 a0:=λst=>((lk st 18).toInt,(Q55 RK.apiDemand st.rows (rN st 5)))
 ex0:=λst=>[]++[(rX st 7 0),(rX st 5 1)]}
def Qpv:List (Nat×LInv):=[(3,Qu8),(6,Qvb)]
def Qyv:Q09:=mT 110 [] true [.one (.recs .apiPlaced),.one (.int .i64)] [] (λa r=>Q8y (argR .apiPlaced a 0) (argI a 1)) (λX=>.all 0) (λX=>[⟨false,109,4,.recs .apiDemand X⟩])
theorem Qdt:Q05 pG Qyv:=oT (.nil) Tryz.func110 Tryz.call110 [.row 109 4 (.recs .apiDemand)] Qpv 3
def Q9f(r:Q01)(host:Int):Tree Bool:=
.br (decide (host>=0)) (.lf (decide (host<(r.A4.length:Int)))) (.lf false)
def Q53 r host:=(Q9f r host).m
def Qsf:Q09:=mS 107 [] true [.agg Q01.sig,.one (.int .i64)] [] (λa r=>Q9f (Q01.of (aC a 0)) (argI a 1)) (λX=>.bool X) (λX=>[])
theorem Qbn:Q05 pG Qsf:=oS (.nil) Tryz.func107 Tryz.call107 [] [] 2
def Q62(name:List UInt8):Tree Bool:=
.br (decide ((name.length:Int)>=(1:Int))) (.lf (decide ((name.length:Int)<=(12:Int)))) (.lf false)
def Q84 name:=(Q62 name).m
def Qme:Q09:=mS 105 [] true [.one (.str)] [] (λa r=>Q62 (argS a 0)) (λX=>.bool X) (λX=>[])
theorem Qcw:Q05 pG Qme:=oS (.nil) Tryz.func105 Tryz.call105 [] [] 2
def Qeh(r:Q01)(z:(Int)):Nat:=(r.A0.length-z).toNat
def Qev(r:Q01)(z:(Int)):Nat:=(r.A4.length-z).toNat
def Q7d(r:Q01):Tree Bool:=
.br (decide ((r.A4.length:Int)>(6:Int))) (.lf false) (.br (decide ((r.A0.length:Int)>(8:Int))) (.lf false) (.lp inferInstance (Qeh r 0+1) ((rZ/\((Els.Nil (Els.recs RK.apiPlaced r.A0)\/rE (7:Nat))/\rE r.A0)/\rE ((r.A0.length:Int):Int)/\rE (0:Int)/\True)/\(((Els.Nil (Els.recs RK.apiCapacity r.A4)\/rE (3:Nat))/\rE r.A4)/\((Els.Nil (Els.recs RK.apiPlaced r.A0)\/rE (7:Nat))/\rE r.A0)/\True)/\True) 0 λ(v0:Int)=>.br (decide (v0<(r.A0.length:Int))) (.cn (bV 7 7&&bK 0 7&&decide (0<=v0/\v0<(r.A0.length:Int))) (let E3:=r.A0.getD v0.toNat (RK.dflt RK.apiPlaced);.lv (Q84 E3.B8) λ(x0:Bool)=>.br (!x0) (.lf (Sum.inr false)) (let T1:Tree ((Int)⊕(Bool)):=.lv (Q2h E3.A3) λ(x1:Bool)=>.br (!x1) (.lf (Sum.inr false)) (.lv (Q53 r E3.On.a0) λ(x2:Bool)=>.br (!x2) (.lf (Sum.inr false)) (.lv (Q53 r E3.On.a1) λ(x3:Bool)=>.br (!x3) (.lf (Sum.inr false)) (.br (E3.On.a0==E3.On.a1) (.lf (Sum.inr false)) (.nx ((rZ/\((Els.Nil (Els.recs RK.apiPlaced r.A0)\/rE (7:Nat))/\rE r.A0)/\rE ((r.A0.length:Int):Int)/\rE ((wrap i64 (v0+1)):Int)/\True)/\(((Els.Nil (Els.recs RK.apiCapacity r.A4)\/rE (3:Nat))/\rE r.A4)/\((Els.Nil (Els.recs RK.apiPlaced r.A0)\/rE (7:Nat))/\rE r.A0)/\True)/\True) (Sum.inl (wrap i64 (v0+1)))))));.br (decide (v0>0)) (.cn (bV 7 7&&bK 0 7&&decide (0<=wrap i64 (v0-1)/\wrap i64 (v0-1)<(r.A0.length:Int))) (let E5:=r.A0.getD (dM (wrap i64 (v0-1))) (RK.dflt RK.apiPlaced);.br (Op.bytesLess E3.B8 E5.B8||decide (E3.B8=E5.B8)) (.lf (Sum.inr false)) T1)) T1))) (.lp inferInstance (Qev r 0+1) ((rZ/\((Els.Nil (Els.recs RK.apiCapacity r.A4)\/rE (3:Nat))/\rE r.A4)/\rE ((r.A4.length:Int):Int)/\rE (0:Int)/\True)/\(((Els.Nil (Els.recs RK.apiCapacity r.A4)\/rE (3:Nat))/\rE r.A4)/\((Els.Nil (Els.recs RK.apiPlaced r.A0)\/rE (7:Nat))/\rE r.A0)/\True)/\True) 0 λ(v1:Int)=>.br (decide (v1<(r.A4.length:Int))) (.cn (bV 3 3&&bK 0 3&&decide (0<=v1/\v1<(r.A4.length:Int))) (let E4:=r.A4.getD v1.toNat (RK.dflt RK.apiCapacity);.lv (Q47 E4) λ(x7:Bool)=>.br (!x7) (.lf (Sum.inr (Sum.inr false))) (let T2:Tree ((Int)⊕((Int)⊕(Bool))):=.nx ((rZ/\((Els.Nil (Els.recs RK.apiCapacity r.A4)\/rE (3:Nat))/\rE r.A4)/\rE ((r.A4.length:Int):Int)/\rE ((wrap i64 (v1+1)):Int)/\True)/\(((Els.Nil (Els.recs RK.apiCapacity r.A4)\/rE (3:Nat))/\rE r.A4)/\((Els.Nil (Els.recs RK.apiPlaced r.A0)\/rE (7:Nat))/\rE r.A0)/\True)/\True) (Sum.inl (wrap i64 (v1+1)));.br (E4.Up) (.an (Q67 r.A0 v1) (.lv (Qc3 r.A0 v1) λ(x8:List Q0a)=>.an (Qfd E4 x8) (.lv (Ql8 E4 x8) λ(x9:Bool)=>.br (!x9) (.lf (Sum.inr (Sum.inr false))) T2))) T2))) (.lf (Sum.inr (Sum.inr true))))))
def Q8f r:=(Q7d r).m
abbrev Q4 r:=(Q7d r).p
def Qsd:LInv:={
 α:=(Int)
 F:=λst a=>([(1,.ptr 0 0 0),(18,(lk st 18)),(19,(lk st 19)),(20,.int i64 a)],[⟨true,121,2,.gen [[(cT st 1 0),(cT st 1 1)]]⟩])
 a0:=λst=>(lk st 20).toInt
 ex0:=λst=>[]++[(rX st 1 0)]}
def Qsb:LInv:={
 α:=(Int)
 F:=λst a=>([(1,.ptr 0 0 0),(76,(lk st 76)),(77,(lk st 77)),(78,.int i64 a)],[⟨true,121,2,.gen [[(cT st 1 0),(cT st 1 1)]]⟩])
 a0:=λst=>(lk st 78).toInt
 ex0:=λst=>[]++[(rX st 1 0)]}
def Qo6:List (Nat×LInv):=[(4,Qsd),(12,Qsb)]
def Qwu:Q09:=mT 36 [] true [.agg Q01.sig] [] (λa r=>Q7d (Q01.of (aC a 0))) (λX=>.bool X) (λX=>[])
theorem Qcm:Q05 pG Qwu:=oT (.cons Qcw (.cons Q3j (.cons Qbn (.cons Q6q (.cons Qpa (.cons Qdt (.nil))))))) Tryz.func36 Tryz.call36 [] Qo6 3
def strings_Compare(a b:List UInt8):Int:=
Lib.compareBytes a b
def Qd2(a b:List UInt8):List D:=[.str a,.str b]
def Qcv(a b:List UInt8):List Row:=[]
def Q9o(X:Int):D:=.int .i64 X
def Q9r(X:Int):List Row:=[]
def Qe3:List PT:=[.one (.str),.one (.str)]
def Qd3:List RT:=[]
def Qm8(args:List D)(rows:List Row):Int:=strings_Compare (argS args 0) (argS args 1)
def Qqq:Q09:=mkR 302 [] true Qe3 Qd3 Qm8 Q9o Q9r
theorem Qk1(a b:List UInt8):Q2f pG 302 (Qd2 a b) (Qcv a b) (Q9o (strings_Compare a b)) (Q9r (strings_Compare a b)):=by
 exact v6 Tryz.strings_Compare
set_option maxRecDepth 100000 in
theorem Ql6(args:List D)(rows:List Row):Qc8 Qe3 args 0=Qd2 (argS args 0) (argS args 1):=by kernel_rfl
set_option maxRecDepth 100000 in
theorem Qk2(args:List D)(rows:List Row):Q4d Qd3 rows 0=Qcv (argS args 0) (argS args 1):=by kernel_rfl
set_option maxRecDepth 100000 in
theorem Qn6(X:Int):(ffB (Q9o X)&&ffBR (Q9r X))=true:=by kernel_rfl
theorem Qo5:Q05 pG Qqq:=zO Tryz.call302 (λa r=>by rw[Ql6 a r,Qk2 a r];exact Qk1 (argS a 0) (argS a 1)) (λ_ X=>Qn6 X)
def Qin(p:Q0d)(n:List UInt8):Tree Int:=
.lv (strings_Compare p.B8 n) λ(x0:Int)=>.lf x0
def Q6m p n:=(Qin p n).m
def Qtc:Q09:=mS 301 [] true [.agg Q0d.sig,.one (.str)] [] (λa r=>Qin (Q0d.of (aC a 0)) (argS a 1)) (λX=>.int .i64 X) (λX=>[])
theorem Qgu:Q05 pG Qtc:=oS (.cons Qo5 (.nil)) Tryz.func301 Tryz.call301 [] [] 2
def Q0t(s:List Q04):(List Q04):=
s
def Q1d(s:List Q04):Prop:=
s.length<=1000000000000
def Q1w(s:List Q04):List D:=[.sl 3 (.recs .apiCapacity s) false]
def Q1c(s:List Q04):List Row:=[]
def Q0v(X:List Q04):D:=.all 0
def Q0w(X:List Q04):List Row:=[⟨false,111,3,.recs .apiCapacity X⟩]
def Q5s:List Dir:=[.row 111 3 (.recs .apiCapacity)]
def Q2v:List PT:=[.one (.recs .apiCapacity)]
def Q2p:List RT:=[]
def Q6h(args:List D)(rows:List Row):(List Q04):=Q0t (argR .apiCapacity args 0)
def Q6d(args:List D)(rows:List Row):Prop:=Q1d (argR .apiCapacity args 0)
def Q74:Q09:=mkP 201 [] true Q2v Q2p Q6d Q6h Q0v Q0w
def Q20(s:List Q04)(Leaf:(List Q04)->Prop):Prop:=
(s=[]->Leaf [])/\cand (decide ((24:Nat)*((0:Nat)+s.length)<=(140737488355328:Nat))) (Leaf s)
set_option maxRecDepth 100000 in
theorem Q6u(s:List Q04)(Q:D->List Row->Prop):(fnVC tab [] (LL tab [] Tryz.f201.ntmps 0 [] 2) Tryz.f201 (Q1w s) (Q1c s) λd R=>Q7p (Q1c s).length Q5s d R Q)=Q20 s (λX=>Q (Q0v X) (Q0w X)):=by kernel_rfl
theorem Q5u(s:List Q04)(Leaf:(List Q04)->Prop)(hw:Q1d s)(h:Leaf (Q0t s)):
Q20 s Leaf:=by
 delta Q20
 refine⟨λe=>by rw[e]at h;exact h,?_⟩
 rw[Q02]
 refine⟨dY ?_,h⟩
 have:s.length<=1000000000000:=hw
 omega
set_option maxRecDepth 100000 in
theorem Q5o(s:List Q04)(hw:Q1d s):Q2f pG 201 (Q1w s) (Q1c s) (Q0v (Q0t s)) (Q0w (Q0t s)):=
 have hG:Q57 pG []:=.nil
 FnOK.calls drawn Q0k hG Tryz.func201 (rf:=none) (λ_ _=>trivial) (Z8e drawn Q0k hG (.inl rfl) 2 (invs:=[])) (FnOK.of (Q6u s _) (Q5u s (λX=>Q0v X=Q0v (Q0t s)/\Q0w X=Q0w (Q0t s)) hw ⟨rfl,rfl⟩))
set_option maxRecDepth 100000 in
theorem Q63(args:List D)(rows:List Row):Qc8 Q2v args 0=Q1w (argR .apiCapacity args 0):=by kernel_rfl
set_option maxRecDepth 100000 in
theorem Q5n(args:List D)(rows:List Row):Q4d Q2p rows 0=Q1c (argR .apiCapacity args 0):=by kernel_rfl
set_option maxRecDepth 100000 in
theorem Q6v(X:List Q04):(ffB (Q0v X)&&ffBR (Q0w X))=true:=by kernel_rfl
theorem Q6w:Q05 pG Q74:=Qxh Tryz.call201 (λargs rows hp=>by rw[Q63 args rows,Q5n args rows];exact Q5o (argR .apiCapacity args 0) hp) (λ_ X=>Q6v X)
def Q2m(s1 s2:List Q04)(z:(Int)):Prop:=0<=z/\z<=s1.length/\s1.length=s2.length
def Q1b(s1 s2:List Q04)(z:(Int)):Nat:=(s1.length-z).toNat
def Q0z(s1 s2:List Q04):Tree Bool:=
.br ((s1.length:Int) !=(s2.length:Int)) (.lf false) (.lp inferInstance (Q1b s1 s2 0+1) ((nR RK.apiCapacity 3 s1/\nR RK.apiCapacity 3 s2/\rE ((s1.length:Int):Int)/\rE (0:Int)/\True)/\True) 0 λ(v0:Int)=>.br (decide (v0<(s1.length:Int))) (.cn (bV 3 3&&bK 0 3&&decide (0<=v0/\v0<(s1.length:Int))) (.cn (bV 3 3&&bK 0 3&&decide (0<=v0/\v0<(s2.length:Int))) (let E1:=s1.getD v0.toNat (RK.dflt RK.apiCapacity);let E2:=s2.getD v0.toNat (RK.dflt RK.apiCapacity);.br (!eqs [D.int i64 E1.C0,D.int i64 E1.A7,D.bool E1.Up] [D.int i64 E2.C0,D.int i64 E2.A7,D.bool E2.Up]) (.lf (Sum.inr false)) (.nx ((nR RK.apiCapacity 3 s1/\nR RK.apiCapacity 3 s2/\rE ((s1.length:Int):Int)/\rE ((wrap i64 (v0+1)):Int)/\True)/\True) (Sum.inl (wrap i64 (v0+1))))))) (.lf (Sum.inr true)))
def Q3g s1 s2:=(Q0z s1 s2).m
def Q1e(s1 s2:List Q04):Prop:=
s1.length<=1000000000000
theorem Q6j(s1 s2:List Q04)(hw:Q1e s1 s2):(Q0z s1 s2).p:=by
 simp only[Q1e]at hw
 unfold Tree.p Q0z
 repeat'(first|refine w_lp (inv:=Q2m s1 s2) (μ:=Q1b s1 s2) ?_ (dQ _) (λ_ _=>?_)|exact trivial|refine w_br (λ_=>?_) (λ_=>?_)|refine w_cn ?_ ?_|refine w_an ?_ ?_|refine w_lv (λ_ _=>?_)|refine w_nx ?_|refine w_lf ?_|refine And.intro ?_ ?_)
 all_goals((try simp only[Q2m,Q1b]at*);exact fin0)
def Q6x:LInv:={
 α:=(Int)
 F:=λst a=>([(0,(lk st 0)),(1,(lk st 1)),(12,(lk st 12)),(13,.int i64 a)],[])
 a0:=λst=>(lk st 13).toInt
 ex0:=λst=>[]++[]}
def Q5t:List (Nat×LInv):=[(4,Q6x)]
def Q72:Q09:=mkP 111 [] true [.one (.recs .apiCapacity),.one (.recs .apiCapacity)] [] (λa r=>Q1e (argR .apiCapacity a 0) (argR .apiCapacity a 1)) (λa r=>Q3g (argR .apiCapacity a 0) (argR .apiCapacity a 1)) (λX=>.bool X) (λX=>[])
theorem Q6r:Q05 pG Q72:=Q0o drawn Q0k (.nil) Tryz.func111 Tryz.call111 (λa r=>Q0z (argR .apiCapacity a 0) (argR .apiCapacity a 1)) [] Q5t 3 (hp:=λa r h=>Q6j (argR .apiCapacity a 0) (argR .apiCapacity a 1) h)
def Q0u(s:List Q0d):(List Q0d):=
s
def Q19(s:List Q0d):Prop:=
s.length<=1000000000000
def Q23(s:List Q0d):List D:=[.sl 7 (.recs .apiPlaced s) false]
def Q1m(s:List Q0d):List Row:=[]
def Q13(X:List Q0d):D:=.all 0
def Q12(X:List Q0d):List Row:=[⟨false,220,7,.recs .apiPlaced X⟩]
def Q7r:List Dir:=[.row 220 7 (.recs .apiPlaced)]
def Q3e:List PT:=[.one (.recs .apiPlaced)]
def Q35:List RT:=[]
def Q8(args:List D)(rows:List Row):(List Q0d):=Q0u (argR .apiPlaced args 0)
def Q8d(args:List D)(rows:List Row):Prop:=Q19 (argR .apiPlaced args 0)
def Q92:Q09:=mkP 202 [] true Q3e Q35 Q8d Q8 Q13 Q12
def Q2e(s:List Q0d)(Leaf:(List Q0d)->Prop):Prop:=
(s=[]->Leaf [])/\cand (decide ((64:Nat)*((0:Nat)+s.length)<=(140737488355328:Nat))) (Leaf s)
set_option maxRecDepth 100000 in
theorem Q8l(s:List Q0d)(Q:D->List Row->Prop):(fnVC tab [] (LL tab [] Tryz.f202.ntmps 0 [] 2) Tryz.f202 (Q23 s) (Q1m s) λd R=>Q7p (Q1m s).length Q7r d R Q)=Q2e s (λX=>Q (Q13 X) (Q12 X)):=by kernel_rfl
theorem Q7i(s:List Q0d)(Leaf:(List Q0d)->Prop)(hw:Q19 s)(h:Leaf (Q0u s)):
Q2e s Leaf:=by
 delta Q2e
 refine⟨λe=>by rw[e]at h;exact h,?_⟩
 rw[Q02]
 refine⟨dY ?_,h⟩
 have:s.length<=1000000000000:=hw
 omega
set_option maxRecDepth 100000 in
theorem Q75(s:List Q0d)(hw:Q19 s):Q2f pG 202 (Q23 s) (Q1m s) (Q13 (Q0u s)) (Q12 (Q0u s)):=
 have hG:Q57 pG []:=.nil
 FnOK.calls drawn Q0k hG Tryz.func202 (rf:=none) (λ_ _=>trivial) (Z8e drawn Q0k hG (.inl rfl) 2 (invs:=[])) (FnOK.of (Q8l s _) (Q7i s (λX=>Q13 X=Q13 (Q0u s)/\Q12 X=Q12 (Q0u s)) hw ⟨rfl,rfl⟩))
set_option maxRecDepth 100000 in
theorem Q7h(args:List D)(rows:List Row):Qc8 Q3e args 0=Q23 (argR .apiPlaced args 0):=by kernel_rfl
set_option maxRecDepth 100000 in
theorem Q73(args:List D)(rows:List Row):Q4d Q35 rows 0=Q1m (argR .apiPlaced args 0):=by kernel_rfl
set_option maxRecDepth 100000 in
theorem Q8m(X:List Q0d):(ffB (Q13 X)&&ffBR (Q12 X))=true:=by kernel_rfl
theorem Q3p:Q05 pG Q92:=Qxh Tryz.call202 (λargs rows hp=>by rw[Q7h args rows,Q73 args rows];exact Q75 (argR .apiPlaced args 0) hp) (λ_ X=>Q8m X)
def Q3b(s1 s2:List Q0d)(z:(Int)):Prop:=0<=z/\z<=s1.length/\s1.length=s2.length
def Q1j(s1 s2:List Q0d)(z:(Int)):Nat:=(s1.length-z).toNat
def Q16(s1 s2:List Q0d):Tree Bool:=
.br ((s1.length:Int) !=(s2.length:Int)) (.lf false) (.lp inferInstance (Q1j s1 s2 0+1) ((nR RK.apiPlaced 7 s1/\nR RK.apiPlaced 7 s2/\rE ((s1.length:Int):Int)/\rE (0:Int)/\True)/\True) 0 λ(v0:Int)=>.br (decide (v0<(s1.length:Int))) (.cn (bV 7 7&&bK 0 7&&decide (0<=v0/\v0<(s1.length:Int))) (.cn (bV 7 7&&bK 0 7&&decide (0<=v0/\v0<(s2.length:Int))) (let E1:=s1.getD v0.toNat (RK.dflt RK.apiPlaced);let E2:=s2.getD v0.toNat (RK.dflt RK.apiPlaced);.br (!eqs [D.str E1.B8,D.int i64 E1.A3.B9,D.int i64 E1.A3.D3,D.int i64 E1.A3.A7,D.int i64 E1.A3.C7,D.int i64 E1.On.a0,D.int i64 E1.On.a1] [D.str E2.B8,D.int i64 E2.A3.B9,D.int i64 E2.A3.D3,D.int i64 E2.A3.A7,D.int i64 E2.A3.C7,D.int i64 E2.On.a0,D.int i64 E2.On.a1]) (.lf (Sum.inr false)) (.nx ((nR RK.apiPlaced 7 s1/\nR RK.apiPlaced 7 s2/\rE ((s1.length:Int):Int)/\rE ((wrap i64 (v0+1)):Int)/\True)/\True) (Sum.inl (wrap i64 (v0+1))))))) (.lf (Sum.inr true)))
def Q4c s1 s2:=(Q16 s1 s2).m
def Q1p(s1 s2:List Q0d):Prop:=
s1.length<=1000000000000
theorem Q86(s1 s2:List Q0d)(hw:Q1p s1 s2):(Q16 s1 s2).p:=by
 simp only[Q1p]at hw
 unfold Tree.p Q16
 repeat'(first|refine w_lp (inv:=Q3b s1 s2) (μ:=Q1j s1 s2) ?_ (dQ _) (λ_ _=>?_)|exact trivial|refine w_br (λ_=>?_) (λ_=>?_)|refine w_cn ?_ ?_|refine w_an ?_ ?_|refine w_lv (λ_ _=>?_)|refine w_nx ?_|refine w_lf ?_|refine And.intro ?_ ?_)
 all_goals((try simp only[Q3b,Q1j]at*);exact fin0)
def Q8r:LInv:={
 α:=(Int)
 F:=λst a=>([(0,(lk st 0)),(1,(lk st 1)),(12,(lk st 12)),(13,.int i64 a)],[])
 a0:=λst=>(lk st 13).toInt
 ex0:=λst=>[]++[]}
def Q7c:List (Nat×LInv):=[(4,Q8r)]
def Q8s:Q09:=mkP 112 [] true [.one (.recs .apiPlaced),.one (.recs .apiPlaced)] [] (λa r=>Q1p (argR .apiPlaced a 0) (argR .apiPlaced a 1)) (λa r=>Q4c (argR .apiPlaced a 0) (argR .apiPlaced a 1)) (λX=>.bool X) (λX=>[])
theorem Q8j:Q05 pG Q8s:=Q0o drawn Q0k (.nil) Tryz.func112 Tryz.call112 (λa r=>Q16 (argR .apiPlaced a 0) (argR .apiPlaced a 1)) [] Q7c 3 (hp:=λa r h=>Q86 (argR .apiPlaced a 0) (argR .apiPlaced a 1) h)
def Q1v(x:List Q0d)(target:List UInt8)(z:(Int)×(Int)):Nat:=(z.2-z.1).toNat
def Q0q(x:List Q0d)(target:List UInt8):Tree (Int×Bool):=
.lp inferInstance (Q1v x target (0,(x.length:Int))+1) ((nR RK.apiPlaced 7 x/\rE (target:List UInt8)/\True/\rE ((x.length:Int):Int)/\rE (0:Int)/\rE ((x.length:Int):Int)/\True)/\True) (0,(x.length:Int)) λ(v0:Int×Int)=>.br (decide (v0.1<v0.2)) (let E1:=ishr u64 (wrap u64 (wrap i64 (v0.1+v0.2))) 1;.cn (bV 7 7&&bK 0 7&&decide (0<=wrap i64 E1/\wrap i64 E1<(x.length:Int))) (.lv (Q6m (x.getD (dM (wrap i64 E1)) (RK.dflt RK.apiPlaced)) target) λ(x0:Int)=>.br (decide (x0<0)) (.nx ((nR RK.apiPlaced 7 x/\rE (target:List UInt8)/\True/\rE ((x.length:Int):Int)/\rE ((wrap i64 (wrap i64 (ishr u64 (wrap u64 (wrap i64 (v0.1+v0.2))) 1)+1)):Int)/\rE v0.2/\True)/\True) (Sum.inl (wrap i64 (wrap i64 E1+1),v0.2))) (.nx ((nR RK.apiPlaced 7 x/\rE (target:List UInt8)/\True/\rE ((x.length:Int):Int)/\rE v0.1/\rE ((wrap i64 (ishr u64 (wrap u64 (wrap i64 (v0.1+v0.2))) 1)):Int)/\True)/\True) (Sum.inl (v0.1,wrap i64 E1))))) (.br (decide (v0.1<(x.length:Int))) (.cn (bV 7 7&&bK 0 7&&decide (0<=v0.1/\v0.1<(x.length:Int))) (.lv (Q6m (x.getD v0.1.toNat (RK.dflt RK.apiPlaced)) target) λ(x1:Int)=>.lf (Sum.inr (v0.1,x1==0)))) (.lf (Sum.inr (v0.1,false))))
def Q22 x target:=(Q0q x target).m
abbrev Q1y x target:=(Q0q x target).p
def Q3m:LInv:={
 α:=(Int)×(Int)
 F:=λst a=>([(0,(lk st 0)),(1,(lk st 1)),(2,.clo 301 []),(8,(lk st 8)),(9,.int i64 a.1),(10,.int i64 a.2)],[])
 a0:=λst=>((lk st 9).toInt,(lk st 10).toInt)
 ex0:=λst=>[]++[]}
def Q37:List (Nat×LInv):=[(3,Q3m)]
def Q3n:Q09:=mT 300 [false,false,true] true [.one (.recs .apiPlaced),.one (.str),.clo 301 []] [] (λa r=>Q0q (argR .apiPlaced a 0) (argS a 1)) (λX=>.tup [.int .i64 (X.1),.bool (X.2)]) (λX=>[])
theorem Q3l:Q05 pG Q3n:=oT (.cons Qgu (.nil)) Tryz.func300 Tryz.call300 [] Q37 3
def Q9b(r:Q01)(name:List UInt8):Tree (Int×Bool):=
.an (Q1y r.A0 name) (.lv (Q22 r.A0 name) λ(x0:Int×Bool)=>.lf (x0.1,x0.2))
def Qfs r name:=(Q9b r name).m
abbrev Q9c r name:=(Q9b r name).p
def Qyc:Q09:=mT 203 [] true [.agg Q01.sig,.one (.str)] [] (λa r=>Q9b (Q01.of (aC a 0)) (argS a 1)) (λX=>.tup [.int .i64 (X.1),.bool (X.2)]) (λX=>[])
theorem Qek:Q05 pG Qyc:=oT (.cons Q3l (.cons Qgu (.nil))) Tryz.func203 Tryz.call203 [] [] 2
def Q5h(r:Q01):Tree Q01:=
.an (Q1d r.A4) (.lv (Q0t r.A4) λ(x0:List Q04)=>.an (Q19 r.A0) (.lv (Q0u r.A0) λ(x1:List Q0d)=>.lf ({A4:=x0,A0:=x1})))
def Q2o r:=(Q5h r).m
abbrev Q1t r:=(Q5h r).p
def Qtx:Q09:=mT 100 [] true [.agg Q01.sig] [] (λa r=>Q5h (Q01.of (aC a 0))) (λX=>.agg (Q01.cellsW X (.all 0) (.all 1))) (λX=>[⟨false,111,3,.recs .apiCapacity X.A4⟩,⟨false,220,7,.recs .apiPlaced X.A0⟩])
theorem Qsw:Q05 pG Qtx:=oT (.cons Q6w (.cons Q3p (.nil))) Tryz.func100 Tryz.call100 [.row 111 3 (.recs .apiCapacity),.row 220 7 (.recs .apiPlaced)] [] 2
def Q8v(a b:Q01):Tree Bool:=
.an (Q1e a.A4 b.A4) (.lv (Q3g a.A4 b.A4) λ(x0:Bool)=>.br x0 (.an (Q1p a.A0 b.A0) (.lv (Q4c a.A0 b.A0) λ(x1:Bool)=>.lf x1)) (.lf false))
def Qju a b:=(Q8v a b).m
abbrev Qco a b:=(Q8v a b).p
def Qxy:Q09:=mT 37 [] true [.agg Q01.sig,.agg Q01.sig] [] (λa r=>Q8v (Q01.of (aC a 0)) (Q01.of (aC a 1))) (λX=>.bool X) (λX=>[])
theorem Qxj:Q05 pG Qxy:=oT (.cons Q6r (.cons Q8j (.nil))) Tryz.func37 Tryz.call37 [] [] 2
end
noncomputable section
instance sumInhJe {α β:Type} [Inhabited β]:Inhabited (α⊕β):=⟨.inr default⟩
def Q29:Q09:=⟨206,[true,false,false],false,λargs rows=>match args with|[.all r,.int .i64 i,.int .i64 j]=>(match rows with|[⟨false,ty,sz,.recs .apiPlaced l⟩]=>(match bV r 0&&(bV ty 220&&bV sz 7)with|true=>.absW (0<=i/\i<j/\j<=l.length) (List Q0d) (l.take i.toNat++l.drop j.toNat) (λ_=>.all 0) (λX=>[⟨false,220,7,.recs .apiPlaced X⟩])|false=>.no)|_=>.no)|_=>.no,some 0,false⟩
theorem Q3h:Q05 pG Q29:=by
 refine⟨λ_=>Tryz.call206,λh=>(by cases h),λh=>(by cases h),λh=>(by cases h),λh=>(by cases h),λh=>(by cases h),λk hk args rows α v res rows' hm=>?_,λk hk args rows p α v res rows' hm hp=>?_⟩
 ·simp only[Q29]at hm;repeat(split at hm<;>try(cases hm;done))
 ·cases hk
  simp only[Q29]at hm
  split at hm
  ·rename_i r i j
   split at hm
   ·rename_i ty sz l
    split at hm
    ·rename_i hc
     simp only[aE]at hc
     obtain⟨h1,h2,h3⟩:=hc
     have h1:=bE h1;have h2:=bE h2;have h3:=bE h3
     subst h1;subst h2;subst h3
     cases hm
     obtain⟨p1,p2,p3⟩:=hp
     obtain⟨a,rfl⟩:∃a:Nat,i=a:=⟨i.toNat,by omega⟩
     obtain⟨b,rfl⟩:∃b:Nat,j=b:=⟨j.toNat,by omega⟩
     exact Zbo (by omega) (by simp[Els.l];omega) (by simp[Els.l])
    ·cases hm
   ·cases hm
  ·cases hm
def Q28:Q09:=⟨205,[true,false,true],false,λargs rows=>match args with|[.all r,.int .i64 i,.all q]=>(match rows with|[⟨false,ty,sz,.recs .apiPlaced l⟩,⟨false,ty2,sz2,.recs .apiPlaced x⟩]=>(match(bV r 0&&bV q 1)&&((bV ty 220&&bV sz 7)&&(bV ty2 220&&bV sz2 7))with|true=>.absW (0<=i/\i<=l.length/\x.length=1/\l.length<=1000000) (List Q0d) (l.take i.toNat++x++l.drop i.toNat) (λ_=>.all 0) (λX=>[⟨false,220,7,.recs .apiPlaced X⟩])|false=>.no)|_=>.no)|_=>.no,some 0,false⟩
theorem Q7z:Q05 pG Q28:=by
 refine⟨λ_=>Tryz.call205,λh=>(by cases h),λh=>(by cases h),λh=>(by cases h),λh=>(by cases h),λh=>(by cases h),λk hk args rows α v res rows' hm=>?_,λk hk args rows p α v res rows' hm hp=>?_⟩
 ·simp only[Q28]at hm;repeat(split at hm<;>try(cases hm;done))
 ·cases hk
  simp only[Q28]at hm
  split at hm
  ·rename_i r i q
   split at hm
   ·rename_i ty sz l ty2 sz2 x
    split at hm
    ·rename_i hc
     simp only[aE]at hc
     obtain⟨⟨h1,h2⟩,⟨h3,h4⟩,h5,h6⟩:=hc
     have h1:=bE h1;have h2:=bE h2;have h3:=bE h3;have h4:=bE h4;have h5:=bE h5;have h6:=bE h6
     subst h1;subst h2;subst h3;subst h4;subst h5;subst h6
     cases hm
     obtain⟨p1,p2,p3,p4⟩:=hp
     obtain⟨a,rfl⟩:∃a:Nat,i=a:=⟨i.toNat,by omega⟩
     exact Zb8 (by simp[Els.l];omega) (by simp[Els.l];omega) (by simp[Els.l];omega) (by simp[Els.l])
    ·cases hm
   ·cases hm
  ·cases hm
def Q5d(r:Q01)(o0:Q03):Tree (Q01×Int):=
.br (decide (o0.A<0)) (.lf (r,4200)) (.br (decide (o0.A>(r.A4.length:Int))) (.lf (r,4200)) (.lv (Q47 o0.B1) λ(x0:Bool)=>.br (!x0) (.lf (r,4200)) (.br (o0.A==6) (.lf (r,4203)) (.br (o0.A==(r.A4.length:Int)) (.cn (decide (24*(r.A4.length+1)<=140737488355328)) (let E2:=({A4:=r.A4++[o0.B1],A0:=r.A0}:Q01);.an (Q4 E2) (.lv (Q8f E2) λ(x1:Bool)=>.br (!x1) (.lf (E2,4200)) (.lf (E2,0))))) (.cn (bV 3 3&&bK 0 3&&decide (0<=o0.A/\o0.A<(r.A4.length:Int))) (let E1:=({A4:=fF r.A4 o0.A.toNat o0.B1,A0:=r.A0}:Q01);.an (Q4 E1) (.lv (Q8f E1) λ(x2:Bool)=>.br (!x2) (.lf (E1,4200)) (.lf (E1,0)))))))))
def Qjp r o0:=(Q5d r o0).m
abbrev Qdv r o0:=(Q5d r o0).p
def Qot:Q09:=mkKP 0 101 [true,false] [.agg (Q01.sigW (.row 0) (.row 1)),.agg Q03.sig] [.arr 111 3 (.recs .apiCapacity),.arr 220 7 (.recs .apiPlaced)] (λa r=>Qdv (Q01.ofW (aC a 0) (rowR .apiCapacity r 0) (rowR .apiPlaced r 1)) (Q03.of (aC a 1))) (λa r=>Qjp (Q01.ofW (aC a 0) (rowR .apiCapacity r 0) (rowR .apiPlaced r 1)) (Q03.of (aC a 1))) (λX=>.tup [.agg (Q01.cellsW (X.1) (.all 0) (.all 1)),.int .i64 (X.2)]) (λX=>[⟨false,111,3,.recs .apiCapacity (X.1).A4⟩,⟨false,220,7,.recs .apiPlaced (X.1).A0⟩])
theorem Qoh:Q05 pG Qot:=Qph drawn Q0k (.cons Q6q (.cons Qcm (.nil))) Tryz.func101 Tryz.call101 (λa r=>Q5d (Q01.ofW (aC a 0) (rowR .apiCapacity r 0) (rowR .apiPlaced r 1)) (Q03.of (aC a 1))) [.row 111 3 (.recs .apiCapacity),.row 220 7 (.recs .apiPlaced)] [] 2 (λ_ _ _=>by kernel_rfl) (λ_ _=>rfl) (λ_ _ h=>h)
def Qab(r:Q01)(o0:Q03):Tree (Q01×Int):=
.lv (Q84 o0.B8) λ(x0:Bool)=>.br (!x0) (.lf (r,4200)) (.lv (Q2h o0.A3) λ(x1:Bool)=>.br (!x1) (.lf (r,4200)) (.lv (Q53 r o0.A) λ(x2:Bool)=>.br (!x2) (.lf (r,4200)) (.lv (Q53 r o0.B) λ(x3:Bool)=>.br (!x3) (.lf (r,4200)) (.br (o0.A==o0.B) (.lf (r,4200)) (.an (Q9c r o0.B8) (.lv (Qfs r o0.B8) λ(x4:Int×Bool)=>.br x4.2 (.lf (r,4201)) (.br (decide ((r.A0.length:Int)>=(8:Int))) (.lf (r,4203)) (.cn (bV 3 3&&bK 0 3&&decide (0<=o0.A/\o0.A<(r.A4.length:Int))) (.an (Q67 r.A0 o0.A) (.lv (Qc3 r.A0 o0.A) λ(x5:List Q0a)=>let E1:=r.A4.getD o0.A.toNat (RK.dflt RK.apiCapacity);.an (Q40 E1 x5 o0.A3) (.lv (Q7n E1 x5 o0.A3) λ(x6:Int)=>.br (x6 !=0) (.lf (r,x6)) (.cn (bV 3 3&&bK 0 3&&decide (0<=o0.B/\o0.B<(r.A4.length:Int))) (.an (Q67 r.A0 o0.B) (.lv (Qc3 r.A0 o0.B) λ(x7:List Q0a)=>let E2:=r.A4.getD o0.B.toNat (RK.dflt RK.apiCapacity);.an (Q40 E2 x7 o0.A3) (.lv (Q7n E2 x7 o0.A3) λ(x8:Int)=>.br (x8 !=0) (.lf (r,x8)) (.an (iE (x4.1-0)/\iE ((r.A0.length:Int)-x4.1)/\nat_lit 1=nat_lit 1/\Nat.le (r.A0.length) 1000000) (.lv (dU x4.1.toNat r.A0++[{B8:=o0.B8,A3:=o0.A3,On:={a0:=o0.A,a1:=o0.B}}]++dV x4.1.toNat r.A0) λ(x9:List Q0d)=>.lf ({A4:=r.A4,A0:=x9},0))))))))))))))))))
def Qvw r o0:=(Qab r o0).m
abbrev Qk9 r o0:=(Qab r o0).p
def Z2o:Q09:=mkKP 0 102 [true,false] [.agg (Q01.sigW (.row 0) (.row 1)),.agg Q03.sig] [.arr 111 3 (.recs .apiCapacity),.arr 220 7 (.recs .apiPlaced)] (λa r=>Qk9 (Q01.ofW (aC a 0) (rowR .apiCapacity r 0) (rowR .apiPlaced r 1)) (Q03.of (aC a 1))) (λa r=>Qvw (Q01.ofW (aC a 0) (rowR .apiCapacity r 0) (rowR .apiPlaced r 1)) (Q03.of (aC a 1))) (λX=>.tup [.agg (Q01.cellsW (X.1) (.all 0) (.all 1)),.int .i64 (X.2)]) (λX=>[⟨false,111,3,.recs .apiCapacity (X.1).A4⟩,⟨false,220,7,.recs .apiPlaced (X.1).A0⟩])
theorem Qyy:Q05 pG Z2o:=Qph drawn Q0k (.cons Qcw (.cons Q3j (.cons Qbn (.cons Qek (.cons Qa8 (.cons Qdt (.cons Q7z (.nil)))))))) Tryz.func102 Tryz.call102 (λa r=>Qab (Q01.ofW (aC a 0) (rowR .apiCapacity r 0) (rowR .apiPlaced r 1)) (Q03.of (aC a 1))) [.row 111 3 (.recs .apiCapacity),.row 220 7 (.recs .apiPlaced)] [] 2 (λ_ _ _=>by kernel_rfl) (λ_ _=>rfl) (λ_ _ h=>h)
def Q6e(r:Q01)(o0:Q03):Tree (Q01×Int):=
.an (Q9c r o0.B8) (.lv (Qfs r o0.B8) λ(x0:Int×Bool)=>.br (!x0.2) (.lf (r,4202)) (.an (iE (x0.1-0)/\iE (wrap i64 (x0.1+1)-(x0.1+1))/\iE ((r.A0.length:Int)-wrap i64 (x0.1+1))) (.lv (dU x0.1.toNat r.A0++dV (dM (wrap i64 (x0.1+1))) r.A0) λ(x1:List Q0d)=>.lf ({A4:=r.A4,A0:=x1},0))))
def Ql7 r o0:=(Q6e r o0).m
abbrev Qfc r o0:=(Q6e r o0).p
def Qtd:Q09:=mkKP 0 103 [true,false] [.agg (Q01.sigW (.row 0) (.row 1)),.agg Q03.sig] [.arr 111 3 (.recs .apiCapacity),.arr 220 7 (.recs .apiPlaced)] (λa r=>Qfc (Q01.ofW (aC a 0) (rowR .apiCapacity r 0) (rowR .apiPlaced r 1)) (Q03.of (aC a 1))) (λa r=>Ql7 (Q01.ofW (aC a 0) (rowR .apiCapacity r 0) (rowR .apiPlaced r 1)) (Q03.of (aC a 1))) (λX=>.tup [.agg (Q01.cellsW (X.1) (.all 0) (.all 1)),.int .i64 (X.2)]) (λX=>[⟨false,111,3,.recs .apiCapacity (X.1).A4⟩,⟨false,220,7,.recs .apiPlaced (X.1).A0⟩])
theorem Qqt:Q05 pG Qtd:=Qph drawn Q0k (.cons Qek (.cons Q3h (.nil))) Tryz.func103 Tryz.call103 (λa r=>Q6e (Q01.ofW (aC a 0) (rowR .apiCapacity r 0) (rowR .apiPlaced r 1)) (Q03.of (aC a 1))) [.row 111 3 (.recs .apiCapacity),.row 220 7 (.recs .apiPlaced)] [] 2 (λ_ _ _=>by kernel_rfl) (λ_ _=>rfl) (λ_ _ h=>h)
def Q8z(r:Q01)(o0:Q03):Tree (Q01×Int):=
.an (Q9c r o0.B8) (.lv (Qfs r o0.B8) λ(x0:Int×Bool)=>.br (!x0.2) (.lf (r,4202)) (let T1:Tree ((Q01×Int)):=.lv (Q53 r o0.B) λ(x1:Bool)=>.br (!x1) (.lf (r,4200)) (let E3:=bV 7 7&&bK 0 7&&decide (0<=x0.1/\x0.1<(r.A0.length:Int));.cn E3 (.cn (bK 0 1&&decide (0<=wrap i64 (1-o0.A)/\wrap i64 (1-o0.A)<(↑2:Int))) (let E2:=r.A0.getD x0.1.toNat (RK.dflt RK.apiPlaced);.br (aK (A2.l E2.On) (dM (wrap i64 (1-o0.A))) 0==o0.B) (.lf (r,4200)) (.an (Q19 r.A0) (.lv (Q0u r.A0) λ(x2:List Q0d)=>.an (iE (x0.1-0)/\iE (wrap i64 (x0.1+1)-(x0.1+1))/\iE ((x2.length:Int)-wrap i64 (x0.1+1))) (.lv (dU x0.1.toNat x2++dV (dM (wrap i64 (x0.1+1))) x2) λ(x3:List Q0d)=>.cn (bV 3 3&&bK 0 3&&decide (0<=o0.B/\o0.B<(r.A4.length:Int))) (.an (Q67 x3 o0.B) (.lv (Qc3 x3 o0.B) λ(x4:List Q0a)=>.cn E3 (let E4:=r.A4.getD o0.B.toNat (RK.dflt RK.apiCapacity);.an (Q40 E4 x4 E2.A3) (.lv (Q7n E4 x4 E2.A3) λ(x5:Int)=>.br (x5 !=0) (.lf (r,x5)) (.cn E3 (.cn (bK 0 1&&decide (0<=o0.A/\o0.A<(↑2:Int))) (.lf ({A4:=r.A4,A0:=fF r.A0 x0.1.toNat {B8:=E2.B8,A3:=E2.A3,On:=A2.of 0 (fF (A2.l E2.On) o0.A.toNat o0.B)}},0))))))))))))));.br (o0.A !=0) (.br (o0.A !=1) (.lf (r,4200)) T1) T1))
def Qrl r o0:=(Q8z r o0).m
abbrev Qig r o0:=(Q8z r o0).p
def Qyg:Q09:=mkKP 0 104 [true,false] [.agg (Q01.sigW (.row 0) (.row 1)),.agg Q03.sig] [.arr 111 3 (.recs .apiCapacity),.arr 220 7 (.recs .apiPlaced)] (λa r=>Qig (Q01.ofW (aC a 0) (rowR .apiCapacity r 0) (rowR .apiPlaced r 1)) (Q03.of (aC a 1))) (λa r=>Qrl (Q01.ofW (aC a 0) (rowR .apiCapacity r 0) (rowR .apiPlaced r 1)) (Q03.of (aC a 1))) (λX=>.tup [.agg (Q01.cellsW (X.1) (.all 0) (.all 1)),.int .i64 (X.2)]) (λX=>[⟨false,111,3,.recs .apiCapacity (X.1).A4⟩,⟨false,220,7,.recs .apiPlaced (X.1).A0⟩])
theorem Qvr:Q05 pG Qyg:=Qph drawn Q0k (.cons Qek (.cons Qbn (.cons Q3h (.cons Q3p (.cons Qa8 (.cons Qdt (.nil))))))) Tryz.func104 Tryz.call104 (λa r=>Q8z (Q01.ofW (aC a 0) (rowR .apiCapacity r 0) (rowR .apiPlaced r 1)) (Q03.of (aC a 1))) [.row 111 3 (.recs .apiCapacity),.row 220 7 (.recs .apiPlaced)] [] 2 (λ_ _ _=>by kernel_rfl) (λ_ _=>rfl) (λ_ _ h=>h)
def Q7y(r:Q01)(o0:Q03):Tree (Q01×Int):=
.an (Q4 r) (.lv (Q8f r) λ(x0:Bool)=>.br (!x0) (.an (Q1t r) (.lv (Q2o r) λ(x1:Q01)=>.lf (x1,4200))) (.br (o0.C5==4) (.an (Q1t r) (.lv (Q2o r) λ(x2:Q01)=>.an (Qdv x2 o0) (.lv (Qjp x2 o0) λ(x3:Q01×Int)=>.br (x3.2 !=0) (.an (Q1t r) (.lv (Q2o r) λ(x4:Q01)=>.lf (x4,x3.2))) (.lf (x3.1,0))))) (.br (o0.C5==1) (.an (Q1t r) (.lv (Q2o r) λ(x5:Q01)=>.an (Qk9 x5 o0) (.lv (Qvw x5 o0) λ(x6:Q01×Int)=>.br (x6.2 !=0) (.an (Q1t r) (.lv (Q2o r) λ(x7:Q01)=>.lf (x7,x6.2))) (.lf (x6.1,0))))) (.br (o0.C5==2) (.an (Q1t r) (.lv (Q2o r) λ(x8:Q01)=>.an (Qfc x8 o0) (.lv (Ql7 x8 o0) λ(x9:Q01×Int)=>.br (x9.2 !=0) (.an (Q1t r) (.lv (Q2o r) λ(x10:Q01)=>.lf (x10,x9.2))) (.lf (x9.1,0))))) (.br (o0.C5==3) (.an (Q1t r) (.lv (Q2o r) λ(x11:Q01)=>.an (Qig x11 o0) (.lv (Qrl x11 o0) λ(x12:Q01×Int)=>.br (x12.2 !=0) (.an (Q1t r) (.lv (Q2o r) λ(x13:Q01)=>.lf (x13,x12.2))) (.lf (x12.1,0))))) (.an (Q1t r) (.lv (Q2o r) λ(x14:Q01)=>.lf (x14,4200))))))))
def Q8a r o0:=(Q7y r o0).m
abbrev Qbl r o0:=(Q7y r o0).p
def Qw8:Q09:=mT 35 [] true [.agg Q01.sig,.agg Q03.sig] [] (λa r=>Q7y (Q01.of (aC a 0)) (Q03.of (aC a 1))) (λX=>.tup [.agg (Q01.cellsW (X.1) (.all 0) (.all 1)),.int .i64 (X.2)]) (λX=>[⟨false,111,3,.recs .apiCapacity (X.1).A4⟩,⟨false,220,7,.recs .apiPlaced (X.1).A0⟩])
theorem Qii:Q05 pG Qw8:=oT (.cons Qcm (.cons Qsw (.cons Qoh (.cons Qyy (.cons Qqt (.cons Qvr (.nil))))))) Tryz.func35 Tryz.call35 [.row 111 3 (.recs .apiCapacity),.row 220 7 (.recs .apiPlaced)] [] 2
end
noncomputable section
instance sumInhJf {α β:Type} [Inhabited β]:Inhabited (α⊕β):=⟨.inr default⟩
def Qc9(journal:List UInt8)(z:(Int)×Q01):Nat:=(1000-z.1).toNat
def Q2g(journal:List UInt8):Tree (Q01×(List UInt8)):=
.an (Qbc journal) (.lv (Qhe journal) λ(x0:List Q03×Int)=>.lp inferInstance (Qc9 journal (0,{A4:=[],A0:=[]})+1) ((rE (journal:List UInt8)/\rZ/\rE ([]:List UInt8)/\rE x0.2/\rZ/\True/\rE ((x0.1.length:Int):Int)/\rE (0:Int)/\True)/\(True/\True/\True)/\(True/\True/\True)/\rE x0.1/\rE ([]:List (RK.T RK.apiCapacity))/\rE ([]:List (RK.T RK.apiPlaced))/\True) (0,{A4:=[],A0:=[]}) λ(v0:Int×Q01)=>.br (decide (v0.1<(x0.1.length:Int))) (.cn (bV 11 11&&bK 0 11&&decide (0<=v0.1/\v0.1<(x0.1.length:Int))) (let E1:=x0.1.getD v0.1.toNat (RK.dflt RK.apiManage);.an (Qbl v0.2 E1) (.lv (Q8a v0.2 E1) λ(x1:Q01×Int)=>.br (x1.2==0) (.nx ((rE (journal:List UInt8)/\rZ/\rE ([]:List UInt8)/\rE x0.2/\rZ/\True/\rE ((x0.1.length:Int):Int)/\rE ((wrap i64 (v0.1+1)):Int)/\True)/\(True/\True/\True)/\(True/\True/\True)/\rE x0.1/\rE x1.1.A4/\rE x1.1.A0/\True) (Sum.inl (wrap i64 (v0.1+1),x1.1))) (.nx ((rE (journal:List UInt8)/\rZ/\rE ([]:List UInt8)/\rE x0.2/\rZ/\True/\rE ((x0.1.length:Int):Int)/\rE ((wrap i64 (v0.1+1)):Int)/\True)/\(True/\True/\True)/\(True/\True/\True)/\rE x0.1/\rE v0.2.A4/\rE v0.2.A0/\True) (Sum.inl (wrap i64 (v0.1+1),v0.2)))))) (.cn (decide ((0:Int)<=(0:Int)/\0<=x0.2/\x0.2<=(journal.length:Int))) (.lf (Sum.inr (v0.2,dU (dM x0.2-dM 0) (dV (dM 0) journal))))))
def Qaw journal:=(Q2g journal).m
abbrev Q5x journal:=(Q2g journal).p
def Qnq:LInv:={
 α:=(Int)×Q01
 F:=λst a=>([(0,(lk st 0)),(2,.ptr 0 0 0),(3,(lk st 3)),(5,(lk st 5)),(6,.ptr 1 0 0),(16,.all 2),(17,(lk st 17)),(18,.int i64 a.1)],[⟨true,121,2,.gen [[(cT st 2 0),(cT st 2 1)]]⟩,⟨true,121,2,.gen [[.all 3,.all 4]]⟩,⟨false,113,11,esOf st.rows (rN st 16)⟩,⟨false,111,3,.recs RK.apiCapacity a.2.A4⟩,⟨false,220,7,.recs RK.apiPlaced a.2.A0⟩])
 a0:=λst=>((lk st 18).toInt,(⟨(Q55 RK.apiCapacity st.rows (Q0y (cT st 6 0) 1000000)),(Q55 RK.apiPlaced st.rows (Q0y (cT st 6 1) 1000000))⟩:Q01))
 ex0:=λst=>[]++[(rX st 2 0),(rX st 6 1),(rX st 16 2),(Q0y (cT st 6 0) (st.rows.length+3)),(Q0y (cT st 6 1) (st.rows.length+4))]}
def Ql0:List (Nat×LInv):=[(4,Qnq)]
def Qqi:Q09:=mT 34 [] true [.one (.str)] [] (λa r=>Q2g (argS a 0)) (λX=>.tup [.agg (Q01.cellsW (X.1) (.all 0) (.all 1)),.str (X.2)]) (λX=>[⟨false,111,3,.recs .apiCapacity (X.1).A4⟩,⟨false,220,7,.recs .apiPlaced (X.1).A0⟩])
theorem Qmt:Q05 pG Qqi:=oT (.cons Qi7 (.cons Qii (.nil))) Tryz.func34 Tryz.call34 [.row 111 3 (.recs .apiCapacity),.row 220 7 (.recs .apiPlaced)] Ql0 3
end
noncomputable section
instance sumInhJg {α β:Type} [Inhabited β]:Inhabited (α⊕β):=⟨.inr default⟩
def Qcx(l:List Q03)(made:List Int)(cut:Int)(z:(Int)):Nat:=(l.length-z).toNat
def Qd(l:List Q03)(made:List Int)(cut:Int)(z:(Int)×(List Q03)):Nat:=(made.length-z.1).toNat
def Qct(l:List Q03)(made:List Int)(cut:Int)(z:(List UInt8)×(Int)×(List Int)):Nat:=(1000-z.2.1).toNat
def Qcz(l:List Q03)(made:List Int)(cut:Int)(z:(Int)):Nat:=(1000-z).toNat
def Qcy(l:List Q03)(made:List Int)(cut:Int)(z:(Int)×Q01):Nat:=(1000-z.1).toNat
def Qd5(l:List Q03)(made:List Int)(cut:Int)(z:(List UInt8)×(Int)):Nat:=(1000-z.2).toNat
def Q66(l:List Q03)(made:List Int)(cut:Int):Tree Bool:=
.br (decide ((l.length:Int)>(12:Int))) (.an Q3r (.lv Qa5 λ(x0:Bool)=>.lf x0)) (.br (decide ((made.length:Int)>(15:Int))) (.an Q3r (.lv Qa5 λ(x1:Bool)=>.lf x1)) (.lp inferInstance (Qcx l made cut 0+1) ((nR RK.apiManage 11 l/\((Els.Nil (Els.ints i64 made)\/rE (1:Nat))/\rE (made:List Int))/\rE (cut:Int)/\rE (0:Int)/\True)/\True) 0 λ(v0:Int)=>.br (decide (v0<(l.length:Int))) (.cn (bV 11 11&&bK 0 11&&decide (0<=v0/\v0<(l.length:Int))) (.br (decide ((↑(dR (l.getD v0.toNat (RK.dflt RK.apiManage)).B8):Int)>(20:Int))) (.an Q3r (.lv Qa5 λ(x2:Bool)=>.lf (Sum.inr x2))) (.nx ((nR RK.apiManage 11 l/\((Els.Nil (Els.ints i64 made)\/rE (1:Nat))/\rE (made:List Int))/\rE (cut:Int)/\rE ((wrap i64 (v0+1)):Int)/\True)/\True) (Sum.inl (wrap i64 (v0+1)))))) (.cn (decide (96*(0+l.length)<=140737488355328)) (.lp inferInstance (Qd l made cut (0,l)+1) ((True/\((Els.Nil (Els.ints i64 made)\/rE (1:Nat))/\rE (made:List Int))/\rE (cut:Int)/\rE (0:Int)/\True)/\rE (l:List (RK.T RK.apiManage))/\True) (0,l) λ(v1:Int×List Q03)=>.br (decide (v1.1<(made.length:Int))) (.cn (bV 1 1&&bK 0 1&&decide (0<=v1.1/\v1.1<(made.length:Int))) (.lv (Z2i (made.getD v1.1.toNat 0) 51) λ(x3:Int)=>.cn (decide (96*(v1.2.length+1)<=140737488355328)) (.nx ((True/\((Els.Nil (Els.ints i64 made)\/rE (1:Nat))/\rE (made:List Int))/\rE (cut:Int)/\rE ((wrap i64 (v1.1+1)):Int)/\True)/\rE ((v1.2++[{C5:=wrap i64 (1+hZ x3 4),B8:=[(λ(n:Int)=>dC n.toNat) (wrap u8 (wrap i64 (97+hZ (ishr i64 x3 4) 3)))],A:=hZ (ishr i64 x3 8) 3,B:=hZ (ishr i64 x3 12) 3,A3:={B9:=hZ (ishr i64 x3 16) 5,D3:=9,A7:=hZ (ishr i64 x3 20) 4,C7:=0},B1:={C0:=10,A7:=8,Up:=decide (hZ (ishr i64 x3 24) (4:Int)>(0:Int))}}]):List (RK.T RK.apiManage))/\True) (Sum.inl (wrap i64 (v1.1+1),v1.2++[{C5:=wrap i64 (1+hZ x3 4),B8:=[(λ(n:Int)=>dC n.toNat) (wrap u8 (wrap i64 (97+hZ (ishr i64 x3 4) 3)))],A:=hZ (ishr i64 x3 8) 3,B:=hZ (ishr i64 x3 12) 3,A3:={B9:=hZ (ishr i64 x3 16) 5,D3:=9,A7:=hZ (ishr i64 x3 20) 4,C7:=0},B1:={C0:=10,A7:=8,Up:=decide (hZ (ishr i64 x3 24) (4:Int)>(0:Int))}}]))))) (.lp inferInstance (Qct l made cut ([],0,[])+1) ((True/\rE (cut:Int)/\rE ([]:List UInt8)/\True/\rE (0:Int)/\True)/\rE v1.2/\rE ([]:List Int)/\True) ([],0,[]) λ(v2:List UInt8×Int×List Int)=>.br (decide (v2.2.1<(v1.2.length:Int))) (.cn (bV 11 11&&bK 0 11&&decide (0<=v2.2.1/\v2.2.1<(v1.2.length:Int))) (let E4:=v1.2.getD v2.2.1.toNat (RK.dflt RK.apiManage);.an (Q4v v2.1 E4) (.lv (Q3w v2.1 E4) λ(x4:List UInt8×Bool)=>.br (!x4.2) (.an Q3r (.lv Qa5 λ(x5:Bool)=>.lf (Sum.inr (Sum.inr (Sum.inr x5))))) (.cn (decide (8*(v2.2.2.length+1)<=140737488355328)) (.nx ((True/\rE (cut:Int)/\rE x4.1/\True/\rE ((wrap i64 (v2.2.1+1)):Int)/\True)/\rE v1.2/\rE ((v2.2.2++[(x4.1.length:Int)]):List Int)/\True) (Sum.inl (x4.1,wrap i64 (v2.2.1+1),v2.2.2++[(x4.1.length:Int)]))))))) (let E7:=wrap i64 ((v2.1.length:Int)+(1:Int));.an (Q3u cut E7) (.lv (Qbf cut E7) λ(x6:Int)=>.lp inferInstance (Qcz l made cut 0+1) ((True/\rE v2.1/\True/\rE (x6:Int)/\rE (0:Int)/\True)/\rE v1.2/\rE v2.2.2/\True) 0 λ(v3:Int)=>let T1:Tree ((Int)⊕((List UInt8×Int×List Int)⊕((Int×List Q03)⊕((Int)⊕(Bool))))):=.cn (decide ((0:Int)<=(0:Int)/\0<=x6/\x6<=(v2.1.length:Int))) (let E3:=dU (dM x6-dM 0) (dV (dM 0) v2.1);.an (Q5x E3) (.lv (Qaw E3) λ(x7:Q01×List UInt8)=>.lp inferInstance (Qcy l made cut (0,{A4:=[],A0:=[]})+1) ((True/\rE v2.1/\True/\rE (v3:Int)/\rZ/\rE x7.2/\rZ/\rE (0:Int)/\True)/\rE v1.2/\rE v2.2.2/\(True/\True/\True)/\rE x7.1.A4/\rE x7.1.A0/\(True/\True/\True)/\rE ([]:List (RK.T RK.apiCapacity))/\rE ([]:List (RK.T RK.apiPlaced))/\True) (0,{A4:=[],A0:=[]}) λ(v4:Int×Q01)=>.br (decide (v4.1<v3)) (.cn (bV 11 11&&bK 0 11&&decide (0<=v4.1/\v4.1<(v1.2.length:Int))) (let E5:=v1.2.getD v4.1.toNat (RK.dflt RK.apiManage);.an (Qbl v4.2 E5) (.lv (Q8a v4.2 E5) λ(x8:Q01×Int)=>.nx ((True/\rE v2.1/\True/\rE (v3:Int)/\rZ/\rE x7.2/\rZ/\rE ((wrap i64 (v4.1+1)):Int)/\True)/\rE v1.2/\rE v2.2.2/\(True/\True/\True)/\rE x7.1.A4/\rE x7.1.A0/\(True/\True/\True)/\rE x8.1.A4/\rE x8.1.A0/\True) (Sum.inl (wrap i64 (v4.1+1),x8.1))))) (.an (Q4 x7.1) (.lv (Q8f x7.1) λ(x9:Bool)=>.br (!x9) (.lf (Sum.inr (Sum.inr (Sum.inr (Sum.inr (Sum.inr false)))))) (.an (Qco x7.1 v4.2) (.lv (Qju x7.1 v4.2) λ(x10:Bool)=>.br (!x10) (.lf (Sum.inr (Sum.inr (Sum.inr (Sum.inr (Sum.inr false)))))) (let T2:Tree ((Int×Q01)⊕((Int)⊕((List UInt8×Int×List Int)⊕((Int×List Q03)⊕((Int)⊕(Bool)))))):=.lp inferInstance (Qd5 l made cut (x7.2,v3)+1) ((True/\rE v2.1/\rE x7.2/\rE (v3:Int)/\True)/\rE v1.2/\True) (x7.2,v3) λ(v5:List UInt8×Int)=>.br (decide (v5.2<(v1.2.length:Int))) (.cn (bV 11 11&&bK 0 11&&decide (0<=v5.2/\v5.2<(v1.2.length:Int))) (let E6:=v1.2.getD v5.2.toNat (RK.dflt RK.apiManage);.an (Q4v v5.1 E6) (.lv (Q3w v5.1 E6) λ(x11:List UInt8×Bool)=>.nx ((True/\rE v2.1/\rE x11.1/\rE ((wrap i64 (v5.2+1)):Int)/\True)/\rE v1.2/\True) (Sum.inl (x11.1,wrap i64 (v5.2+1)))))) (.an (Q5x v2.1) (.lv (Qaw v2.1) λ(x12:Q01×List UInt8)=>.an (Q5x v5.1) (.lv (Qaw v5.1) λ(x13:Q01×List UInt8)=>.br (decide (v5.1=v2.1)) (.br (decide (x12.2=v2.1)) (.an (Qco x12.1 x13.1) (.lv (Qju x12.1 x13.1) λ(x14:Bool)=>.br x14 (.an (Q4 x12.1) (.lv (Q8f x12.1) λ(x15:Bool)=>.br x15 (.an Q3r (.lv Qa5 λ(x16:Bool)=>.lf (Sum.inr (Sum.inr (Sum.inr (Sum.inr (Sum.inr (Sum.inr x16)))))))) (.lf (Sum.inr (Sum.inr (Sum.inr (Sum.inr (Sum.inr (Sum.inr false))))))))) (.lf (Sum.inr (Sum.inr (Sum.inr (Sum.inr (Sum.inr (Sum.inr false))))))))) (.lf (Sum.inr (Sum.inr (Sum.inr (Sum.inr (Sum.inr (Sum.inr false)))))))) (.lf (Sum.inr (Sum.inr (Sum.inr (Sum.inr (Sum.inr (Sum.inr false))))))))));.br (decide (v3>0)) (.cn (bV 1 1&&bK 0 1&&decide (0<=wrap i64 (v3-1)/\wrap i64 (v3-1)<(v2.2.2.length:Int))) (.cn (decide ((0:Int)<=(0:Int)/\0<=v2.2.2.getD (dM (wrap i64 (v3-1))) 0/\v2.2.2.getD (dM (wrap i64 (v3-1))) 0<=(v2.1.length:Int))) (.br (!decide (x7.2=dU (dM (v2.2.2.getD (dM (wrap i64 (v3-1))) 0)-dM 0) (dV (dM 0) v2.1))) (.lf (Sum.inr (Sum.inr (Sum.inr (Sum.inr (Sum.inr false)))))) (.br (v3==0) (.br (!decide (x7.2=[])) (.lf (Sum.inr (Sum.inr (Sum.inr (Sum.inr (Sum.inr false)))))) T2) T2)))) (.br (v3==0) (.br (!decide (x7.2=[])) (.lf (Sum.inr (Sum.inr (Sum.inr (Sum.inr (Sum.inr false)))))) T2) T2))))))));.br (decide (v3<(v2.2.2.length:Int))) (.cn (bV 1 1&&bK 0 1&&decide (0<=v3/\v3<(v2.2.2.length:Int))) (.br (decide (v2.2.2.getD v3.toNat 0<=x6)) (.nx ((True/\rE v2.1/\True/\rE (x6:Int)/\rE ((wrap i64 (v3+1)):Int)/\True)/\rE v1.2/\rE v2.2.2/\True) (Sum.inl (wrap i64 (v3+1)))) T1)) T1)))))))
def Qfz l made cut:=(Q66 l made cut).m
abbrev Qms l made cut:=(Q66 l made cut).p
def Qp6:LInv:={
 α:=(Int)
 F:=λst a=>([(0,(lk st 0)),(1,(lk st 1)),(2,(lk st 2)),(7,.int i64 a)],[])
 a0:=λst=>(lk st 7).toInt
 ex0:=λst=>[]++[]}
def Qpz:LInv:={
 α:=(Int)×(List Q03)
 F:=λst a=>([(0,.all 0),(1,(lk st 1)),(2,(lk st 2)),(8,.int i64 a.1)],[⟨false,113,11,.recs RK.apiManage a.2⟩])
 a0:=λst=>((lk st 8).toInt,(Q55 RK.apiManage st.rows (rN st 0)))
 ex0:=λst=>[]++[(rX st 0 0)]}
def Qpf:LInv:={
 α:=(List UInt8)×(Int)×(List Int)
 F:=λst a=>([(0,.all 0),(2,(lk st 2)),(10,.str a.1),(11,.all 1),(12,.int i64 a.2.1)],[⟨false,113,11,esOf st.rows (rN st 0)⟩,⟨false,3,1,.ints i64 a.2.2⟩])
 a0:=λst=>((lk st 10).toStr,(lk st 12).toInt,(Qfh st.rows (rN st 11)))
 ex0:=λst=>[]++[(rX st 0 0),(rX st 11 1)]}
def Qqb:LInv:={
 α:=(Int)
 F:=λst a=>([(0,.all 0),(10,(lk st 10)),(11,.all 1),(15,(lk st 15)),(16,.int i64 a)],[⟨false,113,11,esOf st.rows (rN st 0)⟩,⟨false,3,1,esOf st.rows (rN st 11)⟩])
 a0:=λst=>(lk st 16).toInt
 ex0:=λst=>[]++[(rX st 0 0),(rX st 11 1)]}
def Qq6:LInv:={
 α:=(Int)×Q01
 F:=λst a=>([(0,.all 0),(10,(lk st 10)),(11,.all 1),(16,(lk st 16)),(17,.ptr 2 0 0),(18,(lk st 18)),(19,.ptr 5 0 0),(20,.int i64 a.1)],[⟨false,113,11,esOf st.rows (rN st 0)⟩,⟨false,3,1,esOf st.rows (rN st 11)⟩,⟨true,121,2,.gen [[.all 3,.all 4]]⟩,⟨false,111,3,esOf st.rows (Q0y (cT st 17 0) 1000000)⟩,⟨false,220,7,esOf st.rows (Q0y (cT st 17 1) 1000000)⟩,⟨true,121,2,.gen [[.all 6,.all 7]]⟩,⟨false,111,3,.recs RK.apiCapacity a.2.A4⟩,⟨false,220,7,.recs RK.apiPlaced a.2.A0⟩])
 a0:=λst=>((lk st 20).toInt,(⟨(Q55 RK.apiCapacity st.rows (Q0y (cT st 19 0) 1000000)),(Q55 RK.apiPlaced st.rows (Q0y (cT st 19 1) 1000000))⟩:Q01))
 ex0:=λst=>[]++[(rX st 0 0),(rX st 11 1),(rX st 17 2),(Q0y (cT st 17 0) (st.rows.length+3)),(Q0y (cT st 17 1) (st.rows.length+4)),(rX st 19 5),(Q0y (cT st 19 0) (st.rows.length+6)),(Q0y (cT st 19 1) (st.rows.length+7))]}
def Qq1:LInv:={
 α:=(List UInt8)×(Int)
 F:=λst a=>([(0,.all 0),(10,(lk st 10)),(18,.str a.1),(21,.int i64 a.2)],[⟨false,113,11,esOf st.rows (rN st 0)⟩])
 a0:=λst=>((lk st 18).toStr,(lk st 21).toInt)
 ex0:=λst=>[]++[(rX st 0 0)]}
def Qmg:List (Nat×LInv):=[(4,Qp6),(10,Qpz),(17,Qpf),(26,Qqb),(31,Qq6),(37,Qq1)]
def Qs8:Q09:=mT 5 [] true [.one (.recs .apiManage),.one (.ints .i64),.one (.int .i64)] [] (λa r=>Q66 (argR .apiManage a 0) (argL .i64 a 1) (argI a 2)) (λX=>.bool X) (λX=>[])
theorem Qq5:Q05 pG Qs8:=oT (.cons Z6b (.cons Z89 (.cons Qqm (.cons Z1e (.cons Qmt (.cons Qii (.cons Qcm (.cons Qxj (.nil))))))))) Tryz.func5 Tryz.call5 [] Qmg 3

import Derived.Test.YtmalmklaonainaaGreatReplayStopsZd
import Derived.Test.YtmalmklaonainaaGreatReplayStopsZx
open Nat renaming beq->bS, blt->bT, lt_succ_self->cK
open List renaming getD->aK, length->dH, append->cO, take->cY, drop->cZ
open Int renaming toNat->dC
set_option maxRecDepth 100000
set_option linter.all false
namespace Go.Proofs.YtmalmklaonainaaGreat
open Go Go.GD Go.IntKind
noncomputable section
instance sumInhZi {α β:Type} [Inhabited β]:Inhabited (α⊕β):=⟨.inr default⟩
def Qsn(src:List UInt8)(z:(Int)×(List Int)):Nat:=((Z5c src).2.1.length-z.1).toNat
def Qsk(src:List UInt8)(v0:Int×List Int)(z:(Int)×(List Int)):Nat:=(1024-z.1).toNat
def Q9s(src:List UInt8):Tree ((List Int)×Q1j):=
.an (Qmz src) (.lv (Z5c src) λ(x0:List Q28×List Q0b×Q1j)=> .br (x0.2.2.Err !=0) (.lf ([],x0.2.2)) (.lp inferInstance (Qsn src (0,[])+1) ((True/\rZ/\True/\True/\True/\rE (0:Int)/\True)/\(rE (0:Int)/\rE (0:Int)/\True)/\rE x0.1/\rE x0.2.1/\rE ([]:List Int)/\True) (0,[]) λ(v0:Int×List Int)=> .br (decide (v0.1<(x0.2.1.length:Int))) (.cn (bS 6 6&&bT 0 6&&decide (0<=v0.1/\v0.1<(x0.2.1.length:Int))) (let E4:=x0.2.1.getD v0.1.toNat (RK.dflt RK.vmfleetref1Statement);let T1:Tree ((Int×List Int)⊕(((List Int)×Q1j))):= .lp inferInstance (Qsk src v0 (0,v0.2)+1) ((True/\rZ/\True/\True/\True/\rE v0.1/\rZ/\rE (0:Int)/\True)/\(rE (0:Int)/\rE (0:Int)/\True)/\rE x0.1/\rE x0.2.1/\(rE ((x0.2.1.getD v0.1.toNat (RK.dflt RK.vmfleetref1Statement)).what:List UInt8)/\rE ((x0.2.1.getD v0.1.toNat (RK.dflt RK.vmfleetref1Statement)).op:Int)/\((Els.Nil (D.toEs (aK (Els.get (Els.recs RK.vmfleetref1Statement x0.2.1) v0.1.toNat) ((0:Nat)+(1:Nat)+(1:Nat)) D.dead))\/rE (3:Nat))/\rE ((x0.2.1.getD v0.1.toNat (RK.dflt RK.vmfleetref1Statement)).l:List (RK.T RK.vmfleetref1Arg)))/\rE ((x0.2.1.getD v0.1.toNat (RK.dflt RK.vmfleetref1Statement)).D7:Int)/\rE ((x0.2.1.getD v0.1.toNat (RK.dflt RK.vmfleetref1Statement)).at_:Int)/\rE ((x0.2.1.getD v0.1.toNat (RK.dflt RK.vmfleetref1Statement)).size:Int)/\True)/\rE v0.2/\True) (0,v0.2) λ(v1:Int×List Int)=> .br (decide (v1.1<E4.size)) (.cn (decide (4*(v1.2.length+1)<=140737488355328)) (.nx ((True/\rZ/\True/\True/\True/\rE v0.1/\rZ/\rE ((wrap i64 (v1.1+1)):Int)/\True)/\(rE (0:Int)/\rE (0:Int)/\True)/\rE x0.1/\rE x0.2.1/\(rE ((x0.2.1.getD v0.1.toNat (RK.dflt RK.vmfleetref1Statement)).what:List UInt8)/\rE ((x0.2.1.getD v0.1.toNat (RK.dflt RK.vmfleetref1Statement)).op:Int)/\((Els.Nil (Els.recs RK.vmfleetref1Arg (x0.2.1.getD v0.1.toNat (RK.dflt RK.vmfleetref1Statement)).l)\/rE (3:Nat))/\rE ((x0.2.1.getD v0.1.toNat (RK.dflt RK.vmfleetref1Statement)).l:List (RK.T RK.vmfleetref1Arg)))/\rE ((x0.2.1.getD v0.1.toNat (RK.dflt RK.vmfleetref1Statement)).D7:Int)/\rE ((x0.2.1.getD v0.1.toNat (RK.dflt RK.vmfleetref1Statement)).at_:Int)/\rE ((x0.2.1.getD v0.1.toNat (RK.dflt RK.vmfleetref1Statement)).size:Int)/\True)/\rE ((v1.2++[0]):List Int)/\True) (Sum.inl (wrap i64 (v1.1+1),v1.2++[0])))) (.nx ((True/\rZ/\True/\True/\True/\rE ((wrap i64 (v0.1+1)):Int)/\True)/\(rE (0:Int)/\rE (0:Int)/\True)/\rE x0.1/\rE x0.2.1/\rE v1.2/\True) (Sum.inr (Sum.inl (wrap i64 (v0.1+1),v1.2))));let E5:=bS 3 3&&bT 0 3&&decide ((0:Int)<=(0:Int)/\0<(↑(dH E4.l):Int));let E7:=aK E4.l (dC 0) (RK.dflt RK.vmfleetref1Arg);let E8:=decide (4*(v0.2.length+1)<=140737488355328);let T2:Tree ((Int×List Int)⊕(((List Int)×Q1j))):= .cn E5 (.cn (bS 3 3&&bT 0 3&&decide ((0:Int)<=(1:Int)/\1<(↑(dH E4.l):Int))) (.lv (Q1q {Op:=16,A:=E7.reg,B:=(aK E4.l (dC 1) (RK.dflt RK.vmfleetref1Arg)).reg,C:=0,Imm:=0}) λ(x4:Int×Bool)=> .cn E8 (.nx ((True/\rZ/\True/\True/\True/\rE ((wrap i64 (v0.1+1)):Int)/\True)/\(rE (0:Int)/\rE (0:Int)/\True)/\rE x0.1/\rE x0.2.1/\rE ((v0.2++[x4.1]):List Int)/\True) (Sum.inl (wrap i64 (v0.1+1),v0.2++[x4.1])))));let T3:Tree ((Int×List Int)⊕(((List Int)×Q1j))):= .lv (Q1q {Op:=16,A:=0,B:=0,C:=0,Imm:=0}) λ(x5:Int×Bool)=> .cn E8 (.nx ((True/\rZ/\True/\True/\True/\rE ((wrap i64 (v0.1+1)):Int)/\True)/\(rE (0:Int)/\rE (0:Int)/\True)/\rE x0.1/\rE x0.2.1/\rE ((v0.2++[x5.1]):List Int)/\True) (Sum.inl (wrap i64 (v0.1+1),v0.2++[x5.1])));let E9:=decide (E4.what=[(46:UInt8),115,112,97,99,101]);let E10:=decide (E4.what=[(46:UInt8),119,111,114,100]);let E12:=decide (E4.what=[(110:UInt8),111,112]);let E13:=decide (4*(v0.2.length+2)<=140737488355328);let E14:=decide (E4.what=[(108:UInt8),105]);let E15:=decide (E4.what=[(109:UInt8),118]); .br (decide ((↑(dH E4.l):Int)>(0:Int))) (.cn (bS 3 3&&bT 0 3&&decide (0<=wrap i64 ((↑(dH E4.l):Int)-(1:Int))/\wrap i64 ((↑(dH E4.l):Int)-(1:Int))<(↑(dH E4.l):Int))) (let E6:=aK E4.l (dC (wrap i64 ((↑(dH E4.l):Int)-(1:Int)))) (RK.dflt RK.vmfleetref1Arg); .br (!decide (E6.label=[])) (.an (Q3o x0.1 E6.label) (.lv (Qou x0.1 E6.label) λ(x1:Int×Bool)=> .br (!x1.2) (.lf (Sum.inr ([],{Err:=302,Line:=E4.D7}))) (.br (decide (E4.op>0)) (let E11:=wrap i64 (wrap i64 (Int.tdiv (wrap i64 x1.1) 4)-E4.at_); .br E10 (.cn E8 (.nx ((True/\rZ/\True/\True/\True/\rE ((wrap i64 (v0.1+1)):Int)/\True)/\(rE (0:Int)/\rE (0:Int)/\True)/\rE x0.1/\rE x0.2.1/\rE ((v0.2++[wrap u32 (wrap i64 (wrap i64 (Int.tdiv (wrap i64 x1.1) 4)-(x0.2.1.getD v0.1.toNat (RK.dflt RK.vmfleetref1Statement)).at_))]):List Int)/\True) (Sum.inl (wrap i64 (v0.1+1),v0.2++[wrap u32 E11])))) (.br E9 T1 (.br E14 (.cn E5 (.lv (Q1q {Op:=24,A:=E7.reg,B:=0,C:=0,Imm:=wrap i32 (ishr u32 (wrap u32 E11) 16)}) λ(x2:Int×Bool)=> .cn E5 (.cn E5 (.lv (Q1q {Op:=18,A:=E7.reg,B:=E7.reg,C:=0,Imm:=wrap i32 (iand u32 (wrap u32 E11) 65535)}) λ(x3:Int×Bool)=> .cn E13 (.nx ((True/\rZ/\True/\True/\True/\rE ((wrap i64 (v0.1+1)):Int)/\True)/\(rE (0:Int)/\rE (0:Int)/\True)/\rE x0.1/\rE x0.2.1/\rE ((v0.2++[x2.1,x3.1]):List Int)/\True) (Sum.inl (wrap i64 (v0.1+1),v0.2++[x2.1,x3.1]))))))) (.br E15 T2 (.br E12 T3 (.an (Qax E4 E11) (.lv (Qob E4 E11) λ(x6:Int×Bool)=> .br (!x6.2) (.lf (Sum.inr ([],{Err:=304,Line:=E4.D7}))) (.cn E8 (.nx ((True/\rZ/\True/\True/\True/\rE ((wrap i64 (v0.1+1)):Int)/\True)/\(rE (0:Int)/\rE (0:Int)/\True)/\rE x0.1/\rE x0.2.1/\rE ((v0.2++[x6.1]):List Int)/\True) (Sum.inl (wrap i64 (v0.1+1),v0.2++[x6.1]))))))))))) (.br E10 (.cn E8 (.nx ((True/\rZ/\True/\True/\True/\rE ((wrap i64 (v0.1+1)):Int)/\True)/\(rE (0:Int)/\rE (0:Int)/\True)/\rE x0.1/\rE x0.2.1/\rE ((v0.2++[wrap u32 (wrap i64 x1.1)]):List Int)/\True) (Sum.inl (wrap i64 (v0.1+1),v0.2++[wrap u32 (wrap i64 x1.1)])))) (.br E9 T1 (.br E14 (.cn E5 (.lv (Q1q {Op:=24,A:=E7.reg,B:=0,C:=0,Imm:=wrap i32 (ishr u32 (wrap u32 (wrap i64 x1.1)) 16)}) λ(x7:Int×Bool)=> .cn E5 (.cn E5 (.lv (Q1q {Op:=18,A:=E7.reg,B:=E7.reg,C:=0,Imm:=wrap i32 (iand u32 (wrap u32 (wrap i64 x1.1)) 65535)}) λ(x8:Int×Bool)=> .cn E13 (.nx ((True/\rZ/\True/\True/\True/\rE ((wrap i64 (v0.1+1)):Int)/\True)/\(rE (0:Int)/\rE (0:Int)/\True)/\rE x0.1/\rE x0.2.1/\rE ((v0.2++[x7.1,x8.1]):List Int)/\True) (Sum.inl (wrap i64 (v0.1+1),v0.2++[x7.1,x8.1]))))))) (.br E15 T2 (.br E12 T3 (.an (Qax E4 (wrap i64 x1.1)) (.lv (Qob E4 (wrap i64 x1.1)) λ(x11:Int×Bool)=> .br (!x11.2) (.lf (Sum.inr ([],{Err:=304,Line:=E4.D7}))) (.cn E8 (.nx ((True/\rZ/\True/\True/\True/\rE ((wrap i64 (v0.1+1)):Int)/\True)/\(rE (0:Int)/\rE (0:Int)/\True)/\rE x0.1/\rE x0.2.1/\rE ((v0.2++[x11.1]):List Int)/\True) (Sum.inl (wrap i64 (v0.1+1),v0.2++[x11.1])))))))))))))) (.br E10 (.cn E8 (.nx ((True/\rZ/\True/\True/\True/\rE ((wrap i64 (v0.1+1)):Int)/\True)/\(rE (0:Int)/\rE (0:Int)/\True)/\rE x0.1/\rE x0.2.1/\rE ((v0.2++[wrap u32 (aK (x0.2.1.getD v0.1.toNat (RK.dflt RK.vmfleetref1Statement)).l (dC (wrap i64 ((↑(dH (x0.2.1.getD v0.1.toNat (RK.dflt RK.vmfleetref1Statement)).l):Int)-(1:Int)))) (RK.dflt RK.vmfleetref1Arg)).num]):List Int)/\True) (Sum.inl (wrap i64 (v0.1+1),v0.2++[wrap u32 E6.num])))) (.br E9 T1 (.br E14 (.cn E5 (.lv (Q1q {Op:=24,A:=E7.reg,B:=0,C:=0,Imm:=wrap i32 (ishr u32 (wrap u32 E6.num) 16)}) λ(x12:Int×Bool)=> .cn E5 (.cn E5 (.lv (Q1q {Op:=18,A:=E7.reg,B:=E7.reg,C:=0,Imm:=wrap i32 (iand u32 (wrap u32 E6.num) 65535)}) λ(x13:Int×Bool)=> .cn E13 (.nx ((True/\rZ/\True/\True/\True/\rE ((wrap i64 (v0.1+1)):Int)/\True)/\(rE (0:Int)/\rE (0:Int)/\True)/\rE x0.1/\rE x0.2.1/\rE ((v0.2++[x12.1,x13.1]):List Int)/\True) (Sum.inl (wrap i64 (v0.1+1),v0.2++[x12.1,x13.1]))))))) (.br E15 T2 (.br E12 T3 (.an (Qax E4 E6.num) (.lv (Qob E4 E6.num) λ(x16:Int×Bool)=> .br (!x16.2) (.lf (Sum.inr ([],{Err:=304,Line:=E4.D7}))) (.cn E8 (.nx ((True/\rZ/\True/\True/\True/\rE ((wrap i64 (v0.1+1)):Int)/\True)/\(rE (0:Int)/\rE (0:Int)/\True)/\rE x0.1/\rE x0.2.1/\rE ((v0.2++[x16.1]):List Int)/\True) (Sum.inl (wrap i64 (v0.1+1),v0.2++[x16.1]))))))))))))) (.br E10 (.cn E8 (.nx ((True/\rZ/\True/\True/\True/\rE ((wrap i64 (v0.1+1)):Int)/\True)/\(rE (0:Int)/\rE (0:Int)/\True)/\rE x0.1/\rE x0.2.1/\rE ((v0.2++[wrap u32 0]):List Int)/\True) (Sum.inl (wrap i64 (v0.1+1),v0.2++[wrap u32 0])))) (.br E9 T1 (.br E14 (.cn E5 (.lv (Q1q {Op:=24,A:=E7.reg,B:=0,C:=0,Imm:=wrap i32 (ishr u32 (wrap u32 0) 16)}) λ(x17:Int×Bool)=> .cn E5 (.cn E5 (.lv (Q1q {Op:=18,A:=E7.reg,B:=E7.reg,C:=0,Imm:=wrap i32 (iand u32 (wrap u32 0) 65535)}) λ(x18:Int×Bool)=> .cn E13 (.nx ((True/\rZ/\True/\True/\True/\rE ((wrap i64 (v0.1+1)):Int)/\True)/\(rE (0:Int)/\rE (0:Int)/\True)/\rE x0.1/\rE x0.2.1/\rE ((v0.2++[x17.1,x18.1]):List Int)/\True) (Sum.inl (wrap i64 (v0.1+1),v0.2++[x17.1,x18.1]))))))) (.br E15 T2 (.br E12 T3 (.an (Qax E4 0) (.lv (Qob E4 0) λ(x21:Int×Bool)=> .br (!x21.2) (.lf (Sum.inr ([],{Err:=304,Line:=E4.D7}))) (.cn E8 (.nx ((True/\rZ/\True/\True/\True/\rE ((wrap i64 (v0.1+1)):Int)/\True)/\(rE (0:Int)/\rE (0:Int)/\True)/\rE x0.1/\rE x0.2.1/\rE ((v0.2++[x21.1]):List Int)/\True) (Sum.inl (wrap i64 (v0.1+1),v0.2++[x21.1]))))))))))))) (.lf (Sum.inr (v0.2,{Err:=0,Line:=0})))))
def Q1h src:=(Q9s src).m
abbrev Qar src:=(Q9s src).p
def Z03:LInv:={
 α:=(Int)×(List Int)
 F:=λst a=>([(2,(lk st 2)),(3, .ptr 0 0 0),(4, .all 1),(5, .all 2),(7, .all 3),(8, .int i64 a.1)],[⟨true,59,2, .gen [[(cT st 3 0),(cT st 3 1)]]⟩,⟨false,257,2,esOf st.rows (rN st 4)⟩,⟨false,181,6,esOf st.rows (rN st 5)⟩,⟨false,25,1, .ints u32 a.2⟩])
 a0:=λst=>((lk st 8).toInt,(Q46 st.rows (rN st 7)))
 ex0:=λst=>[]++[(rX st 3 0),(rX st 4 1),(rX st 5 2),(rX st 7 3)]}
def Z02:LInv:={
 α:=(Int)×(List Int)
 F:=λst a=>([(2,(lk st 2)),(3, .ptr 0 0 0),(4, .all 1),(5, .all 2),(7, .all 4),(8,(lk st 8)),(9, .ptr 3 0 0),(14, .int i64 a.1)],[⟨true,59,2, .gen [[(cT st 3 0),(cT st 3 1)]]⟩,⟨false,257,2,esOf st.rows (rN st 4)⟩,⟨false,181,6,esOf st.rows (rN st 5)⟩,⟨true,181,6, .gen [[(cT st 9 0),(cT st 9 1),(cT st 9 2),(cT st 9 3),(cT st 9 4),(cT st 9 5)]]⟩,⟨false,25,1, .ints u32 a.2⟩])
 a0:=λst=>((lk st 14).toInt,(Q46 st.rows (rN st 7)))
 ex0:=λst=>[]++[(rX st 3 0),(rX st 4 1),(rX st 5 2),(rX st 9 3),(rX st 7 4)]}
def Quy:List (Nat×LInv):=[(6,Z03),(29,Z02)]
def Z3g:Q0e:=mT 36 [] true [.one (.str)] [] (λa r=>Q9s (argS a 0)) (λX=> .tup [.all 0, .agg (Q1j.cells (X.2))]) (λX=>[⟨false,25,1, .ints .u32 (X.1)⟩])
theorem Z0s:Q06 pG Z3g:=oT (.cons Zhb (.cons Qpu (.cons Qkx (.cons Zf4 (.nil))))) Tryz.func36 Tryz.call36 [.row 25 1 (.ints .u32)] Quy 3
end
noncomputable section
instance sumInhZh {α β:Type} [Inhabited β]:Inhabited (α⊕β):=⟨.inr default⟩
def Q3x(m:Q00):Tree Q01:=
.an (Qd6 m) (.lv (Qk2 m) λ(x0:Q00)=> .lf ({A0:=x0,A3:=0,B4:=[],A6:=[]}))
def Q41 m:=(Q3x m).m
abbrev Qg7 m:=(Q3x m).p
def Qsm:Q0e:=mT 148 [] true [.agg Q00.sig] [] (λa r=>Q3x (Q00.of (aC a 0))) (λX=> .agg (Q01.cellsW X (.all 0) (.all 1) (.all 2))) (λX=>[⟨false,25,1, .ints .u32 X.A0.Mem⟩,⟨false,126,4, .recs .apiEntry X.B4⟩,⟨false,66,3, .recs .apiEvent X.A6⟩])
theorem Qr2:Q06 pG Qsm:=oT (.cons Qmr (.nil)) Tryz.func148 Tryz.call148 [.row 25 1 (.ints .u32), .row 126 4 (.recs .apiEntry), .row 66 3 (.recs .apiEvent)] [] 2
def Q89(r:Q01)(n:Int):Tree (Q01×(List Q03)):=
.lv (Q3c n 3) λ(x0:Int)=> .br (Int.tmod x0 (3:Int)==(0:Int)) (.an (Qkv n) (.lv (Q3z n) λ(x1:Q0a)=> .an (Qnt r x1) (.lv (Q2t r x1) λ(x2:Q01×Bool)=> .lf (x2.1,[])))) (.an (Q2x (ishr i64 x0 4) 12) (.lv (Q3k (ishr i64 x0 4) 12) λ(x3:Int)=>let E1:=wrap u32 (iand i64 (ishr i64 x0 12) 255); .an (Qm6 r x3 E1) (.lv (Qdx r x3 E1) λ(x4:Q01×List Q03)=> .lf (x4.1,x4.2))))
def Q3v r n:=(Q89 r n).m
abbrev Qtf r n:=(Q89 r n).p
def Zi5:Q0e:=mT 55 [] true [.agg Q01.sig, .one (.int .i64)] [] (λa r=>Q89 (Q01.of (aC a 0)) (argI a 1)) (λX=> .tup [.agg (Q01.cellsW (X.1) (.all 0) (.all 1) (.all 2)), .all 3]) (λX=>[⟨false,25,1, .ints .u32 (X.1).A0.Mem⟩,⟨false,126,4, .recs .apiEntry (X.1).B4⟩,⟨false,66,3, .recs .apiEvent (X.1).A6⟩,⟨false,71,4, .recs .apiOutput (X.2)⟩])
theorem Ze:Q06 pG Zi5:=oT (.cons Qmw (.cons Z2u (.cons Qtr (.cons Qzy (.cons Qhk (.nil)))))) Tryz.func55 Tryz.call55 [.row 25 1 (.ints .u32), .row 126 4 (.recs .apiEntry), .row 66 3 (.recs .apiEvent), .row 71 4 (.recs .apiOutput)] [] 2
def Qjn(m:Q00)(l:List Int)(z:(Int)×Q01×(List Q03)):Nat:=(l.length-z.1).toNat
def Qce(m:Q00)(l:List Int):Tree (Q01×(List Q03)):=
.an (Qg7 m) (.lv (Q41 m) λ(x0:Q01)=> .lp inferInstance (Qjn m l (0,x0,[])+1) ((((Els.Nil (Els.ints i64 l)\/rE (1:Nat))/\rE (l:List Int))/\rZ/\rZ/\True/\rE (0:Int)/\True)/\(mE zM True (rE (0:Int)/\True/\True/\True))/\(mE x0.A0 True (rE x0.A3/\True/\True/\True))/\rE x0.A0.Mem/\rE x0.B4/\rE x0.A6/\rE ([]:List (RK.T RK.apiOutput))/\True) (0,x0,[]) λ(v0:Int×Q01×List Q03)=> .br (decide (v0.1<(l.length:Int))) (.cn (bS 1 1&&bT 0 1&&decide (0<=v0.1/\v0.1<(l.length:Int))) (.an (Qtf v0.2.1 (l.getD v0.1.toNat 0)) (.lv (Q3v v0.2.1 (l.getD v0.1.toNat 0)) λ(x1:Q01×List Q03)=> .cn (decide (40*(v0.2.2.length+x1.2.length)<=140737488355328)) (.nx ((((Els.Nil (Els.ints i64 l)\/rE (1:Nat))/\rE (l:List Int))/\rZ/\rZ/\True/\rE ((wrap i64 (v0.1+1)):Int)/\True)/\(mE zM True (rE (0:Int)/\True/\True/\True))/\(mE x1.1.A0 True (rE x1.1.A3/\True/\True/\True))/\rE x1.1.A0.Mem/\rE x1.1.B4/\rE x1.1.A6/\rE ((v0.2.2++x1.2):List (RK.T RK.apiOutput))/\True) (Sum.inl (wrap i64 (v0.1+1),x1.1,v0.2.2++x1.2)))))) (.lf (Sum.inr (v0.2.1,v0.2.2))))
def Z55 m l:=(Qce m l).m
abbrev Quk m l:=(Qce m l).p
def Zex:LInv:={
 α:=(Int)×Q01×(List Q03)
 F:=λst a=>([(1,(lk st 1)),(4, .ptr 0 0 0),(6, .ptr 1 0 0),(7, .all 5),(8, .int i64 a.1)],[⟨true,96,52, .gen [[(cT st 4 0),(cT st 4 1),(cT st 4 2),(cT st 4 3),(cT st 4 4),(cT st 4 5),(cT st 4 6),(cT st 4 7),(cT st 4 8),(cT st 4 9),(cT st 4 10),(cT st 4 11),(cT st 4 12),(cT st 4 13),(cT st 4 14),(cT st 4 15),(cT st 4 16),(cT st 4 17),(cT st 4 18),(cT st 4 19),(cT st 4 20),(cT st 4 21),(cT st 4 22),(cT st 4 23),(cT st 4 24),(cT st 4 25),(cT st 4 26),(cT st 4 27),(cT st 4 28),(cT st 4 29),(cT st 4 30),(cT st 4 31),(cT st 4 32),(cT st 4 33),(cT st 4 34),(cT st 4 35),(cT st 4 36),(cT st 4 37),(cT st 4 38),(cT st 4 39),(cT st 4 40),(cT st 4 41),(cT st 4 42),(cT st 4 43),(cT st 4 44),(cT st 4 45),(cT st 4 46),(cT st 4 47),(cT st 4 48),(cT st 4 49),(cT st 4 50),(cT st 4 51)]]⟩,⟨true,96,52, .gen [[.int u32 a.2.1.A0.B2.X.a0, .int u32 a.2.1.A0.B2.X.a1, .int u32 a.2.1.A0.B2.X.a2, .int u32 a.2.1.A0.B2.X.a3, .int u32 a.2.1.A0.B2.X.a4, .int u32 a.2.1.A0.B2.X.a5, .int u32 a.2.1.A0.B2.X.a6, .int u32 a.2.1.A0.B2.X.a7, .int u32 a.2.1.A0.B2.X.a8, .int u32 a.2.1.A0.B2.X.a9, .int u32 a.2.1.A0.B2.X.a10, .int u32 a.2.1.A0.B2.X.a11, .int u32 a.2.1.A0.B2.X.a12, .int u32 a.2.1.A0.B2.X.a13, .int u32 a.2.1.A0.B2.X.a14, .int u32 a.2.1.A0.B2.X.a15, .int u32 a.2.1.A0.B2.Pc, .int u32 a.2.1.A0.B2.B5.a0, .int u32 a.2.1.A0.B2.B5.a1, .int u32 a.2.1.A0.B2.B5.a2, .int u32 a.2.1.A0.B2.B5.a3, .int u32 a.2.1.A0.B2.B5.a4, .int u32 a.2.1.A0.B2.B5.a5, .int u32 a.2.1.A0.B2.B5.a6, .int u32 a.2.1.A0.B2.B5.a7, .all 2, .str a.2.1.A0.A4.D3, .bool a.2.1.A0.B0.D2, .int u32 a.2.1.A0.B0.C8, .bool a.2.1.A0.B0.D5, .int u32 a.2.1.A0.B1.Blocks, .int u32 a.2.1.A0.B1.C2, .int u32 a.2.1.A0.B1.Frame, .int i64 a.2.1.A0.B1.C1, .int i64 a.2.1.A0.B1.D8, .int u32 a.2.1.A0.B1.B7, .int u32 a.2.1.A0.B1.B3, .str a.2.1.A0.B1.C4, .int u32 a.2.1.A0.C5.Frame, .int u32 a.2.1.A0.C5.E0, .bool a.2.1.A0.C5.C7, .int u32 a.2.1.A0.C5.B9, .bool a.2.1.A0.C5.B8, .int u32 a.2.1.A0.C5.F1, .int u32 a.2.1.A0.A2.C9, .int u32 a.2.1.A0.A2.C3, .int u64 a.2.1.A0.A1, .bool a.2.1.A0.A7, .bool a.2.1.A0.A9, .int u32 a.2.1.A3, .all 3, .all 4]]⟩,⟨false,25,1, .ints u32 a.2.1.A0.Mem⟩,⟨false,126,4, .recs RK.apiEntry a.2.1.B4⟩,⟨false,66,3, .recs RK.apiEvent a.2.1.A6⟩,⟨false,71,4, .recs RK.apiOutput a.2.2⟩])
 a0:=λst=>((lk st 8).toInt,(⟨(mR (cT st 6) (Q46 st.rows (Q0s (cT st 6 25) 1000000))),(cT st 6 49).toInt,(Q4w RK.apiEntry st.rows (Q0s (cT st 6 50) 1000000)),(Q4w RK.apiEvent st.rows (Q0s (cT st 6 51) 1000000))⟩:Q01),(Q4w RK.apiOutput st.rows (rN st 7)))
 ex0:=λst=>[]++[(rX st 4 0),(rX st 6 1),(Q0s (cT st 6 25) (st.rows.length+2)),(Q0s (cT st 6 50) (st.rows.length+3)),(Q0s (cT st 6 51) (st.rows.length+4)),(rX st 7 5)]}
def Z7b:List (Nat×LInv):=[(4,Zex)]
def Zjr:Q0e:=mT 57 [] true [.agg Q00.sig, .one (.ints .i64)] [] (λa r=>Qce (Q00.of (aC a 0)) (argL .i64 a 1)) (λX=> .tup [.agg (Q01.cellsW (X.1) (.all 0) (.all 1) (.all 2)), .all 3]) (λX=>[⟨false,25,1, .ints .u32 (X.1).A0.Mem⟩,⟨false,126,4, .recs .apiEntry (X.1).B4⟩,⟨false,66,3, .recs .apiEvent (X.1).A6⟩,⟨false,71,4, .recs .apiOutput (X.2)⟩])
theorem Ze8:Q06 pG Zjr:=oT (.cons Qr2 (.cons Ze (.nil))) Tryz.func57 Tryz.call57 [.row 25 1 (.ints .u32), .row 126 4 (.recs .apiEntry), .row 66 3 (.recs .apiEvent), .row 71 4 (.recs .apiOutput)] Z7b 3
end
noncomputable section
def tblZe0:List UInt8:=[(105:UInt8),32,114,49,44,32,104,97,110,100,108,101,114,10,99,115,114,119,32,114,49,44,32,49,10,108,105,32,114,49,44,32,51,49,10,99,115,114,119,32,114]
def Z96:List UInt8:=[(49:UInt8),44,32,55,10,108,105,32,114,49,44,32,52,10,99,115,114,119,32,114,49,44,32,54,10,108,105,32,114,50,44,32,53,49,50,10,108,105,32,114,51,44]
def Z9d:List UInt8:=[(32:UInt8),48,10,108,105,32,114,52,44,32,56,10,109,97,112,58,32,115,104,108,105,32,114,53,44,32,114,51,44,32,56,10,111,114,105,32,114,53,44,32,114,53]
def Z85:List UInt8:=[(44:UInt8),32,55,10,115,104,108,105,32,114,54,44,32,114,51,44,32,50,10,97,100,100,32,114,54,44,32,114,54,44,32,114,50,10,115,119,32,114,53,44,32,48,40]
def Z8w:List UInt8:=[(114:UInt8),54,41,10,97,100,100,105,32,114,51,44,32,114,51,44,32,49,10,98,108,116,32,114,51,44,32,114,52,44,32,109,97,112,10,108,105,32,114,49,44,32]
def Z88:List UInt8:=[(54:UInt8),10,111,117,116,32,114,49,44,32,55,10,108,105,32,114,49,44,32,50,10,111,117,116,32,114,49,44,32,57,10,108,105,32,114,49,44,32,49,48,48,10,111]
def Z94:List UInt8:=[(117:UInt8),116,32,114,49,44,32,51,10,108,105,32,114,49,44,32,54,52,48,10,99,115,114,119,32,114,49,44,32,50,10,108,105,32,114,49,44,32,50,49,10,99]
def Z92:List UInt8:=[(115:UInt8),114,119,32,114,49,44,32,48,10,101,114,101,116,10,104,97,110,100,108,101,114,58,32,99,115,114,119,32,114,49,44,32,53,10,99,115,114,114,32,114,49,44]
def Z98:List UInt8:=[(32:UInt8),51,10,115,108,116,105,32,114,49,44,32,114,49,44,32,49,54,10,98,101,113,32,114,49,44,32,114,48,44,32,105,114,113,10,99,115,114,114,32,114,49]
def Z9a:List UInt8:=[(44:UInt8),32,50,10,97,100,100,105,32,114,49,44,32,114,49,44,32,52,10,99,115,114,119,32,114,49,44,32,50,10,105,110,32,114,51,44,32,50,10,111,117,116]
def Qxr:List UInt8:=[(32:UInt8),114,51,44,32,48,10,108,105,32,114,49,44,32,49,10,111,117,116,32,114,49,44,32,52,10,108,105,32,114,49,44,32,55,10,111,117,116,32,114,49,44]
def Qxe:List UInt8:=[(32:UInt8),53,10,97,110,100,105,32,114,49,44,32,114,50,44,32,49,10,97,100,100,105,32,114,49,44,32,114,49,44,32,49,10,111,117,116,32,114,49,44,32,54,10]
def Qxw:List UInt8:=[(99:UInt8),115,114,114,32,114,49,44,32,53,10,101,114,101,116,10,105,114,113,58,32,105,110,32,114,49,44,32,48,10,111,117,116,32,114,49,44,32,48,10,111,117]
def Qvt:List UInt8:=[(116:UInt8),32,114,48,44,32,54,10,111,117,116,32,114,48,44,32,57,10,108,105,32,114,49,44,32,54,10,111,117,116,32,114,49,44,32,55,10,108,105,32,114,49,44]
def Qwo:List UInt8:=[(32:UInt8),50,10,111,117,116,32,114,49,44,32,57,10,105,110,32,114,49,44,32,50,10,97,100,100,105,32,114,49,44,32,114,49,44,32,50,48,10,111,117,116,32]
def Qwu:List UInt8:=[(114:UInt8),49,44,32,51,10,105,110,32,114,49,44,32,49,48,10,111,117,116,32,114,49,44,32,49,48,10,99,115,114,114,32,114,49,44,32,53,10,101,114,101,116,10]
def Zbm:List UInt8:=[(108:UInt8),105,32,114,49,44,32,104,97,110,100,108,101,114,10,99,115,114,119,32,114,49,44,32,49,10,108,105,32,114,49,44,32,51,49,10,99,115,114,119,32,114]
instance sumInhZe {α β:Type} [Inhabited β]:Inhabited (α⊕β):=⟨.inr default⟩
def Qlp(l:List Q0c)(z:(Int)):Prop:=1<=z/\(z<=l.length\/z=1)
def Q4t(l:List Q0c)(z:(Int)):Nat:=(l.length-z).toNat
def Q95(l:List Q0c):Tree Bool:=
.lp inferInstance (Q4t l 1+1) ((nR RK.apiEntry 4 l/\rE (1:Int)/\True)/\True) 1 λ(v0:Int)=> .br (decide (v0<(l.length:Int))) (let E4:=bS 4 4&&bT 0 4&&decide (0<=v0/\v0<(l.length:Int)); .cn E4 (let E2:=bS 4 4&&bT 0 4&&decide (0<=wrap i64 (v0-1)/\wrap i64 (v0-1)<(l.length:Int)); .cn E2 (let E3:=l.getD (dC (wrap i64 (v0-1))) (RK.dflt RK.apiEntry);let E5:=l.getD v0.toNat (RK.dflt RK.apiEntry); .br (decide (E5.At<E3.At)) (.lf (Sum.inr false)) (.cn E4 (.cn E2 (let T1:Tree ((Int)⊕(Bool)):= .nx ((nR RK.apiEntry 4 l/\rE ((wrap i64 (v0+1)):Int)/\True)/\True) (Sum.inl (wrap i64 (v0+1))); .br (E5.At==E3.At) (.cn E2 (.br (E3.C0.B6==1) (.lf (Sum.inr false)) T1)) T1)))))) (.lf (Sum.inr true))
def Qk5 l:=(Q95 l).m
def Q6b(l:List Q0c):Prop:=
l.length<=1000000000000
theorem Z04(l:List Q0c)(hw:Q6b l):(Q95 l).p:=by
 simp only[Q6b]at hw
 unfold Tree.p Q95
 repeat'(first|refine w_lp (inv:=Qlp l) (μ:=Q4t l) ?_ (cK _) (λ_ _=> ?_)|exact trivial|refine w_br (λ_=> ?_) (λ_=> ?_)|refine w_cn ?_ ?_|refine w_an ?_ ?_|refine w_lv (λ_ _=> ?_)|refine w_nx ?_|refine w_lf ?_|refine And.intro ?_ ?_)
 all_goals((try simp only[Qlp,Q4t]at*);exact fin0)
def Z27:LInv:={
 α:=(Int)
 F:=λst a=>([(0,(lk st 0)),(3, .int i64 a)],[])
 a0:=λst=>(lk st 3).toInt
 ex0:=λst=>[]++[]}
def Qwn:List (Nat×LInv):=[(2,Z27)]
def Z6t:Q0e:=mkP 155 [] true [.one (.recs .apiEntry)] [] (λa r=>Q6b (argR .apiEntry a 0)) (λa r=>Qk5 (argR .apiEntry a 0)) (λX=> .bool X) (λX=>[])
theorem Qpl:Q06 pG Z6t:=Q0p drawn Q0l (.nil) Tryz.func155 Tryz.call155 (λa r=>Q95 (argR .apiEntry a 0)) [] Qwn 3 (hp:=λa r h=>Z04 (argR .apiEntry a 0) h)
def Qgp(m:Q00)(script:List Q0c)(until0:Int)(z:Q00×(List Q03)):Nat:=(until0-z.1.A1).toNat
def Qh1(m:Q00)(script:List Q0c)(until0:Int)(v0:Q00×List Q03)(z:Unit):Nat:=0
def Q9w(m:Q00)(script:List Q0c)(until0:Int):Tree (Q00×(List Q03)×Int×Int):=
.lv (Q64 m) λ(x0:Bool)=>let E2:=({B2:={X:={a0:=0,a1:=0,a2:=0,a3:=0,a4:=0,a5:=0,a6:=0,a7:=0,a8:=0,a9:=0,a10:=0,a11:=0,a12:=0,a13:=0,a14:=0,a15:=0},Pc:=0,B5:={a0:=0,a1:=0,a2:=0,a3:=0,a4:=0,a5:=0,a6:=0,a7:=0}},Mem:=[],A4:={D3:=[]},B0:={D2:=false,C8:=0,D5:=false},B1:={Blocks:=0,C2:=0,Frame:=0,C1:=0,D8:=0,B7:=0,B3:=0,C4:=[]},C5:={Frame:=0,E0:=0,C7:=false,B9:=0,B8:=false,F1:=0},A2:={C9:=0,C3:=0},A1:=0,A7:=false,A9:=false}:Q00);let T1:Tree ((Q00×(List Q03)×Int×Int)):= .lf (E2,[],0,1300); .br (!x0) T1 (.br (decide (until0<m.A1)) T1 (.br (decide (wrap u64 (until0-m.A1)>4000)) T1 (.an (Q6b []) (.lv (Qk5 []) λ(x1:Bool)=> .br (!x1) (.lf (E2,[],0,1301)) (.an (Qd6 m) (.lv (Qk2 m) λ(x2:Q00)=> .lp inferInstance (Qgp m script until0 (x2,[])+1) ((((Els.Nil (Els.gen [])\/rE (0:Nat))/\rE ([]:List (List D)))/\rE (until0:Int)/\rZ/\rZ/\True/\rE (0:Int)/\True)/\(mE x2 True True)/\rE x2.Mem/\(mE zM True True)/\rE ([]:List (RK.T RK.apiOutput))/\True) (x2,[]) λ(v0:Q00×List Q03)=> .br (decide (v0.1.A1<until0)) (.br (decide (v0.1.A1<1152921504606846976)) (.lp inferInstance (Qh1 m script until0 v0 ()+1) ((((Els.Nil (Els.gen [])\/rE (0:Nat))/\rE ([]:List (List D)))/\rE (until0:Int)/\rZ/\rZ/\True/\rE (0:Int)/\(rE (0:Nat)/\rE (46:Nat))/\rE v0.1.A1/\rE ((decide (v0.1.A1<1152921504606846976)):Bool)/\True)/\(mE v0.1 True True)/\rE v0.1.Mem/\(mE zM True True)/\rE v0.2/\True) () λ(v1:PUnit)=> .br v0.1.A9 (.lf (Sum.inr (Sum.inr (v0.1,v0.2,0,0)))) (.an (Qhn v0.1) (.lv (Q7j v0.1) λ(x3:Bool)=> .br x3 (.lf (Sum.inr (Sum.inr (v0.1,v0.2,0,0)))) (.an (Qc2 v0.1) (.lv (Q1y v0.1) λ(x4:Bool)=> .br (!false==x4) (.lf (Sum.inr (Sum.inr (E2,[],0,1302)))) (.an (Q8q v0.1 0) (.lv (Q0j v0.1 0) λ(x5:List Q03×Q00)=> .cn (decide (40*(v0.2.length+x5.1.length)<=140737488355328)) (.nx ((((Els.Nil (Els.gen [])\/rE (0:Nat))/\rE ([]:List (List D)))/\rE (until0:Int)/\rZ/\rZ/\True/\rE (0:Int)/\True)/\(mE x5.2 True True)/\rE x5.2.Mem/\(mE zM True True)/\rE ((v0.2++x5.1):List (RK.T RK.apiOutput))/\True) (Sum.inr (Sum.inl (x5.2,v0.2++x5.1))))))))))) (.lf (Sum.inr (v0.1,v0.2,0,0)))) (.lf (Sum.inr (v0.1,v0.2,0,0)))))))))
def Qev m script until0:=(Q9w m script until0).m
abbrev Qbn m script until0:=(Q9w m script until0).p
def Zbf:LInv:={
 α:=Q00×(List Q03)
 F:=λst a=>([(1,(lk st 1)),(2,(lk st 2)),(3, .ptr 0 0 0),(6, .ptr 2 0 0),(10, .all 3),(11,(lk st 11))],[⟨true,43,49, .gen [mD a.1 (.all 1)]⟩,⟨false,25,1, .ints u32 a.1.Mem⟩,⟨true,43,49, .gen [mB (cT st 6)]⟩,⟨false,71,4, .recs RK.apiOutput a.2⟩])
 a0:=λst=>((mR (cT st 3) (Q46 st.rows (Q0s (cT st 3 25) 1000000))),(Q4w RK.apiOutput st.rows (rN st 10)))
 ex0:=λst=>[]++[(rX st 3 0),(Q0s (cT st 3 25) (st.rows.length+1)),(rX st 6 2),(rX st 10 3)]}
def Zao:LInv:={
 α:=Unit
 F:=λst a=>([(1,(lk st 1)),(2,(lk st 2)),(3, .ptr 0 0 0),(6, .ptr 2 0 0),(10, .all 3),(11,(lk st 11)),(61, .ptr 0 0 46),(62,(lk st 62)),(63,(lk st 63))],[⟨true,43,49, .gen [[(cT st 3 0),(cT st 3 1),(cT st 3 2),(cT st 3 3),(cT st 3 4),(cT st 3 5),(cT st 3 6),(cT st 3 7),(cT st 3 8),(cT st 3 9),(cT st 3 10),(cT st 3 11),(cT st 3 12),(cT st 3 13),(cT st 3 14),(cT st 3 15),(cT st 3 16),(cT st 3 17),(cT st 3 18),(cT st 3 19),(cT st 3 20),(cT st 3 21),(cT st 3 22),(cT st 3 23),(cT st 3 24), .all 1,(cT st 3 26),(cT st 3 27),(cT st 3 28),(cT st 3 29),(cT st 3 30),(cT st 3 31),(cT st 3 32),(cT st 3 33),(cT st 3 34),(cT st 3 35),(cT st 3 36),(cT st 3 37),(cT st 3 38),(cT st 3 39),(cT st 3 40),(cT st 3 41),(cT st 3 42),(cT st 3 43),(cT st 3 44),(cT st 3 45),(cT st 3 46),(cT st 3 47),(cT st 3 48)]]⟩,⟨false,25,1,esOf st.rows (Q0s (cT st 3 25) 1000000)⟩,⟨true,43,49, .gen [mB (cT st 6)]⟩,⟨false,71,4,esOf st.rows (rN st 10)⟩])
 a0:=λst=>()
 ex0:=λst=>[]++[(rX st 3 0),(Q0s (cT st 3 25) (st.rows.length+1)),(rX st 6 2),(rX st 10 3)]}
def Z54:List (Nat×LInv):=[(8,Zbf),(9,Zao)]
def Zfw:Q0e:=mT 75 [] true [.agg Q00.sig, .one .nil, .one (.int .u64)] [] (λa r=>Q9w (Q00.of (aC a 0)) (argR .apiEntry a 1) (argI a 2)) (λX=> .tup [.agg (Q00.cellsW (X.1) (.all 0)), .all 1, .int .i64 (X.2.2.1), .int .i64 (X.2.2.2)]) (λX=>[⟨false,25,1, .ints .u32 (X.1).Mem⟩,⟨false,71,4, .recs .apiOutput (X.2.1)⟩])
theorem Zct:Q06 pG Zfw:=oT (.cons Qmu (.cons Qpl (.cons Qmr (.cons Qvl (.cons Qp (.cons Qmt (.cons Qpq (.nil)))))))) Tryz.func75 Tryz.call75 [.row 25 1 (.ints .u32), .row 71 4 (.recs .apiOutput)] Z54 3
def Qdu(kind:Int)(l z:List Int):Nat:=160-z.length
def Q71(kind:Int)(l:List Int):Tree Q00:=
.an (Q2x kind 3) (.lv (Q3k kind 3) λ(x0:Int)=> .br (decide (x0<2)) (.an (Qar ((108:UInt8)::(tblZe0++Z96++(Z9d++Z85)++(Z8w++Z88++(Z94++Z92))++(Z98++Z9a++(Qxr++Qxe)++(Qxw++Qvt++(Qwo++Qwu)))))) (.lv (Q1h (cO (cO (cO (cO Zbm Z96) (cO Z9d Z85)) (cO (cO Z8w Z88) (cO Z94 Z92))) (cO (cO (cO Z98 Z9a) (cO Qxr Qxe)) (cO (cO Qxw Qvt) (cO Qwo Qwu))))) λ(x1:List Int×Q1j)=> .lp inferInstance (Qdu kind l x1.1+1) ((rE (x0:Int)/\((Els.Nil (Els.ints i64 l)\/rE (1:Nat))/\rE (l:List Int))/\rZ/\True/\True)/\(mE zM True True)/\rE x1.1/\True) x1.1 λ(v0:List Int)=> .br (decide ((v0.length:Int)<(160:Int))) (.cn (decide (4*(v0.length+1)<=140737488355328)) (.nx ((rE (x0:Int)/\((Els.Nil (Els.ints i64 l)\/rE (1:Nat))/\rE (l:List Int))/\rZ/\True/\True)/\(mE zM True True)/\rE ((v0++[0]):List Int)/\True) (Sum.inl (v0++[0])))) (.an (Qmn l) (.lv (Qol l) λ(x2:List Int)=> .cn (decide (4*(v0.length+x2.length)<=140737488355328)) (.br (decide ((↑(dH (v0++x2)):Int)>(256:Int))) (.cn (bS 1 1&&bT 0 1&&decide ((0:Int)<=(0:Int)/\(0:Int)<=(256:Int)/\256<=(↑(dH (v0++x2)):Int))) (let E1:=cY (dC 256-dC 0) (cZ (dC 0) (v0++x2)); .an (Qa4 8 4 E1) (.lv (Q1x 8 4 E1) λ(x3:Q00×Bool)=> .br (x0==1) (.an (Qbn x3.1 [] 87) (.lv (Qev x3.1 [] 87) λ(x4:Q00×List Q03×Int×Int)=> .lf (Sum.inr x4.1))) (.lf (Sum.inr x3.1))))) (.an (Qa4 8 4 (v0++x2)) (.lv (Q1x 8 4 (v0++x2)) λ(x5:Q00×Bool)=> .br (x0==1) (.an (Qbn x5.1 [] 87) (.lv (Qev x5.1 [] 87) λ(x6:Q00×List Q03×Int×Int)=> .lf (Sum.inr x6.1))) (.lf (Sum.inr x5.1))))))))) (.an (Qmn l) (.lv (Qol l) λ(x7:List Int)=> .cn (decide (4*(0+x7.length)<=140737488355328)) (.br (decide ((x7.length:Int)>(256:Int))) (.cn (bS 1 1&&bT 0 1&&decide ((0:Int)<=(0:Int)/\(0:Int)<=(256:Int)/\256<=(x7.length:Int))) (let E2:=cY (dC 256-dC 0) (cZ (dC 0) x7); .an (Qa4 8 4 E2) (.lv (Q1x 8 4 E2) λ(x8:Q00×Bool)=> .br (x0==1) (.an (Qbn x8.1 [] 87) (.lv (Qev x8.1 [] 87) λ(x9:Q00×List Q03×Int×Int)=> .lf x9.1)) (.lf x8.1)))) (.an (Qa4 8 4 x7) (.lv (Q1x 8 4 x7) λ(x10:Q00×Bool)=> .br (x0==1) (.an (Qbn x10.1 [] 87) (.lv (Qev x10.1 [] 87) λ(x11:Q00×List Q03×Int×Int)=> .lf x11.1)) (.lf x10.1)))))))
def Qkh kind l:=(Q71 kind l).m
abbrev Qnj kind l:=(Q71 kind l).p
def Z56:LInv:={
 α:=(List Int)
 F:=λst a=>([(0,(lk st 0)),(1,(lk st 1)),(4, .ptr 0 0 0),(5, .all 1)],[⟨true,43,49, .gen [mB (cT st 4)]⟩,⟨false,25,1, .ints u32 a⟩])
 a0:=λst=>(Q46 st.rows (rN st 5))
 ex0:=λst=>[]++[(rX st 4 0),(rX st 5 1)]}
def Qx9:List (Nat×LInv):=[(5,Z56)]
def Z6s:Q0e:=mT 41 [] true [.one (.int .i64), .one (.ints .i64)] [] (λa r=>Q71 (argI a 0) (argL .i64 a 1)) (λX=> .agg (Q00.cellsW X (.all 0))) (λX=>[⟨false,25,1, .ints .u32 X.Mem⟩])
theorem Z4h:Q06 pG Z6s:=oT (.cons Qhk (.cons Z0s (.cons Zfd (.cons Z24 (.cons Zct (.nil)))))) Tryz.func41 Tryz.call41 [.row 25 1 (.ints .u32)] Qx9 3
end
noncomputable section
def Qw6(l acts:List Int):Tree Bool:=
.br (decide ((l.length:Int)<=(40:Int))) (.lf (decide ((acts.length:Int)<=(30:Int)))) (.lf false)
def Qvb l acts:=(Qw6 l acts).m
def Zoi:Q0e:=mS 15 [] true [.one (.ints .i64), .one (.ints .i64)] [] (λa r=>Qw6 (argL .i64 a 0) (argL .i64 a 1)) (λX=> .bool X) (λX=>[])
theorem Zj4:Q06 pG Zoi:=oS (.nil) Tryz.func15 Tryz.call15 [] [] 2
def Qoi(t:Q0i):Tree (Q0i×Bool):=
.br (!t.D2) (.lf (t,false)) (.lf ({D2:=false,C8:=t.C8,D5:=true},true))
def Qlw t:=(Qoi t).m
def Zgk:Q0e:=mS 130 [] true [.agg Q0i.sig] [] (λa r=>Qoi (Q0i.of (aC a 0))) (λX=> .tup [.agg (Q0i.cells (X.1)), .bool (X.2)]) (λX=>[])
theorem Zbh:Q06 pG Zgk:=oS (.nil) Tryz.func130 Tryz.call130 [] [] 2
def Qc4(c:Q0d)(b:Int):Tree (Q0d×Bool):=
.br (decide ((c.D3.length:Int)>=(16:Int))) (.lf (c,false)) (.cn (decide (c.D3.length+1<=maxLen)) (.lf ({D3:=c.D3++[(λ(n:Int)=>UInt8.ofNat n.toNat) b]},true)))
def Qow c b:=(Qc4 c b).m
abbrev Qnd c b:=(Qc4 c b).p
def Z71:Q0e:=mT 131 [] true [.agg Q0d.sig, .one (.int .u8)] [] (λa r=>Qc4 (Q0d.of (aC a 0)) (argI a 1)) (λX=> .tup [.agg (Q0d.cells (X.1)), .bool (X.2)]) (λX=>[])
theorem Z4c:Q06 pG Z71:=oT (.nil) Tryz.func131 Tryz.call131 [] [] 2
def Q7p(d0:Q0g)(m:List Int)(e:Q0a):Tree (Q0g×(List Int)×Bool):=
let T2:Tree ((Q0g×(List Int)×Bool)):= .an (Q09 m) (.lv (Q04 m) λ(x0:List Int)=> .lf (d0,x0,false)); .br (d0.C1 !=1) T2 (.br (e.B6 !=4) T2 (.br (decide (e.N>1)) T2 (.an (Q09 m) (.lv (Q04 m) λ(x3:List Int)=>let E3:=({Blocks:=d0.Blocks,C2:=d0.C2,Frame:=d0.Frame,C1:=2,D8:=0,B7:=0,B3:=0,C4:=[]}:Q0g);let E4:=({Blocks:=d0.Blocks,C2:=d0.C2,Frame:=d0.Frame,C1:=3,D8:=0,B7:=0,B3:=0,C4:=[]}:Q0g);let T1:Tree ((Q0g×(List Int)×Bool)):= .br (!decide (e.D0=[])) (.lf (d0,x3,false)) (.br (e.N==1) (.lf (E3,x3,true)) (.lf (E4,x3,true))); .br (e.N==1) (.br (d0.D8==1) (.lv (Q9u m d0.B3) λ(x4:Bool)=> .br (!x4) (.lf (d0,x3,false)) (.an (Q9b m (wrap i64 d0.B3) e.D0) (.lv (Q2w m (wrap i64 d0.B3) e.D0) λ(x5:List Int×Bool)=> .br (!x5.2) (.lf (d0,x5.1,false)) (.br (e.N==1) (.lf (E3,x5.1,true)) (.lf (E4,x5.1,true)))))) T1) T1))))
def Qhb d0 m e:=(Q7p d0 m e).m
abbrev Qlj d0 m e:=(Q7p d0 m e).p
def Z2t:Q0e:=mT 132 [] true [.agg Q0g.sig, .one (.ints .u32), .agg Q0a.sig] [] (λa r=>Q7p (Q0g.of (aC a 0)) (argL .u32 a 1) (Q0a.of (aC a 2))) (λX=> .tup [.agg (Q0g.cells (X.1)), .all 0, .bool (X.2.2)]) (λX=>[⟨false,25,1, .ints .u32 (X.2.1)⟩])
theorem Qzp:Q06 pG Z2t:=oT (.cons Q0w (.cons Qru (.cons Qf9 (.nil)))) Tryz.func132 Tryz.call132 [.row 25 1 (.ints .u32)] [] 2
def Qau(n:Q0r)(m:List Int)(frame:List UInt8):Tree (Q0r×(List Int)×Bool):=
let T1:Tree ((Q0r×(List Int)×Bool)):= .an (Q09 m) (.lv (Q04 m) λ(x0:List Int)=> .lf (n,x0,false)); .br (!n.C7) T1 (.br (decide ((frame.length:Int)<(1:Int))) T1 (.br (decide ((frame.length:Int)>(128:Int))) T1 (.lv (Qac m n.B9) λ(x3:Bool)=> .br (!x3) T1 (.an (Qdk m (wrap i64 n.B9)) (.lv (Q5q m (wrap i64 n.B9)) λ(x5:List UInt8×Bool)=> .cn (decide (0<=(frame.length:Int)/\(frame.length:Int)<=(x5.1.length:Int)/\(x5.1.length:Int)<=(x5.1.length:Int))) (let E2:=dC (x5.1.length:Int)-dC (frame.length:Int);let E3:=cZ (dC (frame.length:Int)) x5.1; .cn (decide (frame.length+dH (cY E2 E3)<=maxLen)) (.an (Q9b m (wrap i64 n.B9) (frame++cY E2 E3)) (.lv (Q2w m (wrap i64 n.B9) (frame++cY E2 E3)) λ(x6:List Int×Bool)=> .lf ({Frame:=n.Frame,E0:=n.E0,C7:=false,B9:=0,B8:=true,F1:=wrap u32 (frame.length:Int)},x6.1,true)))))))))
def Qm9 n m frame:=(Qau n m frame).m
abbrev Qot n m frame:=(Qau n m frame).p
def Zar:Q0e:=mT 133 [] true [.agg Q0r.sig, .one (.ints .u32), .one (.str)] [] (λa r=>Qau (Q0r.of (aC a 0)) (argL .u32 a 1) (argS a 2)) (λX=> .tup [.agg (Q0r.cells (X.1)), .all 0, .bool (X.2.2)]) (λX=>[⟨false,25,1, .ints .u32 (X.2.1)⟩])
theorem Z6i:Q06 pG Zar:=oT (.cons Qn0 (.cons Q0w (.cons Qkp (.cons Qf9 (.nil))))) Tryz.func133 Tryz.call133 [.row 25 1 (.ints .u32)] [] 2
def Q4e(m:Q00)(e:Q0a):Tree (Q00×Bool):=
.an (Q09 m.Mem) (.lv (Q04 m.Mem) λ(x0:List Int)=>let E2:=({B2:=m.B2,Mem:=x0,A4:=m.A4,B0:=m.B0,B1:=m.B1,C5:=m.C5,A2:=m.A2,A1:=m.A1,A7:=m.A7,A9:=m.A9}:Q00); .an (Q4q E2) (.lv (Q1f E2) λ(x1:Bool)=>let T1:Tree ((Q00×Bool)):= .lf (E2,false); .br (!x1) T1 (.br m.A9 T1 (.br (e.B6==2) (.br (e.N==0) (.br (decide (e.D0=[])) (.lv (Qlw m.B0) λ(x2:Q0i×Bool)=> .lf ({B2:=m.B2,Mem:=x0,A4:=m.A4,B0:=x2.1,B1:=m.B1,C5:=m.C5,A2:=m.A2,A1:=m.A1,A7:=m.A7,A9:=m.A9},x2.2)) T1) T1) (.br (e.B6==3) (.br (decide (e.N<=255)) (.br (decide (e.D0=[])) (.an (Qnd m.A4 (wrap u8 e.N)) (.lv (Qow m.A4 (wrap u8 e.N)) λ(x3:Q0d×Bool)=> .lf ({B2:=m.B2,Mem:=x0,A4:=x3.1,B0:=m.B0,B1:=m.B1,C5:=m.C5,A2:=m.A2,A1:=m.A1,A7:=m.A7,A9:=m.A9},x3.2))) T1) T1) (.br (e.B6==4) (.an (Qlj m.B1 x0 e) (.lv (Qhb m.B1 x0 e) λ(x4:Q0g×List Int×Bool)=> .lf ({B2:=m.B2,Mem:=x4.2.1,A4:=m.A4,B0:=m.B0,B1:=x4.1,C5:=m.C5,A2:=m.A2,A1:=m.A1,A7:=m.A7,A9:=m.A9},x4.2.2))) (.br (e.B6==5) (.br (e.N==0) (.an (Qot m.C5 x0 e.D0) (.lv (Qm9 m.C5 x0 e.D0) λ(x5:Q0r×List Int×Bool)=> .lf ({B2:=m.B2,Mem:=x5.2.1,A4:=m.A4,B0:=m.B0,B1:=m.B1,C5:=x5.1,A2:=m.A2,A1:=m.A1,A7:=m.A7,A9:=m.A9},x5.2.2))) T1) (.br (e.B6==6) (.br (decide (e.D0=[])) (.lf ({B2:=m.B2,Mem:=x0,A4:=m.A4,B0:=m.B0,B1:=m.B1,C5:=m.C5,A2:={C9:=e.N,C3:=m.A2.C3},A1:=m.A1,A7:=m.A7,A9:=m.A9},true)) T1) T1))))))))
def Q6l m e:=(Q4e m e).m
abbrev Qb m e:=(Q4e m e).p
def Z34:Q0e:=mT 38 [] true [.agg Q00.sig, .agg Q0a.sig] [] (λa r=>Q4e (Q00.of (aC a 0)) (Q0a.of (aC a 1))) (λX=> .tup [.agg (Q00.cellsW (X.1) (.all 0)), .bool (X.2)]) (λX=>[⟨false,25,1, .ints .u32 (X.1).Mem⟩])
theorem Qgy:Q06 pG Z34:=oT (.cons Q0w (.cons Qbo (.cons Zbh (.cons Z4c (.cons Qzp (.cons Z6i (.nil))))))) Tryz.func38 Tryz.call38 [.row 25 1 (.ints .u32)] [] 2
end
noncomputable section
instance sumInhRa {α β:Type} [Inhabited β]:Inhabited (α⊕β):=⟨.inr default⟩
def Q13(s:List Q0c):(List Q0c):=
s
def Q0y(s:List Q0c):Prop:=
s.length<=3518437208883
def Q2n(s:List Q0c):List D:=[.sl 4 (.recs .apiEntry s) false]
def Q20(s:List Q0c):List Row:=[]
def Q1b(X:List Q0c):D:= .all 0
def Q19(X:List Q0c):List Row:=[⟨false,126,4, .recs .apiEntry X⟩]
def Qb9:List Dir:=[.row 126 4 (.recs .apiEntry)]
def Q5j:List PT:=[.one (.recs .apiEntry)]
def Q54:List RT:=[]
def Qbw(args:List D)(rows:List Row):(List Q0c):=Q13 (argR .apiEntry args 0)
def Qbr(args:List D)(rows:List Row):Prop:=Q0y (argR .apiEntry args 0)
def Qdg:Q0e:=mkP 210 [] true Q5j Q54 Qbr Qbw Q1b Q19
def Q36(s:List Q0c)(Leaf:(List Q0c)->Prop):Prop:=
(s=[]->Leaf [])/\cand (decide ((40:Nat)*((0:Nat)+s.length)<=(140737488355328:Nat))) (Leaf s)
set_option maxRecDepth 100000 in
theorem Qco(s:List Q0c)(Q:D->List Row->Prop):(fnVC tab [] (LL tab [] Tryz.f210.ntmps 0 [] 2) Tryz.f210 (Q2n s) (Q20 s) λd R=>Qa8 (Q20 s).length Qb9 d R Q)=Q36 s (λX=>Q (Q1b X) (Q19 X)):=by kernel_rfl
theorem Qbb(s:List Q0c)(Leaf:(List Q0c)->Prop)(hw:Q0y s)(h:Leaf (Q13 s)):
Q36 s Leaf:=by
 delta Q36
 refine⟨λe=>by rw[e]at h;exact h,?_⟩
 rw[Q08]
 refine⟨dY ?_,h⟩
 have:s.length<=3518437208883:=hw
 omega
set_option maxRecDepth 100000 in
theorem Qai(s:List Q0c)(hw:Q0y s):Q4k pG 210 (Q2n s) (Q20 s) (Q1b (Q13 s)) (Q19 (Q13 s)):=
 have hG:Q78 pG []:= .nil
 FnOK.calls drawn Q0l hG Tryz.func210 (rf:=none) (λ_ _=>trivial) (Zpn drawn Q0l hG (.inl rfl) 2 (invs:=[])) (FnOK.of (Qco s _) (Qbb s (λX=>Q1b X=Q1b (Q13 s)/\Q19 X=Q19 (Q13 s)) hw ⟨rfl,rfl⟩))
set_option maxRecDepth 100000 in
theorem Qba(args:List D)(rows:List Row):Qfu Q5j args 0=Q2n (argR .apiEntry args 0):=by kernel_rfl
set_option maxRecDepth 100000 in
theorem Qah(args:List D)(rows:List Row):Q65 Q54 rows 0=Q20 (argR .apiEntry args 0):=by kernel_rfl
set_option maxRecDepth 100000 in
theorem Qcp(X:List Q0c):(ffB (Q1b X)&&ffBR (Q19 X))=true:=by kernel_rfl
theorem Q5t:Q06 pG Qdg:=Qze Tryz.call210 (λargs rows hp=>by rw[Qba args rows,Qah args rows];exact Qai (argR .apiEntry args 0) hp) (λ_ X=>Qcp X)
def Q18(s:List Q0a):(List Q0a):=
s
def Q12(s:List Q0a):Prop:=
s.length<=3518437208883
def Q2p(s:List Q0a):List D:=[.sl 3 (.recs .apiEvent s) false]
def Q2(s:List Q0a):List Row:=[]
def Q1c(X:List Q0a):D:= .all 0
def Q1d(X:List Q0a):List Row:=[⟨false,66,3, .recs .apiEvent X⟩]
def Qb8:List Dir:=[.row 66 3 (.recs .apiEvent)]
def Q5e:List PT:=[.one (.recs .apiEvent)]
def Q56:List RT:=[]
def Qc3(args:List D)(rows:List Row):(List Q0a):=Q18 (argR .apiEvent args 0)
def Qbi(args:List D)(rows:List Row):Prop:=Q12 (argR .apiEvent args 0)
def Qde:Q0e:=mkP 211 [] true Q5e Q56 Qbi Qc3 Q1c Q1d
def Q37(s:List Q0a)(Leaf:(List Q0a)->Prop):Prop:=
(s=[]->Leaf [])/\cand (decide ((32:Nat)*((0:Nat)+s.length)<=(140737488355328:Nat))) (Leaf s)
set_option maxRecDepth 100000 in
theorem Qch(s:List Q0a)(Q:D->List Row->Prop):(fnVC tab [] (LL tab [] Tryz.f211.ntmps 0 [] 2) Tryz.f211 (Q2p s) (Q2 s) λd R=>Qa8 (Q2 s).length Qb8 d R Q)=Q37 s (λX=>Q (Q1c X) (Q1d X)):=by kernel_rfl
theorem Qbg(s:List Q0a)(Leaf:(List Q0a)->Prop)(hw:Q12 s)(h:Leaf (Q18 s)):
Q37 s Leaf:=by
 delta Q37
 refine⟨λe=>by rw[e]at h;exact h,?_⟩
 rw[Q08]
 refine⟨dY ?_,h⟩
 have:s.length<=3518437208883:=hw
 omega
set_option maxRecDepth 100000 in
theorem Qaz(s:List Q0a)(hw:Q12 s):Q4k pG 211 (Q2p s) (Q2 s) (Q1c (Q18 s)) (Q1d (Q18 s)):=
 have hG:Q78 pG []:= .nil
 FnOK.calls drawn Q0l hG Tryz.func211 (rf:=none) (λ_ _=>trivial) (Zpn drawn Q0l hG (.inl rfl) 2 (invs:=[])) (FnOK.of (Qch s _) (Qbg s (λX=>Q1c X=Q1c (Q18 s)/\Q1d X=Q1d (Q18 s)) hw ⟨rfl,rfl⟩))
set_option maxRecDepth 100000 in
theorem Qbc(args:List D)(rows:List Row):Qfu Q5e args 0=Q2p (argR .apiEvent args 0):=by kernel_rfl
set_option maxRecDepth 100000 in
theorem Qat(args:List D)(rows:List Row):Q65 Q56 rows 0=Q2 (argR .apiEvent args 0):=by kernel_rfl
set_option maxRecDepth 100000 in
theorem Qd1(X:List Q0a):(ffB (Q1c X)&&ffBR (Q1d X))=true:=by kernel_rfl
theorem Qci:Q06 pG Qde:=Qze Tryz.call211 (λargs rows hp=>by rw[Qbc args rows,Qat args rows];exact Qaz (argR .apiEvent args 0) hp) (λ_ X=>Qd1 X)
def Q9q(r:Q01):Tree Q01:=
.an (Q09 r.A0.Mem) (.lv (Q04 r.A0.Mem) λ(x0:List Int)=> .an (Q0y r.B4) (.lv (Q13 r.B4) λ(x1:List Q0c)=> .an (Q12 r.A6) (.lv (Q18 r.A6) λ(x2:List Q0a)=> .lf ({A0:={B2:=r.A0.B2,Mem:=x0,A4:=r.A0.A4,B0:=r.A0.B0,B1:=r.A0.B1,C5:=r.A0.C5,A2:=r.A0.A2,A1:=r.A0.A1,A7:=r.A0.A7,A9:=r.A0.A9},A3:=r.A3,B4:=x1,A6:=x2}))))
def Qu3 r:=(Q9q r).m
abbrev Qen r:=(Q9q r).p
def Z31:Q0e:=mT 145 [] true [.agg Q01.sig] [] (λa r=>Q9q (Q01.of (aC a 0))) (λX=> .agg (Q01.cellsW X (.all 0) (.all 1) (.all 2))) (λX=>[⟨false,25,1, .ints .u32 X.A0.Mem⟩,⟨false,126,4, .recs .apiEntry X.B4⟩,⟨false,66,3, .recs .apiEvent X.A6⟩])
theorem Z0l:Q06 pG Z31:=oT (.cons Q0w (.cons Q5t (.cons Qci (.nil)))) Tryz.func145 Tryz.call145 [.row 25 1 (.ints .u32), .row 126 4 (.recs .apiEntry), .row 66 3 (.recs .apiEvent)] [] 2
def Qg8(m:Q00):Tree Q01:=
.an (Qen {A0:=m,A3:=0,B4:=[],A6:=[]}) (.lv (Qu3 {A0:=m,A3:=0,B4:=[],A6:=[]}) λ(x0:Q01)=> .lf x0)
def Z9g m:=(Qg8 m).m
abbrev Ql0 m:=(Qg8 m).p
def Zgj:Q0e:=mT 54 [] true [.agg Q00.sig] [] (λa r=>Qg8 (Q00.of (aC a 0))) (λX=> .agg (Q01.cellsW X (.all 0) (.all 1) (.all 2))) (λX=>[⟨false,25,1, .ints .u32 X.A0.Mem⟩,⟨false,126,4, .recs .apiEntry X.B4⟩,⟨false,66,3, .recs .apiEvent X.A6⟩])
theorem Za8:Q06 pG Zgj:=oT (.cons Z0l (.nil)) Tryz.func54 Tryz.call54 [.row 25 1 (.ints .u32), .row 126 4 (.recs .apiEntry), .row 66 3 (.recs .apiEvent)] [] 2
def Qgq(e:Q0a):Tree Bool:=
.br (e.B6==1) (.lf (decide (e.D0=[]))) (.br (e.B6==6) (.lf (decide (e.D0=[]))) (.br (e.B6==2) (.br (e.N==0) (.lf (decide (e.D0=[]))) (.lf false)) (.br (e.B6==3) (.br (decide (e.N<=255)) (.lf (decide (e.D0=[]))) (.lf false)) (.br (e.B6==4) (.br (e.N==1) (.br (decide (e.D0=[])) (.lf true) (.lf ((e.D0.length:Int)==(128:Int)))) (.br (e.N==0) (.lf (decide (e.D0=[]))) (.lf false))) (.br (e.B6==5) (.br (e.N==0) (.br (decide ((e.D0.length:Int)>=(1:Int))) (.lf (decide ((e.D0.length:Int)<=(128:Int)))) (.lf false)) (.lf false)) (.lf false))))))
def Qfh e:=(Qgq e).m
def Qzl:Q0e:=mS 150 [] true [.agg Q0a.sig] [] (λa r=>Qgq (Q0a.of (aC a 0))) (λX=> .bool X) (λX=>[])
theorem Qxm:Q06 pG Qzl:=oS (.nil) Tryz.func150 Tryz.call150 [] [] 2
end
noncomputable section
instance sumInhRc {α β:Type} [Inhabited β]:Inhabited (α⊕β):=⟨.inr default⟩
end
noncomputable section
def Q60(p:Q02):Tree Q02:=
.an (Q09 p.A0.Mem) (.lv (Q04 p.A0.Mem) λ(x0:List Int)=> .an (Q0y p.B4) (.lv (Q13 p.B4) λ(x1:List Q0c)=> .lf ({A0:={B2:=p.A0.B2,Mem:=x0,A4:=p.A0.A4,B0:=p.A0.B0,B1:=p.A0.B1,C5:=p.A0.C5,A2:=p.A0.A2,A1:=p.A0.A1,A7:=p.A0.A7,A9:=p.A0.A9},B4:=x1,C6:=p.C6,A3:=p.A3})))
def Qhe p:=(Q60 p).m
abbrev Q7l p:=(Q60 p).p
def Z4g:Q0e:=mT 149 [] true [.agg Q02.sig] [] (λa r=>Q60 (Q02.of (aC a 0))) (λX=> .agg (Q02.cellsW X (.all 0) (.sl 4 (.recs .apiEntry X.B4) true))) (λX=>[⟨false,25,1, .ints .u32 X.A0.Mem⟩])
theorem Qc6:Q06 pG Z4g:=oT (.cons Q0w (.cons Q5t (.nil))) Tryz.func149 Tryz.call149 [.row 25 1 (.ints .u32), .sl (.recs .apiEntry) true] [] 2
def Q9x(m:Q00):Tree Q02:=
.an (Q7l {A0:=m,B4:=[],C6:=m.A1,A3:=0}) (.lv (Qhe {A0:=m,B4:=[],C6:=m.A1,A3:=0}) λ(x0:Q02)=> .lf x0)
def Qwi m:=(Q9x m).m
abbrev Qfi m:=(Q9x m).p
def Zgd:Q0e:=Q0e.fz<|mkP 74 [] false [.agg Q00.sig] [] (λa r=>Qfi (Q00.of (aC a 0))) (λa r=>Qwi (Q00.of (aC a 0))) (λX=> .agg (Q02.cells X)) (λX=>[])
theorem Qu5:Q06 pG Zgd:=Zil<|Q0p drawn Q0l (.cons Qc6 (.nil)) Tryz.func74 Tryz.call74 (λa r=>Q9x (Q00.of (aC a 0))) [.sl (.ints .u32) false, .sl (.recs .apiEntry) false] [] 2 (λ_ _ _=>by kernel_rfl) (λ_ _=>rfl) (λ_ _ h=>h) (λh=>by cases h)
def Qd7(p:Q02):Tree Int:=
.br (decide (p.A0.A1>p.C6)) (.lf 0) (.lf (wrap u64 (p.C6-p.A0.A1)))
def Qd5 p:=(Qd7 p).m
def Zez:Q0e:=mS 66 [] true [.agg Q02.sig] [] (λa r=>Qd7 (Q02.of (aC a 0))) (λX=> .int .u64 X) (λX=>[])
theorem Qtl:Q06 pG Zez:=oS (.nil) Tryz.func66 Tryz.call66 [] [] 2
def Q74(p:Q02):Tree (Int×Bool×Bool):=
.br (decide ((p.B4.length:Int)>(0:Int))) (.cn (bS 4 4&&bT 0 4&&decide ((0:Int)<=(0:Int)/\0<(p.B4.length:Int))) (let E1:=p.B4.getD (dC 0) (RK.dflt RK.apiEntry); .br (E1.C0.B6==1) (.an (Q2u p.A0) (.lv (Q3e p.A0) λ(x0:Bool)=> .br (!x0) (.lf (0,false,!decide (E1.At<=p.A0.A1))) (.br (decide (E1.At<=p.A0.A1)) (.lf (E1.C0.N,true,E1.At==p.A0.A1)) (.lf (E1.C0.N,true,false))))) (.an (Q2u p.A0) (.lv (Q3e p.A0) λ(x1:Bool)=> .br (!x1) (.lf (0,false,true)) (.lf (E1.C0.N,true,false)))))) (.an (Q2u p.A0) (.lv (Q3e p.A0) λ(x2:Bool)=> .br (!x2) (.lf (0,false,true)) (.lf (0,true,false))))
def Qz9 p:=(Q74 p).m
abbrev Qh4 p:=(Q74 p).p
def Z6l:Q0e:=mT 157 [] true [.agg Q02.sig] [] (λa r=>Q74 (Q02.of (aC a 0))) (λX=> .tup [.int .u32 (X.1), .bool (X.2.1), .bool (X.2.2)]) (λX=>[])
theorem Qor:Q06 pG Z6l:=oT (.cons Qpv (.nil)) Tryz.func157 Tryz.call157 [] [] 2
def Qs7(p:Q02)(z:(Int)×Q00):Nat:=(p.B4.length-z.1).toNat
def Q9l(p:Q02):Tree (Q01×Bool):=
.an (Q4q p.A0) (.lv (Q1f p.A0) λ(x0:Bool)=>let T1:Tree ((Q01×Bool)):= .lf ({A0:={B2:={X:={a0:=0,a1:=0,a2:=0,a3:=0,a4:=0,a5:=0,a6:=0,a7:=0,a8:=0,a9:=0,a10:=0,a11:=0,a12:=0,a13:=0,a14:=0,a15:=0},Pc:=0,B5:={a0:=0,a1:=0,a2:=0,a3:=0,a4:=0,a5:=0,a6:=0,a7:=0}},Mem:=[],A4:={D3:=[]},B0:={D2:=false,C8:=0,D5:=false},B1:={Blocks:=0,C2:=0,Frame:=0,C1:=0,D8:=0,B7:=0,B3:=0,C4:=[]},C5:={Frame:=0,E0:=0,C7:=false,B9:=0,B8:=false,F1:=0},A2:={C9:=0,C3:=0},A1:=0,A7:=false,A9:=false},A3:=0,B4:=[],A6:=[]},false); .br (!x0) T1 (.br (p.A0.A1 !=p.C6) T1 (.lp inferInstance (Qs7 p (0,p.A0)+1) ((rZ/\rZ/\rZ/\((Els.Nil (Els.recs RK.apiEntry p.B4)\/rE (4:Nat))/\rE p.B4)/\rE ((p.B4.length:Int):Int)/\rE (0:Int)/\True)/\(mE p.A0 (((Els.Nil (Els.ints u32 p.A0.Mem)\/rE (1:Nat))/\rE p.A0.Mem)) (((Els.Nil (Els.recs RK.apiEntry p.B4)\/rE (4:Nat))/\rE p.B4)/\rE p.C6/\rE p.A3/\True))/\(mE zM True (rE (0:Int)/\True/\True/\True))/\(mE p.A0 (((Els.Nil (Els.ints u32 p.A0.Mem)\/rE (1:Nat))/\rE p.A0.Mem)) True)/\True) (0,p.A0) λ(v0:Int×Q00)=> .br (decide (v0.1<(p.B4.length:Int))) (.cn (bS 4 4&&bT 0 4&&decide (0<=v0.1/\v0.1<(p.B4.length:Int))) (let E2:=p.B4.getD v0.1.toNat (RK.dflt RK.apiEntry); .an (Qb v0.2 E2.C0) (.lv (Q6l v0.2 E2.C0) λ(x1:Q00×Bool)=> .nx ((rZ/\rZ/\rZ/\((Els.Nil (Els.recs RK.apiEntry p.B4)\/rE (4:Nat))/\rE p.B4)/\rE ((p.B4.length:Int):Int)/\rE ((wrap i64 (v0.1+1)):Int)/\True)/\(mE p.A0 (((Els.Nil (Els.ints u32 p.A0.Mem)\/rE (1:Nat))/\rE p.A0.Mem)) (((Els.Nil (Els.recs RK.apiEntry p.B4)\/rE (4:Nat))/\rE p.B4)/\rE p.C6/\rE p.A3/\True))/\(mE zM True (rE (0:Int)/\True/\True/\True))/\(mE x1.1 (rE x1.1.Mem) True)/\True) (Sum.inl (wrap i64 (v0.1+1),x1.1))))) (.an (Ql0 v0.2) (.lv (Z9g v0.2) λ(x2:Q01)=> .lf (Sum.inr ({A0:=x2.A0,A3:=p.A3,B4:=x2.B4,A6:=x2.A6},true)))))))
def Qn3 p:=(Q9l p).m
abbrev Qad p:=(Q9l p).p
def Qzt:LInv:={
 α:=(Int)×Q00
 F:=λst a=>([(1, .ptr 0 0 0),(2, .ptr 1 0 0),(4, .ptr 2 0 0),(24,(lk st 24)),(25,(lk st 25)),(26, .int i64 a.1)],[⟨true,106,52, .gen [[(cT st 1 0),(cT st 1 1),(cT st 1 2),(cT st 1 3),(cT st 1 4),(cT st 1 5),(cT st 1 6),(cT st 1 7),(cT st 1 8),(cT st 1 9),(cT st 1 10),(cT st 1 11),(cT st 1 12),(cT st 1 13),(cT st 1 14),(cT st 1 15),(cT st 1 16),(cT st 1 17),(cT st 1 18),(cT st 1 19),(cT st 1 20),(cT st 1 21),(cT st 1 22),(cT st 1 23),(cT st 1 24),(cT st 1 25),(cT st 1 26),(cT st 1 27),(cT st 1 28),(cT st 1 29),(cT st 1 30),(cT st 1 31),(cT st 1 32),(cT st 1 33),(cT st 1 34),(cT st 1 35),(cT st 1 36),(cT st 1 37),(cT st 1 38),(cT st 1 39),(cT st 1 40),(cT st 1 41),(cT st 1 42),(cT st 1 43),(cT st 1 44),(cT st 1 45),(cT st 1 46),(cT st 1 47),(cT st 1 48),(cT st 1 49),(cT st 1 50),(cT st 1 51)]]⟩,⟨true,96,52, .gen [[(cT st 2 0),(cT st 2 1),(cT st 2 2),(cT st 2 3),(cT st 2 4),(cT st 2 5),(cT st 2 6),(cT st 2 7),(cT st 2 8),(cT st 2 9),(cT st 2 10),(cT st 2 11),(cT st 2 12),(cT st 2 13),(cT st 2 14),(cT st 2 15),(cT st 2 16),(cT st 2 17),(cT st 2 18),(cT st 2 19),(cT st 2 20),(cT st 2 21),(cT st 2 22),(cT st 2 23),(cT st 2 24),(cT st 2 25),(cT st 2 26),(cT st 2 27),(cT st 2 28),(cT st 2 29),(cT st 2 30),(cT st 2 31),(cT st 2 32),(cT st 2 33),(cT st 2 34),(cT st 2 35),(cT st 2 36),(cT st 2 37),(cT st 2 38),(cT st 2 39),(cT st 2 40),(cT st 2 41),(cT st 2 42),(cT st 2 43),(cT st 2 44),(cT st 2 45),(cT st 2 46),(cT st 2 47),(cT st 2 48),(cT st 2 49),(cT st 2 50),(cT st 2 51)]]⟩,⟨true,43,49, .gen [mD a.2 (.sl 1 (.ints u32 a.2.Mem) false)]⟩])
 a0:=λst=>((lk st 26).toInt,(mR (cT st 4) (frzI u32 st.rows (cT st 4 25))))
 ex0:=λst=>[]++[(rX st 1 0),(rX st 2 1),(rX st 4 2)]}
def Qto:List (Nat×LInv):=[(5,Qzt)]
def Z2h:Q0e:=Q0e.fz<|mkP 71 [] true [.agg Q02.sig] [] (λa r=>Qad (Q02.of (aC a 0))) (λa r=>Qn3 (Q02.of (aC a 0))) (λX=> .tup [.agg (Q01.cellsW (X.1) (.all 0) (.all 1) (.all 2)), .bool (X.2)]) (λX=>[⟨false,25,1, .ints .u32 (X.1).A0.Mem⟩,⟨false,126,4, .recs .apiEntry (X.1).B4⟩,⟨false,66,3, .recs .apiEvent (X.1).A6⟩])
theorem Z0d:Q06 pG Z2h:=Zil<|Q0p drawn Q0l (.cons Qbo (.cons Qgy (.cons Za8 (.nil)))) Tryz.func71 Tryz.call71 (λa r=>Q9l (Q02.of (aC a 0))) [.row 25 1 (.ints .u32), .row 126 4 (.recs .apiEntry), .row 66 3 (.recs .apiEvent)] Qto 3
end
noncomputable section
def Qlh(script:List Q0c)(z:(Int)):Prop:=1<=z/\(z<=script.length\/z=1)
def Q4u(script:List Q0c)(z:(Int)):Nat:=(script.length-z).toNat
def Q92(script:List Q0c):Tree Bool:=
.lp inferInstance (Q4u script 1+1) ((nR RK.apiEntry 4 script/\rE (1:Int)/\True)/\True) 1 λ(v0:Int)=> .br (decide (v0<(script.length:Int))) (.cn (bS 4 4&&bT 0 4&&decide (0<=wrap i64 (v0-1)/\wrap i64 (v0-1)<(script.length:Int))) (.cn (bS 4 4&&bT 0 4&&decide (0<=v0/\v0<(script.length:Int))) (let E2:=script.getD (dC (wrap i64 (v0-1))) (RK.dflt RK.apiEntry);let E3:=script.getD v0.toNat (RK.dflt RK.apiEntry); .br (decide (E3.At<E2.At)) (.lf (Sum.inr false)) (let T1:Tree ((Int)⊕(Bool)):= .nx ((nR RK.apiEntry 4 script/\rE ((wrap i64 (v0+1)):Int)/\True)/\True) (Sum.inl (wrap i64 (v0+1))); .br (E3.At==E2.At) (.br (E2.C0.B6==1) (.lf (Sum.inr false)) T1) T1)))) (.lf (Sum.inr true))
def Q7y script:=(Q92 script).m
def Q52(script:List Q0c):Prop:=
script.length<=1000000000000
theorem Z0f(script:List Q0c)(hw:Q52 script):(Q92 script).p:=by
 simp only[Q52]at hw
 unfold Tree.p Q92
 repeat'(first|refine w_lp (inv:=Qlh script) (μ:=Q4u script) ?_ (cK _) (λ_ _=> ?_)|exact trivial|refine w_br (λ_=> ?_) (λ_=> ?_)|refine w_cn ?_ ?_|refine w_an ?_ ?_|refine w_lv (λ_ _=> ?_)|refine w_nx ?_|refine w_lf ?_|refine And.intro ?_ ?_)
 all_goals((try simp only[Qlh,Q4u]at*);exact fin0)
def Z57:LInv:={
 α:=(Int)
 F:=λst a=>([(0,(lk st 0)),(3, .int i64 a)],[])
 a0:=λst=>(lk st 3).toInt
 ex0:=λst=>[]++[]}
def Qwe:List (Nat×LInv):=[(2,Z57)]
def Z62:Q0e:=mkP 152 [] true [.one (.recs .apiEntry)] [] (λa r=>Q52 (argR .apiEntry a 0)) (λa r=>Q7y (argR .apiEntry a 0)) (λX=> .bool X) (λX=>[])
theorem Z53:Q06 pG Z62:=Q0p drawn Q0l (.nil) Tryz.func152 Tryz.call152 (λa r=>Q92 (argR .apiEntry a 0)) [] Qwe 3 (hp:=λa r h=>Z0f (argR .apiEntry a 0) h)
def Q2h(s:List Q0c)(n:Int):(List Q0c):=
[]
def Q1g(s:List Q0c)(n:Int):Prop:=
0<=n/\n<=1000000000000
def Q5f(s:List Q0c)(n:Int):List D:=[.nils, .int .i64 n]
def Q5d(s:List Q0c)(n:Int):List Row:=[]
def Q31(X:List Q0c):D:= .all 0
def Q3(X:List Q0c):List Row:=[⟨false,126,4, .recs .apiEntry X⟩]
def Q5x:List PT:=[.one .nil0, .one (.int .i64)]
def Q5l:List RT:=[]
def Qcz(args:List D)(rows:List Row):(List Q0c):=Q2h (argR .apiEntry args 0) (argI args 1)
def Qcn(args:List D)(rows:List Row):Prop:=Q1g (argR .apiEntry args 0) (argI args 1)
def Qdm:Q0e:=mkP 215 [true,false] true Q5x Q5l Qcn Qcz Q31 Q3
theorem Qbe(s:List Q0c)(n:Int)(hw:Q1g s n):Q4k pG 215 (Q5f s n) (Q5d s n) (Q31 (Q2h s n)) (Q3 (Q2h s n)):=by
 exact vF Tryz.lays8 Q0l rfl rfl (by decide) (by decide) hw.1 (by have:=hw.2;omega)
set_option maxRecDepth 100000 in
theorem Qbt(args:List D)(rows:List Row):Qfu Q5x args 0=Q5f (argR .apiEntry args 0) (argI args 1):=by kernel_rfl
set_option maxRecDepth 100000 in
theorem Qbf(args:List D)(rows:List Row):Q65 Q5l rows 0=Q5d (argR .apiEntry args 0) (argI args 1):=by kernel_rfl
set_option maxRecDepth 100000 in
theorem Qdf(X:List Q0c):(ffB (Q31 X)&&ffBR (Q3 X))=true:=by kernel_rfl
theorem Qdi:Q06 pG Qdm:=Qze Tryz.call215 (λargs rows hp=>by rw[Qbt args rows,Qbf args rows];exact Qbe (argR .apiEntry args 0) (argI args 1) hp) (λ_ X=>Qdf X)
def Q4j(slices:(List (List Q0c)))(z:(Int)×(Int)):Nat:=(slices.length-z.2).toNat
def Q4m(slices:(List (List Q0c)))(z:(Int)×(List Q0c)):Nat:=(slices.length-z.1).toNat
def Q14(slices:(List (List Q0c))):Tree (List Q0c):=
.lp inferInstance (Q4j slices (0,0)+1) ((nR RK.lapiEntry 1 slices/\rE (0:Int)/\nR RK.lapiEntry 1 slices/\rE ((slices.length:Int):Int)/\rE (0:Int)/\True)/\True) (0,0) λ(v0:Int×Int)=> .br (decide (v0.2<(slices.length:Int))) (.cn (bS 1 1&&bT 0 1&&decide (0<=v0.2/\v0.2<(slices.length:Int))) (let E1:=(↑(dH (slices.getD v0.2.toNat (RK.dflt RK.lapiEntry))):Int); .fl (decide (wrap i64 (v0.1+E1)<0)) (.nx ((nR RK.lapiEntry 1 slices/\rE ((wrap i64 (v0.1+(↑(dH (slices.getD v0.2.toNat (RK.dflt RK.lapiEntry))):Int))):Int)/\nR RK.lapiEntry 1 slices/\rE ((slices.length:Int):Int)/\rE ((wrap i64 (v0.2+1)):Int)/\True)/\True) (Sum.inl (wrap i64 (v0.1+E1),wrap i64 (v0.2+1)))))) (.an (Q1g [] v0.1) (.lv (Q2h [] v0.1) λ(x0:List Q0c)=> .lp inferInstance (Q4m slices (0,x0)+1) ((True/\nR RK.lapiEntry 1 slices/\rE ((slices.length:Int):Int)/\rE (0:Int)/\True)/\rE (x0:List (RK.T RK.apiEntry))/\True) (0,x0) λ(v1:Int×List Q0c)=> .br (decide (v1.1<(slices.length:Int))) (.cn (bS 1 1&&bT 0 1&&decide (0<=v1.1/\v1.1<(slices.length:Int))) (.cn (decide (40*(v1.2.length+dH (slices.getD v1.1.toNat (RK.dflt RK.lapiEntry)))<=140737488355328)) (.nx ((True/\nR RK.lapiEntry 1 slices/\rE ((slices.length:Int):Int)/\rE ((wrap i64 (v1.1+1)):Int)/\True)/\rE ((v1.2++slices.getD v1.1.toNat (RK.dflt RK.lapiEntry)):List (RK.T RK.apiEntry))/\True) (Sum.inl (wrap i64 (v1.1+1),v1.2++slices.getD v1.1.toNat (RK.dflt RK.lapiEntry)))))) (.lf (Sum.inr (Sum.inr v1.2)))))
def Q70 slices:=(Q14 slices).m
abbrev Q2m slices:=(Q14 slices).p
def Qbp:LInv:={
 α:=(Int)×(Int)
 F:=λst a=>([(0,(lk st 0)),(3, .int i64 a.1),(9,(lk st 9)),(10,(lk st 10)),(11, .int i64 a.2)],[])
 a0:=λst=>((lk st 3).toInt,(lk st 11).toInt)
 ex0:=λst=>[]++[]}
def Qbx:LInv:={
 α:=(Int)×(List Q0c)
 F:=λst a=>([(6, .all 0),(25,(lk st 25)),(26,(lk st 26)),(27, .int i64 a.1)],[⟨false,126,4, .recs RK.apiEntry a.2⟩])
 a0:=λst=>((lk st 27).toInt,(Q4w RK.apiEntry st.rows (rN st 6)))
 ex0:=λst=>[]++[(rX st 6 0)]}
def Qaj:List (Nat×LInv):=[(3,Qbp),(11,Qbx)]
def Qcj:Q0e:=mT 151 [] true [.one (.recs .lapiEntry)] [] (λa r=>Q14 (argR .lapiEntry a 0)) (λX=> .all 0) (λX=>[⟨false,126,4, .recs .apiEntry X⟩])
theorem Qc1:Q06 pG Qcj:=oT (.cons Qdi (.nil)) Tryz.func151 Tryz.call151 [.row 126 4 (.recs .apiEntry)] Qaj 3
def Qav(p:Q02)(l:List Q0c)(known:Int)(z:(Int)):Nat:=(l.length-z).toNat
def Q8f(p:Q02)(l:List Q0c)(known:Int):Tree (Q02×Bool):=
.an (Q7l p) (.lv (Qhe p) λ(x0:Q02)=> .br (decide (known<x0.C6)) (.lf (x0,false)) (.br (decide ((l.length:Int)>(400:Int))) (.lf (x0,false)) (.br (decide (wrap i64 ((x0.B4.length:Int)+(l.length:Int))>4096)) (.lf (x0,false)) (.lp inferInstance (Qav p l known 0+1) ((nR RK.apiEntry 4 l/\rE (known:Int)/\rZ/\rZ/\nR RK.apiEntry 4 l/\rE ((l.length:Int):Int)/\rE (0:Int)/\True)/\(mE x0.A0 True (((Els.Nil (Els.recs RK.apiEntry x0.B4)\/rE (4:Nat))/\rE x0.B4)/\rE x0.C6/\rE x0.A3/\True))/\rE x0.A0.Mem/\(mE zM True (True/\rE (0:Int)/\rE (0:Int)/\True))/\True) 0 λ(v0:Int)=> .br (decide (v0<(l.length:Int))) (.cn (bS 4 4&&bT 0 4&&decide (0<=v0/\v0<(l.length:Int))) (let E2:=l.getD v0.toNat (RK.dflt RK.apiEntry); .br (decide (E2.At<x0.C6)) (.lf (Sum.inr (x0,false))) (.br (decide (E2.At>known)) (.lf (Sum.inr (x0,false))) (let T1:Tree ((Int)⊕((Q02×Bool))):= .lv (Qfh E2.C0) λ(x1:Bool)=> .br (!x1) (.lf (Sum.inr (x0,false))) (.nx ((nR RK.apiEntry 4 l/\rE (known:Int)/\rZ/\rZ/\nR RK.apiEntry 4 l/\rE ((l.length:Int):Int)/\rE ((wrap i64 (v0+1)):Int)/\True)/\(mE x0.A0 True (((Els.Nil (Els.recs RK.apiEntry x0.B4)\/rE (4:Nat))/\rE x0.B4)/\rE x0.C6/\rE x0.A3/\True))/\rE x0.A0.Mem/\(mE zM True (True/\rE (0:Int)/\rE (0:Int)/\True))/\True) (Sum.inl (wrap i64 (v0+1)))); .br (E2.At==known) (.br (E2.C0.B6==1) (.lf (Sum.inr (x0,false))) T1) T1)))) (.an (Q2m [x0.B4,l]) (.lv (Q70 [x0.B4,l]) λ(x3:List Q0c)=> .an (Q52 x3) (.lv (Q7y x3) λ(x4:Bool)=> .br (!x4) (.lf (Sum.inr (x0,false))) (.lf (Sum.inr ({A0:=x0.A0,B4:=x3,C6:=known,A3:=x0.A3},true))))))))))
def Qso p l known:=(Q8f p l known).m
abbrev Qe4 p l known:=(Q8f p l known).p
def Z5o:LInv:={
 α:=(Int)
 F:=λst a=>([(1,(lk st 1)),(2,(lk st 2)),(3, .ptr 0 0 0),(6, .ptr 2 0 0),(32,(lk st 32)),(33,(lk st 33)),(34, .int i64 a)],[⟨true,106,52, .gen [[(cT st 3 0),(cT st 3 1),(cT st 3 2),(cT st 3 3),(cT st 3 4),(cT st 3 5),(cT st 3 6),(cT st 3 7),(cT st 3 8),(cT st 3 9),(cT st 3 10),(cT st 3 11),(cT st 3 12),(cT st 3 13),(cT st 3 14),(cT st 3 15),(cT st 3 16),(cT st 3 17),(cT st 3 18),(cT st 3 19),(cT st 3 20),(cT st 3 21),(cT st 3 22),(cT st 3 23),(cT st 3 24), .all 1,(cT st 3 26),(cT st 3 27),(cT st 3 28),(cT st 3 29),(cT st 3 30),(cT st 3 31),(cT st 3 32),(cT st 3 33),(cT st 3 34),(cT st 3 35),(cT st 3 36),(cT st 3 37),(cT st 3 38),(cT st 3 39),(cT st 3 40),(cT st 3 41),(cT st 3 42),(cT st 3 43),(cT st 3 44),(cT st 3 45),(cT st 3 46),(cT st 3 47),(cT st 3 48),(cT st 3 49),(cT st 3 50),(cT st 3 51)]]⟩,⟨false,25,1,esOf st.rows (Q0s (cT st 3 25) 1000000)⟩,⟨true,106,52, .gen [[(cT st 6 0),(cT st 6 1),(cT st 6 2),(cT st 6 3),(cT st 6 4),(cT st 6 5),(cT st 6 6),(cT st 6 7),(cT st 6 8),(cT st 6 9),(cT st 6 10),(cT st 6 11),(cT st 6 12),(cT st 6 13),(cT st 6 14),(cT st 6 15),(cT st 6 16),(cT st 6 17),(cT st 6 18),(cT st 6 19),(cT st 6 20),(cT st 6 21),(cT st 6 22),(cT st 6 23),(cT st 6 24),(cT st 6 25),(cT st 6 26),(cT st 6 27),(cT st 6 28),(cT st 6 29),(cT st 6 30),(cT st 6 31),(cT st 6 32),(cT st 6 33),(cT st 6 34),(cT st 6 35),(cT st 6 36),(cT st 6 37),(cT st 6 38),(cT st 6 39),(cT st 6 40),(cT st 6 41),(cT st 6 42),(cT st 6 43),(cT st 6 44),(cT st 6 45),(cT st 6 46),(cT st 6 47),(cT st 6 48),(cT st 6 49),(cT st 6 50),(cT st 6 51)]]⟩])
 a0:=λst=>(lk st 34).toInt
 ex0:=λst=>[]++[(rX st 3 0),(Q0s (cT st 3 25) (st.rows.length+1)),(rX st 6 2)]}
def Z0j:List (Nat×LInv):=[(5,Z5o)]
def Za6:Q0e:=mT 63 [] true [.agg Q02.sig, .one (.recs .apiEntry), .one (.int .u64)] [] (λa r=>Q8f (Q02.of (aC a 0)) (argR .apiEntry a 1) (argI a 2)) (λX=> .tup [.agg (Q02.cellsW (X.1) (.all 0) (.sl 4 (.recs .apiEntry X.1.B4) true)), .bool (X.2)]) (λX=>[⟨false,25,1, .ints .u32 (X.1).A0.Mem⟩])
theorem Qre:Q06 pG Za6:=oT (.cons Qc6 (.cons Qxm (.cons Qc1 (.cons Z53 (.nil))))) Tryz.func63 Tryz.call63 [.row 25 1 (.ints .u32), .sl (.recs .apiEntry) true] Z0j 3
end
noncomputable section
def Qfv:Q0e:=⟨156,[true],false,λargs rows=>match args,rows with|[.ptr r i o, .int .u64 n],[⟨true,ty,sz, .gen [e]⟩]=>(match bS r 0&&(bS i 0&&(bS o 49&&e.all D.stayB)) with|true=> .abs Unit () (λ_=> .clo 216 [.ptr 1 0 0, .ptr 2 0 0]) (λ_=>[⟨true,ty,sz, .gen [e]⟩,⟨true,219,1, .gen [[.ptr 0 0 49]]⟩,⟨true,41,1, .gen [[.int .u64 n]]⟩])|false=> .no)|_,_=> .no,none,false⟩
theorem Quj:Q06 pG Qfv:=by
  refine⟨λ_=>Tryz.call156,λ_=>by decide,λ_ args rows r r' hm=> ?_,λ_ args rows p r r' hm=> ?_,λ_ args rows α v res rows' hm=> ?_,λ_ args rows p α v res rows' hm=> ?_,λk hk=>(by cases hk),λk hk=>(by cases hk)⟩
  . simp only[Qfv]at hm;split at hm<;>(try split at hm)<;>cases hm
  . simp only[Qfv]at hm;split at hm<;>(try split at hm)<;>cases hm
  . simp only[Qfv]at hm
    split at hm
    . rename_i r i o n ty sz e
      split at hm
      . rename_i hc
        cases hm
        simp only[aE]at hc
        obtain⟨h1,h2,h3,he⟩:=hc
        have h1:=bE h1;have h2:=bE h2;have h3:=bE h3
        subst h1;subst h2;subst h3
        refine⟨?_,λh=>by cases h⟩
        have e1: ∀Q0:D->GD.Rows->Prop,(fnVC tab [] (λ_ _ _=>False) Tryz.f156 [.ptr 0 0 49, .int .u64 n] [⟨true,ty,sz, .gen [e]⟩] λd R=>Q0 d R)=Q0 (.clo 216 [.ptr 1 0 0, .ptr 2 0 0]) [some ⟨true,ty,sz, .gen [e]⟩,some ⟨true,219,1, .gen [[.ptr 0 0 49]]⟩,some ⟨true,41,1, .gen [[.int .u64 n]]⟩]:=λ_=>by kernel_rfl
        refine z6 drawn Q0l Q78.nil Tryz.func156 (rf:=none) (L:=λ_ _ _=>False) (λ_ _=>trivial) (λ_ _ _ _ h=>h.elim) (Q0:=λd R=>d= .clo 216 [.ptr 1 0 0, .ptr 2 0 0]/\R=[some ⟨true,ty,sz, .gen [e]⟩,some ⟨true,219,1, .gen [[.ptr 0 0 49]]⟩,some ⟨true,41,1, .gen [[.int .u64 n]]⟩]) (λd R h=> ?_) ((e1 _).symm▸⟨rfl,rfl⟩)
        obtain⟨rfl,rfl⟩:=h
        refine⟨[0,1,2],rfl,?_,?_⟩
        . simp [retD,retV,retC,cand,capX,inEx]
        . simp [Q3p,Z2p,retC,cand,inEx,Z7i he]
      . cases hm
    . cases hm
  . simp only[Qfv]at hm;split at hm<;>(try split at hm)<;>cases hm
def Q4h(p0:Q0a)(fr0:Q02):Tree (Bool×Q02):=
.an (Qb fr0.A0 p0) (.lv (Q6l fr0.A0 p0) λ(x0:Q00×Bool)=> .lf (true,{A0:=x0.1,B4:=fr0.B4,C6:=fr0.C6,A3:=fr0.A3}))
def Qj7 p0 fr0:=(Q4h p0 fr0).m
abbrev Qe8 p0 fr0:=(Q4h p0 fr0).p
def Qov:Q0e:=mkKP 1 1000000068 [false,true] [.agg Q0a.sig, .ptr 0] [.box 106 52 Q02.sig] (λa r=>Qe8 (Q0a.of (aC a 0)) (Q02.of (r.getD 0 default).cs)) (λa r=>Qj7 (Q0a.of (aC a 0)) (Q02.of (r.getD 0 default).cs)) (λX=> .bool (X.1)) (λX=>[⟨true,106,52, .gen [(Q02.cellsW (X.2) (.all 1) (.sl 4 (.recs .apiEntry X.2.B4) false))]⟩,⟨false,25,1, .ints .u32 (X.2).A0.Mem⟩])
theorem Qnw:Q06 pG Qov:=Zmt none (λ_ _=>trivial) drawn Q0l (.cons Qc6 (.cons Qbo (.cons Quj (.cons Qgy (.cons Qim (.cons Qor (.cons Qo2 (.nil)))))))) (Tryz.func1000000068 ⟨λ_ _=>by kernel_rfl,rfl⟩) (λh=>absurd h (by decide)) (λa r=>Q4h (Q0a.of (aC a 0)) (Q02.of (r.getD 0 default).cs)) [.row 25 1 (.ints .u32), .sl (.recs .apiEntry) false] [] 2 (λ_ _ _=>by kernel_rfl) (λ_ _=>rfl) (λ_ _ h=>h)
def Qkl(p:Q02)(fr1:Int)(z:Q02):Nat:=z.B4.length
def Q7a(p:Q02)(fr1:Int):Tree (Q02×Int):=
.lp inferInstance (Qkl p fr1 p+1) ((True/\rZ/\rZ/\True)/\(mE p.A0 (((Els.Nil (Els.ints u32 p.A0.Mem)\/rE (1:Nat))/\rE p.A0.Mem)) (((Els.Nil (Els.recs RK.apiEntry p.B4)\/rE (4:Nat))/\rE p.B4)/\rE p.C6/\rE p.A3/\True))/\(True/\True)/\(rE (fr1:Int)/\True)/\True) p λ(v0:Q02)=> .br (decide ((v0.B4.length:Int)>(0:Int))) (let E1:=bS 4 4&&bT 0 4&&decide ((0:Int)<=(0:Int)/\0<(v0.B4.length:Int)); .cn E1 (let E2:=v0.B4.getD (dC 0) (RK.dflt RK.apiEntry); .br (decide (E2.At<=fr1)) (.cn E1 (.br (E2.C0.B6 !=1) (.cn E1 (.cn (bS 4 4&&bT 0 4&&decide ((0:Int)<=(1:Int)/\1<=(v0.B4.length:Int)/\(v0.B4.length:Int)<=(v0.B4.length:Int))) (let E3:=dC (v0.B4.length:Int)-dC 1; .an (Qe8 E2.C0 {A0:=v0.A0,B4:=cY E3 (cZ (dC 1) v0.B4),C6:=v0.C6,A3:=v0.A3}) (.lv (Qj7 E2.C0 {A0:=v0.A0,B4:=cY E3 (cZ (dC 1) v0.B4),C6:=v0.C6,A3:=v0.A3}) λ(x0:Bool×Q02)=> .br (!x0.1) (.lf (Sum.inr (x0.2,fr1))) (.nx ((True/\rZ/\rZ/\True)/\(mE x0.2.A0 (rE x0.2.A0.Mem) (((Els.Nil (Els.recs RK.apiEntry x0.2.B4)\/rE (4:Nat))/\rE x0.2.B4)/\rE x0.2.C6/\rE x0.2.A3/\True))/\(True/\True)/\(rE (fr1:Int)/\True)/\True) (Sum.inl x0.2)))))) (.lf (Sum.inr (v0,fr1))))) (.lf (Sum.inr (v0,fr1))))) (.lf (Sum.inr (v0,fr1)))
def Qyv p fr1:=(Q7a p fr1).m
abbrev Qgr p fr1:=(Q7a p fr1).p
def Z5:LInv:={
 α:=Q02
 F:=λst a=>([(0, .clo 1000000068 [.ptr 0 0 0]),(1, .ptr 1 0 0),(2, .ptr 2 0 0)],[⟨true,106,52, .gen [[.int u32 a.A0.B2.X.a0, .int u32 a.A0.B2.X.a1, .int u32 a.A0.B2.X.a2, .int u32 a.A0.B2.X.a3, .int u32 a.A0.B2.X.a4, .int u32 a.A0.B2.X.a5, .int u32 a.A0.B2.X.a6, .int u32 a.A0.B2.X.a7, .int u32 a.A0.B2.X.a8, .int u32 a.A0.B2.X.a9, .int u32 a.A0.B2.X.a10, .int u32 a.A0.B2.X.a11, .int u32 a.A0.B2.X.a12, .int u32 a.A0.B2.X.a13, .int u32 a.A0.B2.X.a14, .int u32 a.A0.B2.X.a15, .int u32 a.A0.B2.Pc, .int u32 a.A0.B2.B5.a0, .int u32 a.A0.B2.B5.a1, .int u32 a.A0.B2.B5.a2, .int u32 a.A0.B2.B5.a3, .int u32 a.A0.B2.B5.a4, .int u32 a.A0.B2.B5.a5, .int u32 a.A0.B2.B5.a6, .int u32 a.A0.B2.B5.a7, .sl 1 (.ints u32 a.A0.Mem) false, .str a.A0.A4.D3, .bool a.A0.B0.D2, .int u32 a.A0.B0.C8, .bool a.A0.B0.D5, .int u32 a.A0.B1.Blocks, .int u32 a.A0.B1.C2, .int u32 a.A0.B1.Frame, .int i64 a.A0.B1.C1, .int i64 a.A0.B1.D8, .int u32 a.A0.B1.B7, .int u32 a.A0.B1.B3, .str a.A0.B1.C4, .int u32 a.A0.C5.Frame, .int u32 a.A0.C5.E0, .bool a.A0.C5.C7, .int u32 a.A0.C5.B9, .bool a.A0.C5.B8, .int u32 a.A0.C5.F1, .int u32 a.A0.A2.C9, .int u32 a.A0.A2.C3, .int u64 a.A0.A1, .bool a.A0.A7, .bool a.A0.A9, .sl 4 (.recs RK.apiEntry a.B4) false, .int u64 a.C6, .int u32 a.A3]]⟩,⟨true,219,1, .gen [[.ptr 0 0 49]]⟩,⟨true,41,1, .gen [[(Q0v st.rows 2 0)]]⟩])
 a0:=λst=>(⟨(⟨(⟨(⟨(Q0v st.rows 0 0).toInt,(Q0v st.rows 0 1).toInt,(Q0v st.rows 0 2).toInt,(Q0v st.rows 0 3).toInt,(Q0v st.rows 0 4).toInt,(Q0v st.rows 0 5).toInt,(Q0v st.rows 0 6).toInt,(Q0v st.rows 0 7).toInt,(Q0v st.rows 0 8).toInt,(Q0v st.rows 0 9).toInt,(Q0v st.rows 0 10).toInt,(Q0v st.rows 0 11).toInt,(Q0v st.rows 0 12).toInt,(Q0v st.rows 0 13).toInt,(Q0v st.rows 0 14).toInt,(Q0v st.rows 0 15).toInt⟩:(A16 Int)),(Q0v st.rows 0 16).toInt,(⟨(Q0v st.rows 0 17).toInt,(Q0v st.rows 0 18).toInt,(Q0v st.rows 0 19).toInt,(Q0v st.rows 0 20).toInt,(Q0v st.rows 0 21).toInt,(Q0v st.rows 0 22).toInt,(Q0v st.rows 0 23).toInt,(Q0v st.rows 0 24).toInt⟩:(A8 Int))⟩:Q05),(frzI u32 st.rows (Q0v st.rows 0 25)),(⟨(Q0v st.rows 0 26).toStr⟩:Q0d),(⟨(Q0v st.rows 0 27).toBool,(Q0v st.rows 0 28).toInt,(Q0v st.rows 0 29).toBool⟩:Q0i),(⟨(Q0v st.rows 0 30).toInt,(Q0v st.rows 0 31).toInt,(Q0v st.rows 0 32).toInt,(Q0v st.rows 0 33).toInt,(Q0v st.rows 0 34).toInt,(Q0v st.rows 0 35).toInt,(Q0v st.rows 0 36).toInt,(Q0v st.rows 0 37).toStr⟩:Q0g),(⟨(Q0v st.rows 0 38).toInt,(Q0v st.rows 0 39).toInt,(Q0v st.rows 0 40).toBool,(Q0v st.rows 0 41).toInt,(Q0v st.rows 0 42).toBool,(Q0v st.rows 0 43).toInt⟩:Q0r),(⟨(Q0v st.rows 0 44).toInt,(Q0v st.rows 0 45).toInt⟩:Q07),(Q0v st.rows 0 46).toInt,(Q0v st.rows 0 47).toBool,(Q0v st.rows 0 48).toBool⟩:Q00),(slR RK.apiEntry (Q0v st.rows 0 49)),(Q0v st.rows 0 50).toInt,(Q0v st.rows 0 51).toInt⟩:Q02)
 ex0:=λst=>[0,1,2]++[]}
def Qwf:List (Nat×LInv):=[(0,Z5)]
def Z6y:Q0e:=mkKP 3 216 [true,true,true] [.clo 1000000068 [.ptr 0 0 0], .ptr 1, .ptr 2] [.box 106 52 Q02.sig, .box 219 1 [.pt 0 0 49], .box 41 1 [.int .u64]] (λa r=>Qgr (Q02.of (r.getD 0 default).cs) (rcell r 2 0).toInt) (λa r=>Qyv (Q02.of (r.getD 0 default).cs) (rcell r 2 0).toInt) (λX=> .tup []) (λX=>[⟨true,106,52, .gen [(Q02.cells (X.1))]⟩,⟨true,219,1, .gen [[.ptr 0 0 49]]⟩,⟨true,41,1, .gen [[.int .u64 X.2]]⟩])
theorem Z1s:Q06 pG Z6y:=xz drawn Q0l (.cons Qnw (.nil)) Tryz.func216 Tryz.call216 (λa r=>Q7a (Q02.of (r.getD 0 default).cs) (rcell r 2 0).toInt) [.sl (.ints .u32) false, .sl (.recs .apiEntry) false] Qwf 3 (λ_ _ _=>by kernel_rfl) (λ_ _=>rfl) (λ_ _ h=>h)
def Q7f(p:Q02)(steps:Int)(z:(Int)×Q02×(List Q03)):Nat:=(4000-z.1).toNat
def Q53(p:Q02)(steps:Int):Tree (Q02×(List Q03)):=
.an (Q7l p) (.lv (Qhe p) λ(x0:Q02)=> .an (Q4q x0.A0) (.lv (Q1f x0.A0) λ(x1:Bool)=> .br (!x1) (.lf (x0,[])) (.lp inferInstance (Q7f p steps (0,x0,[])+1) ((rZ/\rZ/\True/\rE ((if 4000<if 0>steps then 0 else steps then 4000 else if 0>steps then 0 else steps):Int)/\rE (0:Int)/\True)/\(mE x0.A0 (rE x0.A0.Mem) (((Els.Nil (Els.recs RK.apiEntry x0.B4)\/rE (4:Nat))/\rE x0.B4)/\rE x0.C6/\rE x0.A3/\True))/\(mE zM True (True/\rE (0:Int)/\rE (0:Int)/\True))/\rE ([]:List (RK.T RK.apiOutput))/\True) (0,x0,[]) λ(v0:Int×Q02×List Q03)=> .br (decide (v0.1<if 4000<if 0>steps then 0 else steps then 4000 else if 0>steps then 0 else steps)) (.br (decide (v0.2.1.A0.A1>=v0.2.1.C6)) (.lf (Sum.inr (v0.2.1,v0.2.2))) (.lv () λ(x2:Unit)=> .an (Qgr v0.2.1 v0.2.1.A0.A1) (.lv (Qyv v0.2.1 v0.2.1.A0.A1) λ(x3:Q02×Int)=> .br x3.1.A0.A9 (.lf (Sum.inr (x3.1,v0.2.2))) (.an (Q8o x3.1.A0) (.lv (Q4c x3.1.A0) λ(x4:Bool)=> .br x4 (.lf (Sum.inr (x3.1,v0.2.2))) (.br (x3.1.A0.A1==1152921504606846976) (.lf (Sum.inr (x3.1,v0.2.2))) (.an (Qh4 x3.1) (.lv (Qz9 x3.1) λ(x5:Int×Bool×Bool)=> .br (!x5.2.2) (.lf (Sum.inr (x3.1,v0.2.2))) (.br x5.2.1 (.cn (bS 4 4&&bT 0 4&&decide ((0:Int)<=(1:Int)/\1<=(x3.1.B4.length:Int)/\(x3.1.B4.length:Int)<=(x3.1.B4.length:Int))) (.an (Q6f x3.1.A0 x5.1) (.lv (Q3n x3.1.A0 x5.1) λ(x6:Q00×List Q03)=> .cn (decide (40*(v0.2.2.length+x6.2.length)<=140737488355328)) (.nx ((rZ/\rZ/\True/\rE ((if 4000<if 0>steps then 0 else steps then 4000 else if 0>steps then 0 else steps):Int)/\rE ((wrap i64 (v0.1+1)):Int)/\True)/\(mE x6.1 (((Els.Nil (Els.ints u32 x6.1.Mem)\/rE (1:Nat))/\rE x6.1.Mem)) (((Els.Nil (Els.take (Els.drop (Els.recs RK.apiEntry x3.1.B4) (dC 1)) (dC (↑(Els.len (Els.recs RK.apiEntry x3.1.B4)):Int)-dC 1))\/rE (4:Nat))/\rE ((cY (dC (x3.1.B4.length:Int)-dC 1) (cZ (dC 1) x3.1.B4)):List (RK.T RK.apiEntry)))/\rE x3.1.C6/\rE ((wrap u32 (x5.1+1)):Int)/\True))/\(mE zM True (True/\rE (0:Int)/\rE (0:Int)/\True))/\rE ((v0.2.2++x6.2):List (RK.T RK.apiOutput))/\True) (Sum.inl (wrap i64 (v0.1+1),{A0:=x6.1,B4:=cY (dC (x3.1.B4.length:Int)-dC 1) (cZ (dC 1) x3.1.B4),C6:=x3.1.C6,A3:=wrap u32 (x5.1+1)},v0.2.2++x6.2)))))) (.an (Q6f x3.1.A0 x5.1) (.lv (Q3n x3.1.A0 x5.1) λ(x7:Q00×List Q03)=> .cn (decide (40*(v0.2.2.length+x7.2.length)<=140737488355328)) (.nx ((rZ/\rZ/\True/\rE ((if 4000<if 0>steps then 0 else steps then 4000 else if 0>steps then 0 else steps):Int)/\rE ((wrap i64 (v0.1+1)):Int)/\True)/\(mE x7.1 (((Els.Nil (Els.ints u32 x7.1.Mem)\/rE (1:Nat))/\rE x7.1.Mem)) (((Els.Nil (Els.recs RK.apiEntry x3.1.B4)\/rE (4:Nat))/\rE x3.1.B4)/\rE x3.1.C6/\rE x3.1.A3/\True))/\(mE zM True (True/\rE (0:Int)/\rE (0:Int)/\True))/\rE ((v0.2.2++x7.2):List (RK.T RK.apiOutput))/\True) (Sum.inl (wrap i64 (v0.1+1),{A0:=x7.1,B4:=x3.1.B4,C6:=x3.1.C6,A3:=x3.1.A3},v0.2.2++x7.2)))))))))))))) (.lf (Sum.inr (v0.2.1,v0.2.2))))))
def Qkr p steps:=(Q53 p steps).m
abbrev Q98 p steps:=(Q53 p steps).p
def Qwy:LInv:={
 α:=(Int)×Q02×(List Q03)
 F:=λst a=>([(2, .ptr 0 0 0),(4, .ptr 1 0 0),(6, .all 2),(21,(lk st 21)),(22, .int i64 a.1)],[⟨true,106,52, .gen [[.int u32 a.2.1.A0.B2.X.a0, .int u32 a.2.1.A0.B2.X.a1, .int u32 a.2.1.A0.B2.X.a2, .int u32 a.2.1.A0.B2.X.a3, .int u32 a.2.1.A0.B2.X.a4, .int u32 a.2.1.A0.B2.X.a5, .int u32 a.2.1.A0.B2.X.a6, .int u32 a.2.1.A0.B2.X.a7, .int u32 a.2.1.A0.B2.X.a8, .int u32 a.2.1.A0.B2.X.a9, .int u32 a.2.1.A0.B2.X.a10, .int u32 a.2.1.A0.B2.X.a11, .int u32 a.2.1.A0.B2.X.a12, .int u32 a.2.1.A0.B2.X.a13, .int u32 a.2.1.A0.B2.X.a14, .int u32 a.2.1.A0.B2.X.a15, .int u32 a.2.1.A0.B2.Pc, .int u32 a.2.1.A0.B2.B5.a0, .int u32 a.2.1.A0.B2.B5.a1, .int u32 a.2.1.A0.B2.B5.a2, .int u32 a.2.1.A0.B2.B5.a3, .int u32 a.2.1.A0.B2.B5.a4, .int u32 a.2.1.A0.B2.B5.a5, .int u32 a.2.1.A0.B2.B5.a6, .int u32 a.2.1.A0.B2.B5.a7, .sl 1 (.ints u32 a.2.1.A0.Mem) false, .str a.2.1.A0.A4.D3, .bool a.2.1.A0.B0.D2, .int u32 a.2.1.A0.B0.C8, .bool a.2.1.A0.B0.D5, .int u32 a.2.1.A0.B1.Blocks, .int u32 a.2.1.A0.B1.C2, .int u32 a.2.1.A0.B1.Frame, .int i64 a.2.1.A0.B1.C1, .int i64 a.2.1.A0.B1.D8, .int u32 a.2.1.A0.B1.B7, .int u32 a.2.1.A0.B1.B3, .str a.2.1.A0.B1.C4, .int u32 a.2.1.A0.C5.Frame, .int u32 a.2.1.A0.C5.E0, .bool a.2.1.A0.C5.C7, .int u32 a.2.1.A0.C5.B9, .bool a.2.1.A0.C5.B8, .int u32 a.2.1.A0.C5.F1, .int u32 a.2.1.A0.A2.C9, .int u32 a.2.1.A0.A2.C3, .int u64 a.2.1.A0.A1, .bool a.2.1.A0.A7, .bool a.2.1.A0.A9, .sl 4 (.recs RK.apiEntry a.2.1.B4) false, .int u64 a.2.1.C6, .int u32 a.2.1.A3]]⟩,⟨true,106,52, .gen [[(cT st 4 0),(cT st 4 1),(cT st 4 2),(cT st 4 3),(cT st 4 4),(cT st 4 5),(cT st 4 6),(cT st 4 7),(cT st 4 8),(cT st 4 9),(cT st 4 10),(cT st 4 11),(cT st 4 12),(cT st 4 13),(cT st 4 14),(cT st 4 15),(cT st 4 16),(cT st 4 17),(cT st 4 18),(cT st 4 19),(cT st 4 20),(cT st 4 21),(cT st 4 22),(cT st 4 23),(cT st 4 24),(cT st 4 25),(cT st 4 26),(cT st 4 27),(cT st 4 28),(cT st 4 29),(cT st 4 30),(cT st 4 31),(cT st 4 32),(cT st 4 33),(cT st 4 34),(cT st 4 35),(cT st 4 36),(cT st 4 37),(cT st 4 38),(cT st 4 39),(cT st 4 40),(cT st 4 41),(cT st 4 42),(cT st 4 43),(cT st 4 44),(cT st 4 45),(cT st 4 46),(cT st 4 47),(cT st 4 48),(cT st 4 49),(cT st 4 50),(cT st 4 51)]]⟩,⟨false,71,4, .recs RK.apiOutput a.2.2⟩])
 a0:=λst=>((lk st 22).toInt,(⟨(mR (cT st 2) (frzI u32 st.rows (cT st 2 25))),(slR RK.apiEntry (cT st 2 49)),(cT st 2 50).toInt,(cT st 2 51).toInt⟩:Q02),(Q4w RK.apiOutput st.rows (rN st 6)))
 ex0:=λst=>[]++[(rX st 2 0),(rX st 4 1),(rX st 6 2)]}
def Qsl:List (Nat×LInv):=[(6,Qwy)]
def Z05:Q0e:=Q0e.fz<|mkP 68 [] false [.agg Q02.sig, .one (.int .i64)] [] (λa r=>Q98 (Q02.of (aC a 0)) (argI a 1)) (λa r=>Qkr (Q02.of (aC a 0)) (argI a 1)) (λX=> .tup [.agg (Q02.cells (X.1)), .all 0]) (λX=>[⟨false,71,4, .recs .apiOutput (X.2)⟩])
theorem Ql6:Q06 pG Z05:=Zil<|qz (some 1000000068) (rf_of (by kernel_rfl) rfl) drawn Q0l (.cons Qc6 (.cons Qbo (.cons Quj (.cons Qgy (.cons Qim (.cons Qor (.cons Qo2 (.cons Z1s (.nil))))))))) Tryz.func68 Tryz.call68 (λa r=>Q53 (Q02.of (aC a 0)) (argI a 1)) [.sl (.ints .u32) false, .sl (.recs .apiEntry) false, .row 71 4 (.recs .apiOutput)] Qsl 3 (λ_ _ _=>by kernel_rfl) (λ_ _=>rfl) (λ_ _ h=>h) (λh=>by cases h)
end
noncomputable section
def Qdz:Tree Bool:=
.an (Qa4 1 0 []) (.lv (Q1x 1 0 []) λ(x0:Q00×Bool)=> .an (Qfi x0.1) (.lv (Qwi x0.1) λ(x1:Q02)=> .an (Qe4 x1 [] 3) (.lv (Qso x1 [] 3) λ(x2:Q02×Bool)=> .an (Q98 x2.1 10) (.lv (Qkr x2.1 10) λ(x3:Q02×List Q03)=> .an (Qad x3.1) (.lv (Qn3 x3.1) λ(x4:Q01×Bool)=> .an (Qad x2.1) (.lv (Qn3 x2.1) λ(x5:Q01×Bool)=> .br x2.2 (.lv (Qd5 x2.1) λ(x6:Int)=> .br (x6==3) (.br (x3.1.A0.A1==3) (.br ((x3.2.length:Int)==(0:Int)) (.lv (Qd5 x3.1) λ(x7:Int)=> .br (x7==0) (.br x4.2 (.lf (!x5.2)) (.lf false)) (.lf false)) (.lf false)) (.lf false)) (.lf false)) (.lf false)))))))
def Q5u:Bool:=(Qdz).m
abbrev Q2f:Prop:=(Qdz).p
def Za0:Q0e:=mT 60 [] true [] [] (λa r=>Qdz) (λX=> .bool X) (λX=>[])
theorem Z77:Q06 pG Za0:=oT (.cons Z24 (.cons Qre (.cons Qu5 (.cons Ql6 (.cons Z0d (.cons Qtl (.nil))))))) Tryz.func60 Tryz.call60 [] [] 2
end
noncomputable section
def Qby(l:List Q0c)(how at0:Int):Tree (List Q0c):=
.br ((l.length:Int)==(0:Int)) (.lf l) (.cn (decide (40*(0+l.length)<=140737488355328)) (.an (Q2x at0 (l.length:Int)) (.lv (Q3k at0 (l.length:Int)) λ(x0:Int)=> .an (Q2x how 6) (.lv (Q3k how 6) λ(x1:Int)=>let E1:=bS 4 4&&bT 0 4&&decide (0<=x0/\x0<(l.length:Int));let E2:=l.getD x0.toNat (RK.dflt RK.apiEntry); .br (x1==0) (.cn E1 (.cn E1 (.lf (List.set l x0.toNat {At:=wrap u64 (E2.At+1),C0:=E2.C0})))) (.br (x1==1) (.cn (bS 4 4&&bT 0 4&&decide ((0:Int)<=(0:Int)/\0<=x0/\x0<=(l.length:Int))) (.cn (bS 4 4&&bT 0 4&&decide (0<=wrap i64 (x0+1)/\wrap i64 (x0+1)<=(l.length:Int)/\(l.length:Int)<=(l.length:Int))) (let E3:=dC (l.length:Int)-dC (wrap i64 (x0+1));let E5:=cZ (dC (wrap i64 (x0+1))) l; .cn (decide (40*(dH (cY (dC x0-dC 0) l)+dH (cY E3 E5))<=140737488355328)) (.lf (cY (dC x0-dC 0) l++cY E3 E5))))) (.br (x1==2) (.cn (bS 4 4&&bT 0 4&&decide ((0:Int)<=(0:Int)/\0<=wrap i64 (x0+1)/\wrap i64 (x0+1)<=(l.length:Int))) (.cn (bS 4 4&&bT 0 4&&decide (0<=x0/\x0<=(l.length:Int)/\(l.length:Int)<=(l.length:Int))) (let E4:=dC (l.length:Int)-dC x0;let E6:=dC (wrap i64 (x0+1))-dC 0; .cn (decide (40*(dH (cY E6 l)+dH (cY E4 (cZ x0.toNat l)))<=140737488355328)) (.lf (cY E6 l++cY E4 (cZ x0.toNat l)))))) (.br (x1==3) (.an (Qkv at0) (.lv (Q3z at0) λ(x2:Q0a)=> .cn E1 (.lf (List.set l x0.toNat {At:=E2.At,C0:=x2})))) (.lf l))))))))
def Qzb l how at0:=(Qby l how at0).m
abbrev Qnc l how at0:=(Qby l how at0).p
def Z6r:Q0e:=mT 62 [] false [.one (.recs .apiEntry), .one (.int .i64), .one (.int .i64)] [] (λa r=>Qby (argR .apiEntry a 0) (argI a 1) (argI a 2)) (λX=> .sl 4 (.recs .apiEntry X) false) (λX=>[])
theorem Z2x:Q06 pG Z6r:=oT (.cons Qhk (.cons Qtr (.nil))) Tryz.func62 Tryz.call62 [.sl (.recs .apiEntry) false] [] 2 (hff:=nofun)
end
noncomputable section
def Qr9(m:Q00)(script:List Q0c)(until0:Int)(z:(Int)×Q00×(List Q03)):Nat:=(until0-z.2.1.A1).toNat
def Qrn(m:Q00)(script:List Q0c)(until0:Int)(v0:Int×Q00×List Q03)(z:(Int)×Q00):Nat:=(script.length-z.1).toNat
def Ql7(m:Q00)(script:List Q0c)(until0:Int):Tree (Q00×(List Q03)×Int×Int):=
.lv (Q64 m) λ(x0:Bool)=>let E7:=({B2:={X:={a0:=0,a1:=0,a2:=0,a3:=0,a4:=0,a5:=0,a6:=0,a7:=0,a8:=0,a9:=0,a10:=0,a11:=0,a12:=0,a13:=0,a14:=0,a15:=0},Pc:=0,B5:={a0:=0,a1:=0,a2:=0,a3:=0,a4:=0,a5:=0,a6:=0,a7:=0}},Mem:=[],A4:={D3:=[]},B0:={D2:=false,C8:=0,D5:=false},B1:={Blocks:=0,C2:=0,Frame:=0,C1:=0,D8:=0,B7:=0,B3:=0,C4:=[]},C5:={Frame:=0,E0:=0,C7:=false,B9:=0,B8:=false,F1:=0},A2:={C9:=0,C3:=0},A1:=0,A7:=false,A9:=false}:Q00);let T4:Tree ((Q00×(List Q03)×Int×Int)):= .lf (E7,[],0,1300); .br (!x0) T4 (.br (decide (until0<m.A1)) T4 (.br (decide (wrap u64 (until0-m.A1)>4000)) T4 (.br (decide ((script.length:Int)>(400:Int))) T4 (.an (Q6b script) (.lv (Qk5 script) λ(x1:Bool)=>let T5:Tree ((Q00×(List Q03)×Int×Int)):= .lf (E7,[],0,1301); .br (!x1) T5 (let T1:Tree ((Q00×(List Q03)×Int×Int)):= .an (Qd6 m) (.lv (Qk2 m) λ(x2:Q00)=> .lp inferInstance (Qr9 m script until0 (0,x2,[])+1) ((nR RK.apiEntry 4 script/\rE (until0:Int)/\rZ/\rZ/\True/\rE (0:Int)/\True)/\(mE x2 True True)/\rE x2.Mem/\(mE zM True True)/\rE ([]:List (RK.T RK.apiOutput))/\True) (0,x2,[]) λ(v0:Int×Q00×List Q03)=> .br (decide (v0.2.1.A1<until0)) (.br (decide (v0.2.1.A1<1152921504606846976)) (.lp inferInstance (Qrn m script until0 v0 (v0.1,v0.2.1)+1) ((nR RK.apiEntry 4 script/\rE (until0:Int)/\rZ/\rZ/\True/\rE v0.1/\(rE (0:Nat)/\rE (46:Nat))/\rE v0.2.1.A1/\rE ((decide (v0.2.1.A1<1152921504606846976)):Bool)/\True)/\(mE v0.2.1 True True)/\rE v0.2.1.Mem/\(mE zM True True)/\rE v0.2.2/\True) (v0.1,v0.2.1) λ(v1:Int×Q00)=>let E8:=bS 4 4&&bT 0 4&&decide (0<=v1.1/\v1.1<(script.length:Int));let E9:=script.getD v1.1.toNat (RK.dflt RK.apiEntry);let E10:=decide (v1.1<(script.length:Int));let T2:Tree ((Int×Q00)⊕((Int×Q00×List Q03)⊕((Q00×(List Q03)×Int×Int)))):= .br v1.2.A9 (.lf (Sum.inr (Sum.inr (v1.2,v0.2.2,v1.1,0)))) (.an (Qhn v1.2) (.lv (Q7j v1.2) λ(x4:Bool)=> .br x4 (.br E10 (.lf (Sum.inr (Sum.inr (E7,[],0,1303)))) (.lf (Sum.inr (Sum.inr (v1.2,v0.2.2,v1.1,0))))) (let T3:Tree ((Int×Q00)⊕((Int×Q00×List Q03)⊕((Q00×(List Q03)×Int×Int)))):= .an (Q8q v1.2 0) (.lv (Q0j v1.2 0) λ(x7:List Q03×Q00)=> .cn (decide (40*(v0.2.2.length+x7.1.length)<=140737488355328)) (.nx ((nR RK.apiEntry 4 script/\rE (until0:Int)/\rZ/\rZ/\True/\rE v1.1/\True)/\(mE x7.2 True True)/\rE x7.2.Mem/\(mE zM True True)/\rE ((v0.2.2++x7.1):List (RK.T RK.apiOutput))/\True) (Sum.inr (Sum.inl (v1.1,x7.2,v0.2.2++x7.1)))));let T6:Tree ((Int×Q00)⊕((Int×Q00×List Q03)⊕((Q00×(List Q03)×Int×Int)))):= .lf (Sum.inr (Sum.inr (E7,[],0,1302))); .br E10 (.cn E8 (.an (Qc2 v1.2) (.lv (Q1y v1.2) λ(x5:Bool)=> .br (!(E9.At==v1.2.A1)==x5) T6 (.br (E9.At==v1.2.A1) (.cn E8 (.an (Q8q v1.2 E9.C0.N) (.lv (Q0j v1.2 E9.C0.N) λ(x6:List Q03×Q00)=> .cn (decide (40*(v0.2.2.length+x6.1.length)<=140737488355328)) (.nx ((nR RK.apiEntry 4 script/\rE (until0:Int)/\rZ/\rZ/\True/\rE ((wrap i64 (v1.1+1)):Int)/\True)/\(mE x6.2 True True)/\rE x6.2.Mem/\(mE zM True True)/\rE ((v0.2.2++x6.1):List (RK.T RK.apiOutput))/\True) (Sum.inr (Sum.inl (wrap i64 (v1.1+1),x6.2,v0.2.2++x6.1))))))) T3)))) (.an (Qc2 v1.2) (.lv (Q1y v1.2) λ(x8:Bool)=> .br (!false==x8) T6 T3))))); .br E10 (.cn E8 (.br (E9.At==v1.2.A1) (.cn E8 (.br (E9.C0.B6 !=1) (.cn E8 (.an (Qky v1.2 E9.C0) (.lv (Q0q v1.2 E9.C0) λ(x3:Bool×Q00)=> .nx ((nR RK.apiEntry 4 script/\rE (until0:Int)/\rZ/\rZ/\True/\rE ((wrap i64 (v1.1+1)):Int)/\(rE (0:Nat)/\rE (46:Nat))/\rE v0.2.1.A1/\rE ((decide (v0.2.1.A1<1152921504606846976)):Bool)/\True)/\(mE x3.2 True True)/\rE x3.2.Mem/\(mE zM True True)/\rE v0.2.2/\True) (Sum.inl (wrap i64 (v1.1+1),x3.2))))) T2)) T2)) T2) (.lf (Sum.inr (v0.2.1,v0.2.2,v0.1,0)))) (.lf (Sum.inr (v0.2.1,v0.2.2,v0.1,0)))); .br (decide ((script.length:Int)>(0:Int))) (.cn (bS 4 4&&bT 0 4&&decide ((0:Int)<=(0:Int)/\0<(script.length:Int))) (.br (decide ((script.getD (dC 0) (RK.dflt RK.apiEntry)).At<m.A1)) T5 T1)) T1))))))
def Zmp m script until0:=(Ql7 m script until0).m
abbrev Qya m script until0:=(Ql7 m script until0).p
def Zi2:LInv:={
 α:=(Int)×Q00×(List Q03)
 F:=λst a=>([(1,(lk st 1)),(2,(lk st 2)),(3, .ptr 0 0 0),(6, .ptr 2 0 0),(10, .all 3),(11, .int i64 a.1)],[⟨true,43,49, .gen [mD a.2.1 (.all 1)]⟩,⟨false,25,1, .ints u32 a.2.1.Mem⟩,⟨true,43,49, .gen [mB (cT st 6)]⟩,⟨false,71,4, .recs RK.apiOutput a.2.2⟩])
 a0:=λst=>((lk st 11).toInt,(mR (cT st 3) (Q46 st.rows (Q0s (cT st 3 25) 1000000))),(Q4w RK.apiOutput st.rows (rN st 10)))
 ex0:=λst=>[]++[(rX st 3 0),(Q0s (cT st 3 25) (st.rows.length+1)),(rX st 6 2),(rX st 10 3)]}
def Zk1:LInv:={
 α:=(Int)×Q00
 F:=λst a=>([(1,(lk st 1)),(2,(lk st 2)),(3, .ptr 0 0 0),(6, .ptr 2 0 0),(10, .all 3),(11, .int i64 a.1),(61, .ptr 0 0 46),(62,(lk st 62)),(63,(lk st 63))],[⟨true,43,49, .gen [mD a.2 (.all 1)]⟩,⟨false,25,1, .ints u32 a.2.Mem⟩,⟨true,43,49, .gen [mB (cT st 6)]⟩,⟨false,71,4,esOf st.rows (rN st 10)⟩])
 a0:=λst=>((lk st 11).toInt,(mR (cT st 3) (Q46 st.rows (Q0s (cT st 3 25) 1000000))))
 ex0:=λst=>[]++[(rX st 3 0),(Q0s (cT st 3 25) (st.rows.length+1)),(rX st 6 2),(rX st 10 3)]}
def Zbk:List (Nat×LInv):=[(8,Zi2),(9,Zk1)]
def Zo4:Q0e:=mT 75 [] true [.agg Q00.sig, .one (.recs .apiEntry), .one (.int .u64)] [] (λa r=>Ql7 (Q00.of (aC a 0)) (argR .apiEntry a 1) (argI a 2)) (λX=> .tup [.agg (Q00.cellsW (X.1) (.all 0)), .all 1, .int .i64 (X.2.2.1), .int .i64 (X.2.2.2)]) (λX=>[⟨false,25,1, .ints .u32 (X.1).Mem⟩,⟨false,71,4, .recs .apiOutput (X.2.1)⟩])
theorem Zkq:Q06 pG Zo4:=oT (.cons Qmu (.cons Qpl (.cons Qmr (.cons Qvl (.cons Qp (.cons Qmt (.cons Qpq (.nil)))))))) Tryz.func75 Tryz.call75 [.row 25 1 (.ints .u32), .row 71 4 (.recs .apiOutput)] Zbk 3
def Q8i(kind:Int)(l acts:List Int)(how at0 less:Int):Tree Bool:=
.lv (Qvb l acts) λ(x0:Bool)=> .br (!x0) (.an Q2f (.lv Q5u λ(x1:Bool)=> .lf x1)) (.an (Qnj kind l) (.lv (Qkh kind l) λ(x2:Q00)=> .an (Quk x2 acts) (.lv (Z55 x2 acts) λ(x3:Q01×List Q03)=> .an (Qnc x3.1.B4 how at0) (.lv (Qzb x3.1.B4 how at0) λ(x4:List Q0c)=> .an (Qfi x2) (.lv (Qwi x2) λ(x5:Q02)=> .an (Qe4 x5 x4 x3.1.A0.A1) (.lv (Qso x5 x4 x3.1.A0.A1) λ(x6:Q02×Bool)=> .br (!x6.2) (.an Q2f (.lv Q5u λ(x7:Bool)=> .lf x7)) (.an (Q98 x6.1 1000) (.lv (Qkr x6.1 1000) λ(x8:Q02×List Q03)=> .an (Qya x2 x4 x3.1.A0.A1) (.lv (Zmp x2 x4 x3.1.A0.A1) λ(x9:Q00×List Q03×Int×Int)=> .br (decide (x8.1.A0.A1>x3.1.A0.A1)) (.lf false) (.br (x8.1.C6 !=x3.1.A0.A1) (.lf false) (let T1:Tree (Bool):= .br x8.1.A0.A9 (.an Q2f (.lv Q5u λ(x13:Bool)=> .lf x13)) (.lv (Qd5 x8.1) λ(x14:Int)=> .br (decide (x14>0)) (.an Q2f (.lv Q5u λ(x15:Bool)=> .lf x15)) (.lf false)); .br (x9.2.2.2==0) (.br (x9.1.A1==x3.1.A0.A1) (.an (Qu4 x8.1.A0 x9.1) (.lv (Zdp x8.1.A0 x9.1) λ(x10:Bool)=> .br x10 (.lv (Qd5 x8.1) λ(x11:Int)=> .br (x11==0) (.an Q2f (.lv Q5u λ(x12:Bool)=> .lf x12)) (.lf false)) (.lf false))) T1) T1)))))))))))
def Qf2 kind l acts how at0 less:=(Q8i kind l acts how at0 less).m
abbrev Qgg kind l acts how at0 less:=(Q8i kind l acts how at0 less).p
def Qsa:Q0e:=mT 10 [] true [.one (.int .i64), .one (.ints .i64), .one (.ints .i64), .one (.int .i64), .one (.int .i64), .one (.int .u64)] [] (λa r=>Q8i (argI a 0) (argL .i64 a 1) (argL .i64 a 2) (argI a 3) (argI a 4) (argI a 5)) (λX=> .bool X) (λX=>[])
theorem Qqw:Q06 pG Qsa:=oT (.cons Zj4 (.cons Z77 (.cons Z4h (.cons Ze8 (.cons Z2x (.cons Qre (.cons Qu5 (.cons Ql6 (.cons Zkq (.cons Zhk (.cons Qtl (.nil)))))))))))) Tryz.func10 Tryz.call10 [] [] 2

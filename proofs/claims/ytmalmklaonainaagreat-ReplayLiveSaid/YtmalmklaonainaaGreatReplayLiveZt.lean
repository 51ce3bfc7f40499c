import Derived.Test.YtmalmklaonainaaGreatReplayLiveZd
import Derived.Test.YtmalmklaonainaaGreatReplayLiveZx
open Nat renaming beq->bS, blt->bT, lt_succ_self->cK
open List renaming getD->aK, length->dH, append->cO, take->cY, drop->cZ
open Int renaming toNat->dC
set_option maxRecDepth 100000
set_option linter.all false
namespace Go.Proofs.YtmalmklaonainaaGreat
open Go Go.GD Go.IntKind
noncomputable section
instance sumInhZi {α β:Type} [Inhabited β]:Inhabited (α⊕β):=⟨.inr default⟩
def Qtd(src:List UInt8)(z:(Int)×(List Int)):Nat:=((Z6c src).2.1.length-z.1).toNat
def Qsz(src:List UInt8)(v0:Int×List Int)(z:(Int)×(List Int)):Nat:=(1024-z.1).toNat
def Q9r(src:List UInt8):Tree ((List Int)×Q1l):=
.an (Qnr src) (.lv (Z6c src) λ(x0:List Q2b×List Q0b×Q1l)=> .br (x0.2.2.Err !=0) (.lf ([],x0.2.2)) (.lp inferInstance (Qtd src (0,[])+1) ((True/\rZ/\True/\True/\True/\rE (0:Int)/\True)/\(rE (0:Int)/\rE (0:Int)/\True)/\rE x0.1/\rE x0.2.1/\rE ([]:List Int)/\True) (0,[]) λ(v0:Int×List Int)=> .br (decide (v0.1<(x0.2.1.length:Int))) (.cn (bS 6 6&&bT 0 6&&decide (0<=v0.1/\v0.1<(x0.2.1.length:Int))) (let E4:=x0.2.1.getD v0.1.toNat (RK.dflt RK.vmfleetref1Statement);let T1:Tree ((Int×List Int)⊕(((List Int)×Q1l))):= .lp inferInstance (Qsz src v0 (0,v0.2)+1) ((True/\rZ/\True/\True/\True/\rE v0.1/\rZ/\rE (0:Int)/\True)/\(rE (0:Int)/\rE (0:Int)/\True)/\rE x0.1/\rE x0.2.1/\(rE ((x0.2.1.getD v0.1.toNat (RK.dflt RK.vmfleetref1Statement)).what:List UInt8)/\rE ((x0.2.1.getD v0.1.toNat (RK.dflt RK.vmfleetref1Statement)).op:Int)/\((Els.Nil (D.toEs (aK (Els.get (Els.recs RK.vmfleetref1Statement x0.2.1) v0.1.toNat) ((0:Nat)+(1:Nat)+(1:Nat)) D.dead))\/rE (3:Nat))/\rE ((x0.2.1.getD v0.1.toNat (RK.dflt RK.vmfleetref1Statement)).l:List (RK.T RK.vmfleetref1Arg)))/\rE ((x0.2.1.getD v0.1.toNat (RK.dflt RK.vmfleetref1Statement)).D7:Int)/\rE ((x0.2.1.getD v0.1.toNat (RK.dflt RK.vmfleetref1Statement)).at_:Int)/\rE ((x0.2.1.getD v0.1.toNat (RK.dflt RK.vmfleetref1Statement)).size:Int)/\True)/\rE v0.2/\True) (0,v0.2) λ(v1:Int×List Int)=> .br (decide (v1.1<E4.size)) (.cn (decide (4*(v1.2.length+1)<=140737488355328)) (.nx ((True/\rZ/\True/\True/\True/\rE v0.1/\rZ/\rE ((wrap i64 (v1.1+1)):Int)/\True)/\(rE (0:Int)/\rE (0:Int)/\True)/\rE x0.1/\rE x0.2.1/\(rE ((x0.2.1.getD v0.1.toNat (RK.dflt RK.vmfleetref1Statement)).what:List UInt8)/\rE ((x0.2.1.getD v0.1.toNat (RK.dflt RK.vmfleetref1Statement)).op:Int)/\((Els.Nil (Els.recs RK.vmfleetref1Arg (x0.2.1.getD v0.1.toNat (RK.dflt RK.vmfleetref1Statement)).l)\/rE (3:Nat))/\rE ((x0.2.1.getD v0.1.toNat (RK.dflt RK.vmfleetref1Statement)).l:List (RK.T RK.vmfleetref1Arg)))/\rE ((x0.2.1.getD v0.1.toNat (RK.dflt RK.vmfleetref1Statement)).D7:Int)/\rE ((x0.2.1.getD v0.1.toNat (RK.dflt RK.vmfleetref1Statement)).at_:Int)/\rE ((x0.2.1.getD v0.1.toNat (RK.dflt RK.vmfleetref1Statement)).size:Int)/\True)/\rE ((v1.2++[0]):List Int)/\True) (Sum.inl (wrap i64 (v1.1+1),v1.2++[0])))) (.nx ((True/\rZ/\True/\True/\True/\rE ((wrap i64 (v0.1+1)):Int)/\True)/\(rE (0:Int)/\rE (0:Int)/\True)/\rE x0.1/\rE x0.2.1/\rE v1.2/\True) (Sum.inr (Sum.inl (wrap i64 (v0.1+1),v1.2))));let E5:=bS 3 3&&bT 0 3&&decide ((0:Int)<=(0:Int)/\0<(↑(dH E4.l):Int));let E7:=aK E4.l (dC 0) (RK.dflt RK.vmfleetref1Arg);let E8:=decide (4*(v0.2.length+1)<=140737488355328);let T2:Tree ((Int×List Int)⊕(((List Int)×Q1l))):= .cn E5 (.cn (bS 3 3&&bT 0 3&&decide ((0:Int)<=(1:Int)/\1<(↑(dH E4.l):Int))) (.lv (Q1p {Op:=16,A:=E7.reg,B:=(aK E4.l (dC 1) (RK.dflt RK.vmfleetref1Arg)).reg,C:=0,Imm:=0}) λ(x4:Int×Bool)=> .cn E8 (.nx ((True/\rZ/\True/\True/\True/\rE ((wrap i64 (v0.1+1)):Int)/\True)/\(rE (0:Int)/\rE (0:Int)/\True)/\rE x0.1/\rE x0.2.1/\rE ((v0.2++[x4.1]):List Int)/\True) (Sum.inl (wrap i64 (v0.1+1),v0.2++[x4.1])))));let T3:Tree ((Int×List Int)⊕(((List Int)×Q1l))):= .lv (Q1p {Op:=16,A:=0,B:=0,C:=0,Imm:=0}) λ(x5:Int×Bool)=> .cn E8 (.nx ((True/\rZ/\True/\True/\True/\rE ((wrap i64 (v0.1+1)):Int)/\True)/\(rE (0:Int)/\rE (0:Int)/\True)/\rE x0.1/\rE x0.2.1/\rE ((v0.2++[x5.1]):List Int)/\True) (Sum.inl (wrap i64 (v0.1+1),v0.2++[x5.1])));let E9:=decide (E4.what=[(46:UInt8),115,112,97,99,101]);let E10:=decide (E4.what=[(46:UInt8),119,111,114,100]);let E12:=decide (E4.what=[(110:UInt8),111,112]);let E13:=decide (4*(v0.2.length+2)<=140737488355328);let E14:=decide (E4.what=[(108:UInt8),105]);let E15:=decide (E4.what=[(109:UInt8),118]); .br (decide ((↑(dH E4.l):Int)>(0:Int))) (.cn (bS 3 3&&bT 0 3&&decide (0<=wrap i64 ((↑(dH E4.l):Int)-(1:Int))/\wrap i64 ((↑(dH E4.l):Int)-(1:Int))<(↑(dH E4.l):Int))) (let E6:=aK E4.l (dC (wrap i64 ((↑(dH E4.l):Int)-(1:Int)))) (RK.dflt RK.vmfleetref1Arg); .br (!decide (E6.label=[])) (.an (Q3s x0.1 E6.label) (.lv (Qpq x0.1 E6.label) λ(x1:Int×Bool)=> .br (!x1.2) (.lf (Sum.inr ([],{Err:=302,Line:=E4.D7}))) (.br (decide (E4.op>0)) (let E11:=wrap i64 (wrap i64 (Int.tdiv (wrap i64 x1.1) 4)-E4.at_); .br E10 (.cn E8 (.nx ((True/\rZ/\True/\True/\True/\rE ((wrap i64 (v0.1+1)):Int)/\True)/\(rE (0:Int)/\rE (0:Int)/\True)/\rE x0.1/\rE x0.2.1/\rE ((v0.2++[wrap u32 (wrap i64 (wrap i64 (Int.tdiv (wrap i64 x1.1) 4)-(x0.2.1.getD v0.1.toNat (RK.dflt RK.vmfleetref1Statement)).at_))]):List Int)/\True) (Sum.inl (wrap i64 (v0.1+1),v0.2++[wrap u32 E11])))) (.br E9 T1 (.br E14 (.cn E5 (.lv (Q1p {Op:=24,A:=E7.reg,B:=0,C:=0,Imm:=wrap i32 (ishr u32 (wrap u32 E11) 16)}) λ(x2:Int×Bool)=> .cn E5 (.cn E5 (.lv (Q1p {Op:=18,A:=E7.reg,B:=E7.reg,C:=0,Imm:=wrap i32 (iand u32 (wrap u32 E11) 65535)}) λ(x3:Int×Bool)=> .cn E13 (.nx ((True/\rZ/\True/\True/\True/\rE ((wrap i64 (v0.1+1)):Int)/\True)/\(rE (0:Int)/\rE (0:Int)/\True)/\rE x0.1/\rE x0.2.1/\rE ((v0.2++[x2.1,x3.1]):List Int)/\True) (Sum.inl (wrap i64 (v0.1+1),v0.2++[x2.1,x3.1]))))))) (.br E15 T2 (.br E12 T3 (.an (Qbf E4 E11) (.lv (Qqg E4 E11) λ(x6:Int×Bool)=> .br (!x6.2) (.lf (Sum.inr ([],{Err:=304,Line:=E4.D7}))) (.cn E8 (.nx ((True/\rZ/\True/\True/\True/\rE ((wrap i64 (v0.1+1)):Int)/\True)/\(rE (0:Int)/\rE (0:Int)/\True)/\rE x0.1/\rE x0.2.1/\rE ((v0.2++[x6.1]):List Int)/\True) (Sum.inl (wrap i64 (v0.1+1),v0.2++[x6.1]))))))))))) (.br E10 (.cn E8 (.nx ((True/\rZ/\True/\True/\True/\rE ((wrap i64 (v0.1+1)):Int)/\True)/\(rE (0:Int)/\rE (0:Int)/\True)/\rE x0.1/\rE x0.2.1/\rE ((v0.2++[wrap u32 (wrap i64 x1.1)]):List Int)/\True) (Sum.inl (wrap i64 (v0.1+1),v0.2++[wrap u32 (wrap i64 x1.1)])))) (.br E9 T1 (.br E14 (.cn E5 (.lv (Q1p {Op:=24,A:=E7.reg,B:=0,C:=0,Imm:=wrap i32 (ishr u32 (wrap u32 (wrap i64 x1.1)) 16)}) λ(x7:Int×Bool)=> .cn E5 (.cn E5 (.lv (Q1p {Op:=18,A:=E7.reg,B:=E7.reg,C:=0,Imm:=wrap i32 (iand u32 (wrap u32 (wrap i64 x1.1)) 65535)}) λ(x8:Int×Bool)=> .cn E13 (.nx ((True/\rZ/\True/\True/\True/\rE ((wrap i64 (v0.1+1)):Int)/\True)/\(rE (0:Int)/\rE (0:Int)/\True)/\rE x0.1/\rE x0.2.1/\rE ((v0.2++[x7.1,x8.1]):List Int)/\True) (Sum.inl (wrap i64 (v0.1+1),v0.2++[x7.1,x8.1]))))))) (.br E15 T2 (.br E12 T3 (.an (Qbf E4 (wrap i64 x1.1)) (.lv (Qqg E4 (wrap i64 x1.1)) λ(x11:Int×Bool)=> .br (!x11.2) (.lf (Sum.inr ([],{Err:=304,Line:=E4.D7}))) (.cn E8 (.nx ((True/\rZ/\True/\True/\True/\rE ((wrap i64 (v0.1+1)):Int)/\True)/\(rE (0:Int)/\rE (0:Int)/\True)/\rE x0.1/\rE x0.2.1/\rE ((v0.2++[x11.1]):List Int)/\True) (Sum.inl (wrap i64 (v0.1+1),v0.2++[x11.1])))))))))))))) (.br E10 (.cn E8 (.nx ((True/\rZ/\True/\True/\True/\rE ((wrap i64 (v0.1+1)):Int)/\True)/\(rE (0:Int)/\rE (0:Int)/\True)/\rE x0.1/\rE x0.2.1/\rE ((v0.2++[wrap u32 (aK (x0.2.1.getD v0.1.toNat (RK.dflt RK.vmfleetref1Statement)).l (dC (wrap i64 ((↑(dH (x0.2.1.getD v0.1.toNat (RK.dflt RK.vmfleetref1Statement)).l):Int)-(1:Int)))) (RK.dflt RK.vmfleetref1Arg)).num]):List Int)/\True) (Sum.inl (wrap i64 (v0.1+1),v0.2++[wrap u32 E6.num])))) (.br E9 T1 (.br E14 (.cn E5 (.lv (Q1p {Op:=24,A:=E7.reg,B:=0,C:=0,Imm:=wrap i32 (ishr u32 (wrap u32 E6.num) 16)}) λ(x12:Int×Bool)=> .cn E5 (.cn E5 (.lv (Q1p {Op:=18,A:=E7.reg,B:=E7.reg,C:=0,Imm:=wrap i32 (iand u32 (wrap u32 E6.num) 65535)}) λ(x13:Int×Bool)=> .cn E13 (.nx ((True/\rZ/\True/\True/\True/\rE ((wrap i64 (v0.1+1)):Int)/\True)/\(rE (0:Int)/\rE (0:Int)/\True)/\rE x0.1/\rE x0.2.1/\rE ((v0.2++[x12.1,x13.1]):List Int)/\True) (Sum.inl (wrap i64 (v0.1+1),v0.2++[x12.1,x13.1]))))))) (.br E15 T2 (.br E12 T3 (.an (Qbf E4 E6.num) (.lv (Qqg E4 E6.num) λ(x16:Int×Bool)=> .br (!x16.2) (.lf (Sum.inr ([],{Err:=304,Line:=E4.D7}))) (.cn E8 (.nx ((True/\rZ/\True/\True/\True/\rE ((wrap i64 (v0.1+1)):Int)/\True)/\(rE (0:Int)/\rE (0:Int)/\True)/\rE x0.1/\rE x0.2.1/\rE ((v0.2++[x16.1]):List Int)/\True) (Sum.inl (wrap i64 (v0.1+1),v0.2++[x16.1]))))))))))))) (.br E10 (.cn E8 (.nx ((True/\rZ/\True/\True/\True/\rE ((wrap i64 (v0.1+1)):Int)/\True)/\(rE (0:Int)/\rE (0:Int)/\True)/\rE x0.1/\rE x0.2.1/\rE ((v0.2++[wrap u32 0]):List Int)/\True) (Sum.inl (wrap i64 (v0.1+1),v0.2++[wrap u32 0])))) (.br E9 T1 (.br E14 (.cn E5 (.lv (Q1p {Op:=24,A:=E7.reg,B:=0,C:=0,Imm:=wrap i32 (ishr u32 (wrap u32 0) 16)}) λ(x17:Int×Bool)=> .cn E5 (.cn E5 (.lv (Q1p {Op:=18,A:=E7.reg,B:=E7.reg,C:=0,Imm:=wrap i32 (iand u32 (wrap u32 0) 65535)}) λ(x18:Int×Bool)=> .cn E13 (.nx ((True/\rZ/\True/\True/\True/\rE ((wrap i64 (v0.1+1)):Int)/\True)/\(rE (0:Int)/\rE (0:Int)/\True)/\rE x0.1/\rE x0.2.1/\rE ((v0.2++[x17.1,x18.1]):List Int)/\True) (Sum.inl (wrap i64 (v0.1+1),v0.2++[x17.1,x18.1]))))))) (.br E15 T2 (.br E12 T3 (.an (Qbf E4 0) (.lv (Qqg E4 0) λ(x21:Int×Bool)=> .br (!x21.2) (.lf (Sum.inr ([],{Err:=304,Line:=E4.D7}))) (.cn E8 (.nx ((True/\rZ/\True/\True/\True/\rE ((wrap i64 (v0.1+1)):Int)/\True)/\(rE (0:Int)/\rE (0:Int)/\True)/\rE x0.1/\rE x0.2.1/\rE ((v0.2++[x21.1]):List Int)/\True) (Sum.inl (wrap i64 (v0.1+1),v0.2++[x21.1]))))))))))))) (.lf (Sum.inr (v0.2,{Err:=0,Line:=0})))))
def Q1j src:=(Q9r src).m
abbrev Qao src:=(Q9r src).p
def Z0u:LInv:={
 α:=(Int)×(List Int)
 F:=λst a=>([(2,(lk st 2)),(3, .ptr 0 0 0),(4, .all 1),(5, .all 2),(7, .all 3),(8, .int i64 a.1)],[⟨true,59,2, .gen [[(cT st 3 0),(cT st 3 1)]]⟩,⟨false,257,2,esOf st.rows (rN st 4)⟩,⟨false,181,6,esOf st.rows (rN st 5)⟩,⟨false,25,1, .ints u32 a.2⟩])
 a0:=λst=>((lk st 8).toInt,(Q5t st.rows (rN st 7)))
 ex0:=λst=>[]++[(rX st 3 0),(rX st 4 1),(rX st 5 2),(rX st 7 3)]}
def Z22:LInv:={
 α:=(Int)×(List Int)
 F:=λst a=>([(2,(lk st 2)),(3, .ptr 0 0 0),(4, .all 1),(5, .all 2),(7, .all 4),(8,(lk st 8)),(9, .ptr 3 0 0),(14, .int i64 a.1)],[⟨true,59,2, .gen [[(cT st 3 0),(cT st 3 1)]]⟩,⟨false,257,2,esOf st.rows (rN st 4)⟩,⟨false,181,6,esOf st.rows (rN st 5)⟩,⟨true,181,6, .gen [[(cT st 9 0),(cT st 9 1),(cT st 9 2),(cT st 9 3),(cT st 9 4),(cT st 9 5)]]⟩,⟨false,25,1, .ints u32 a.2⟩])
 a0:=λst=>((lk st 14).toInt,(Q5t st.rows (rN st 7)))
 ex0:=λst=>[]++[(rX st 3 0),(rX st 4 1),(rX st 5 2),(rX st 9 3),(rX st 7 4)]}
def Qwc:List (Nat×LInv):=[(6,Z0u),(29,Z22)]
def Z4s:Q0d:=mT 36 [] true [.one (.str)] [] (λa r=>Q9r (argS a 0)) (λX=> .tup [.all 0, .agg (Q1l.cells (X.2))]) (λX=>[⟨false,25,1, .ints .u32 (X.1)⟩])
theorem Z0x:Q06 pG Z4s:=oT (.cons Zf2 (.cons Qp8 (.cons Qlo (.cons Zig (.nil))))) Tryz.func36 Tryz.call36 [.row 25 1 (.ints .u32)] Qwc 3
end
noncomputable section
instance sumInhZh {α β:Type} [Inhabited β]:Inhabited (α⊕β):=⟨.inr default⟩
def Q44(m:Q00):Tree Q01:=
.an (Qh3 m) (.lv (Qnn m) λ(x0:Q00)=> .lf ({A0:=x0,A3:=0,B3:=[],A2:=[]}))
def Q47 m:=(Q44 m).m
abbrev Qgw m:=(Q44 m).p
def Qth:Q0d:=mT 148 [] true [.agg Q00.sig] [] (λa r=>Q44 (Q00.of (aC a 0))) (λX=> .agg (Q01.cellsW X (.all 0) (.all 1) (.all 2))) (λX=>[⟨false,25,1, .ints .u32 X.A0.Mem⟩,⟨false,126,4, .recs .apiEntry X.B3⟩,⟨false,66,3, .recs .apiEvent X.A2⟩])
theorem Qrz:Q06 pG Qth:=oT (.cons Qtz (.nil)) Tryz.func148 Tryz.call148 [.row 25 1 (.ints .u32), .row 126 4 (.recs .apiEntry), .row 66 3 (.recs .apiEvent)] [] 2
def Q8h(r:Q01)(n:Int):Tree (Q01×(List Q03)):=
.lv (Q3n n 3) λ(x0:Int)=> .br (Int.tmod x0 (3:Int)==(0:Int)) (.an (Qlm n) (.lv (Q46 n) λ(x1:Q07)=> .an (Qoe r x1) (.lv (Q2c r x1) λ(x2:Q01×Bool)=> .lf (x2.1,[])))) (.an (Q4b (ishr i64 x0 4) 12) (.lv (Q4y (ishr i64 x0 4) 12) λ(x3:Int)=>let E1:=wrap u32 (iand i64 (ishr i64 x0 12) 255); .an (Qmh r x3 E1) (.lv (Qe4 r x3 E1) λ(x4:Q01×List Q03)=> .lf (x4.1,x4.2))))
def Q3x r n:=(Q8h r n).m
abbrev Qv r n:=(Q8h r n).p
def Zm0:Q0d:=mT 55 [] true [.agg Q01.sig, .one (.int .i64)] [] (λa r=>Q8h (Q01.of (aC a 0)) (argI a 1)) (λX=> .tup [.agg (Q01.cellsW (X.1) (.all 0) (.all 1) (.all 2)), .all 3]) (λX=>[⟨false,25,1, .ints .u32 (X.1).A0.Mem⟩,⟨false,126,4, .recs .apiEntry (X.1).B3⟩,⟨false,66,3, .recs .apiEvent (X.1).A2⟩,⟨false,71,4, .recs .apiOutput (X.2)⟩])
theorem Zic:Q06 pG Zm0:=oT (.cons Qnm (.cons Z4m (.cons Qwd (.cons Z1y (.cons Qo2 (.nil)))))) Tryz.func55 Tryz.call55 [.row 25 1 (.ints .u32), .row 126 4 (.recs .apiEntry), .row 66 3 (.recs .apiEvent), .row 71 4 (.recs .apiOutput)] [] 2
def Qk7(m:Q00)(l:List Int)(z:(Int)×Q01×(List Q03)):Nat:=(l.length-z.1).toNat
def Qd8(m:Q00)(l:List Int):Tree (Q01×(List Q03)):=
.an (Qgw m) (.lv (Q47 m) λ(x0:Q01)=> .lp inferInstance (Qk7 m l (0,x0,[])+1) ((((Els.Nil (Els.ints i64 l)\/rE (1:Nat))/\rE (l:List Int))/\rZ/\rZ/\True/\rE (0:Int)/\True)/\(mE zM True (rE (0:Int)/\True/\True/\True))/\(mE x0.A0 True (rE x0.A3/\True/\True/\True))/\rE x0.A0.Mem/\rE x0.B3/\rE x0.A2/\rE ([]:List (RK.T RK.apiOutput))/\True) (0,x0,[]) λ(v0:Int×Q01×List Q03)=> .br (decide (v0.1<(l.length:Int))) (.cn (bS 1 1&&bT 0 1&&decide (0<=v0.1/\v0.1<(l.length:Int))) (.an (Qv v0.2.1 (l.getD v0.1.toNat 0)) (.lv (Q3x v0.2.1 (l.getD v0.1.toNat 0)) λ(x1:Q01×List Q03)=> .cn (decide (40*(v0.2.2.length+x1.2.length)<=140737488355328)) (.nx ((((Els.Nil (Els.ints i64 l)\/rE (1:Nat))/\rE (l:List Int))/\rZ/\rZ/\True/\rE ((wrap i64 (v0.1+1)):Int)/\True)/\(mE zM True (rE (0:Int)/\True/\True/\True))/\(mE x1.1.A0 True (rE x1.1.A3/\True/\True/\True))/\rE x1.1.A0.Mem/\rE x1.1.B3/\rE x1.1.A2/\rE ((v0.2.2++x1.2):List (RK.T RK.apiOutput))/\True) (Sum.inl (wrap i64 (v0.1+1),x1.1,v0.2.2++x1.2)))))) (.lf (Sum.inr (v0.2.1,v0.2.2))))
def Z69 m l:=(Qd8 m l).m
abbrev Qw7 m l:=(Qd8 m l).p
def Zi6:LInv:={
 α:=(Int)×Q01×(List Q03)
 F:=λst a=>([(1,(lk st 1)),(4, .ptr 0 0 0),(6, .ptr 1 0 0),(7, .all 5),(8, .int i64 a.1)],[⟨true,96,52, .gen [[(cT st 4 0),(cT st 4 1),(cT st 4 2),(cT st 4 3),(cT st 4 4),(cT st 4 5),(cT st 4 6),(cT st 4 7),(cT st 4 8),(cT st 4 9),(cT st 4 10),(cT st 4 11),(cT st 4 12),(cT st 4 13),(cT st 4 14),(cT st 4 15),(cT st 4 16),(cT st 4 17),(cT st 4 18),(cT st 4 19),(cT st 4 20),(cT st 4 21),(cT st 4 22),(cT st 4 23),(cT st 4 24),(cT st 4 25),(cT st 4 26),(cT st 4 27),(cT st 4 28),(cT st 4 29),(cT st 4 30),(cT st 4 31),(cT st 4 32),(cT st 4 33),(cT st 4 34),(cT st 4 35),(cT st 4 36),(cT st 4 37),(cT st 4 38),(cT st 4 39),(cT st 4 40),(cT st 4 41),(cT st 4 42),(cT st 4 43),(cT st 4 44),(cT st 4 45),(cT st 4 46),(cT st 4 47),(cT st 4 48),(cT st 4 49),(cT st 4 50),(cT st 4 51)]]⟩,⟨true,96,52, .gen [[.int u32 a.2.1.A0.B2.X.a0, .int u32 a.2.1.A0.B2.X.a1, .int u32 a.2.1.A0.B2.X.a2, .int u32 a.2.1.A0.B2.X.a3, .int u32 a.2.1.A0.B2.X.a4, .int u32 a.2.1.A0.B2.X.a5, .int u32 a.2.1.A0.B2.X.a6, .int u32 a.2.1.A0.B2.X.a7, .int u32 a.2.1.A0.B2.X.a8, .int u32 a.2.1.A0.B2.X.a9, .int u32 a.2.1.A0.B2.X.a10, .int u32 a.2.1.A0.B2.X.a11, .int u32 a.2.1.A0.B2.X.a12, .int u32 a.2.1.A0.B2.X.a13, .int u32 a.2.1.A0.B2.X.a14, .int u32 a.2.1.A0.B2.X.a15, .int u32 a.2.1.A0.B2.Pc, .int u32 a.2.1.A0.B2.B6.a0, .int u32 a.2.1.A0.B2.B6.a1, .int u32 a.2.1.A0.B2.B6.a2, .int u32 a.2.1.A0.B2.B6.a3, .int u32 a.2.1.A0.B2.B6.a4, .int u32 a.2.1.A0.B2.B6.a5, .int u32 a.2.1.A0.B2.B6.a6, .int u32 a.2.1.A0.B2.B6.a7, .all 2, .str a.2.1.A0.A6.D3, .bool a.2.1.A0.B0.D2, .int u32 a.2.1.A0.B0.C9, .bool a.2.1.A0.B0.D5, .int u32 a.2.1.A0.B1.Blocks, .int u32 a.2.1.A0.B1.C2, .int u32 a.2.1.A0.B1.Frame, .int i64 a.2.1.A0.B1.C1, .int i64 a.2.1.A0.B1.D8, .int u32 a.2.1.A0.B1.B7, .int u32 a.2.1.A0.B1.B4, .str a.2.1.A0.B1.C4, .int u32 a.2.1.A0.C5.Frame, .int u32 a.2.1.A0.C5.E0, .bool a.2.1.A0.C5.C6, .int u32 a.2.1.A0.C5.B9, .bool a.2.1.A0.C5.B8, .int u32 a.2.1.A0.C5.F1, .int u32 a.2.1.A0.A4.D0, .int u32 a.2.1.A0.A4.C3, .int u64 a.2.1.A0.A1, .bool a.2.1.A0.A7, .bool a.2.1.A0.A9, .int u32 a.2.1.A3, .all 3, .all 4]]⟩,⟨false,25,1, .ints u32 a.2.1.A0.Mem⟩,⟨false,126,4, .recs RK.apiEntry a.2.1.B3⟩,⟨false,66,3, .recs RK.apiEvent a.2.1.A2⟩,⟨false,71,4, .recs RK.apiOutput a.2.2⟩])
 a0:=λst=>((lk st 8).toInt,(⟨(mR (cT st 6) (Q5t st.rows (Q0t (cT st 6 25) 1000000))),(cT st 6 49).toInt,(Q3d RK.apiEntry st.rows (Q0t (cT st 6 50) 1000000)),(Q3d RK.apiEvent st.rows (Q0t (cT st 6 51) 1000000))⟩:Q01),(Q3d RK.apiOutput st.rows (rN st 7)))
 ex0:=λst=>[]++[(rX st 4 0),(rX st 6 1),(Q0t (cT st 6 25) (st.rows.length+2)),(Q0t (cT st 6 50) (st.rows.length+3)),(Q0t (cT st 6 51) (st.rows.length+4)),(rX st 7 5)]}
def Z75:List (Nat×LInv):=[(4,Zi6)]
def Zmg:Q0d:=mT 57 [] true [.agg Q00.sig, .one (.ints .i64)] [] (λa r=>Qd8 (Q00.of (aC a 0)) (argL .i64 a 1)) (λX=> .tup [.agg (Q01.cellsW (X.1) (.all 0) (.all 1) (.all 2)), .all 3]) (λX=>[⟨false,25,1, .ints .u32 (X.1).A0.Mem⟩,⟨false,126,4, .recs .apiEntry (X.1).B3⟩,⟨false,66,3, .recs .apiEvent (X.1).A2⟩,⟨false,71,4, .recs .apiOutput (X.2)⟩])
theorem Zg8:Q06 pG Zmg:=oT (.cons Qrz (.cons Zic (.nil))) Tryz.func57 Tryz.call57 [.row 25 1 (.ints .u32), .row 126 4 (.recs .apiEntry), .row 66 3 (.recs .apiEvent), .row 71 4 (.recs .apiOutput)] Z75 3
end
noncomputable section
def tblZe0:List UInt8:=[(105:UInt8),32,114,49,44,32,104,97,110,100,108,101,114,10,99,115,114,119,32,114,49,44,32,49,10,108,105,32,114,49,44,32,51,49,10,99,115,114,119,32,114]
def Z99:List UInt8:=[(49:UInt8),44,32,55,10,108,105,32,114,49,44,32,52,10,99,115,114,119,32,114,49,44,32,54,10,108,105,32,114,50,44,32,53,49,50,10,108,105,32,114,51,44]
def Z9:List UInt8:=[(32:UInt8),48,10,108,105,32,114,52,44,32,56,10,109,97,112,58,32,115,104,108,105,32,114,53,44,32,114,51,44,32,56,10,111,114,105,32,114,53,44,32,114,53]
def Z97:List UInt8:=[(44:UInt8),32,55,10,115,104,108,105,32,114,54,44,32,114,51,44,32,50,10,97,100,100,32,114,54,44,32,114,54,44,32,114,50,10,115,119,32,114,53,44,32,48,40]
def Za7:List UInt8:=[(114:UInt8),54,41,10,97,100,100,105,32,114,51,44,32,114,51,44,32,49,10,98,108,116,32,114,51,44,32,114,52,44,32,109,97,112,10,108,105,32,114,49,44,32]
def Za3:List UInt8:=[(54:UInt8),10,111,117,116,32,114,49,44,32,55,10,108,105,32,114,49,44,32,50,10,111,117,116,32,114,49,44,32,57,10,108,105,32,114,49,44,32,49,48,48,10,111]
def Zaj:List UInt8:=[(117:UInt8),116,32,114,49,44,32,51,10,108,105,32,114,49,44,32,54,52,48,10,99,115,114,119,32,114,49,44,32,50,10,108,105,32,114,49,44,32,50,49,10,99]
def Zaa:List UInt8:=[(115:UInt8),114,119,32,114,49,44,32,48,10,101,114,101,116,10,104,97,110,100,108,101,114,58,32,99,115,114,119,32,114,49,44,32,53,10,99,115,114,114,32,114,49,44]
def Z9r:List UInt8:=[(32:UInt8),51,10,115,108,116,105,32,114,49,44,32,114,49,44,32,49,54,10,98,101,113,32,114,49,44,32,114,48,44,32,105,114,113,10,99,115,114,114,32,114,49]
def Zas:List UInt8:=[(44:UInt8),32,50,10,97,100,100,105,32,114,49,44,32,114,49,44,32,52,10,99,115,114,119,32,114,49,44,32,50,10,105,110,32,114,51,44,32,50,10,111,117,116]
def Qys:List UInt8:=[(32:UInt8),114,51,44,32,48,10,108,105,32,114,49,44,32,49,10,111,117,116,32,114,49,44,32,52,10,108,105,32,114,49,44,32,55,10,111,117,116,32,114,49,44]
def Qy0:List UInt8:=[(32:UInt8),53,10,97,110,100,105,32,114,49,44,32,114,50,44,32,49,10,97,100,100,105,32,114,49,44,32,114,49,44,32,49,10,111,117,116,32,114,49,44,32,54,10]
def Qxo:List UInt8:=[(99:UInt8),115,114,114,32,114,49,44,32,53,10,101,114,101,116,10,105,114,113,58,32,105,110,32,114,49,44,32,48,10,111,117,116,32,114,49,44,32,48,10,111,117]
def Qz6:List UInt8:=[(116:UInt8),32,114,48,44,32,54,10,111,117,116,32,114,48,44,32,57,10,108,105,32,114,49,44,32,54,10,111,117,116,32,114,49,44,32,55,10,108,105,32,114,49,44]
def Qxw:List UInt8:=[(32:UInt8),50,10,111,117,116,32,114,49,44,32,57,10,105,110,32,114,49,44,32,50,10,97,100,100,105,32,114,49,44,32,114,49,44,32,50,48,10,111,117,116,32]
def Qxy:List UInt8:=[(114:UInt8),49,44,32,51,10,105,110,32,114,49,44,32,49,48,10,111,117,116,32,114,49,44,32,49,48,10,99,115,114,114,32,114,49,44,32,53,10,101,114,101,116,10]
def Zcj:List UInt8:=[(108:UInt8),105,32,114,49,44,32,104,97,110,100,108,101,114,10,99,115,114,119,32,114,49,44,32,49,10,108,105,32,114,49,44,32,51,49,10,99,115,114,119,32,114]
instance sumInhZe {α β:Type} [Inhabited β]:Inhabited (α⊕β):=⟨.inr default⟩
def Qme(l:List Q0f)(z:(Int)):Prop:=1<=z/\(z<=l.length\/z=1)
def Qew(l:List Q0f)(z:(Int)):Nat:=(l.length-z).toNat
def Qga(l:List Q0f):Tree Bool:=
.lp inferInstance (Qew l 1+1) ((nR RK.apiEntry 4 l/\rE (1:Int)/\True)/\True) 1 λ(v0:Int)=> .br (decide (v0<(l.length:Int))) (let E4:=bS 4 4&&bT 0 4&&decide (0<=v0/\v0<(l.length:Int)); .cn E4 (let E2:=bS 4 4&&bT 0 4&&decide (0<=wrap i64 (v0-1)/\wrap i64 (v0-1)<(l.length:Int)); .cn E2 (let E3:=l.getD (dC (wrap i64 (v0-1))) (RK.dflt RK.apiEntry);let E5:=l.getD v0.toNat (RK.dflt RK.apiEntry); .br (decide (E5.At<E3.At)) (.lf (Sum.inr false)) (.cn E4 (.cn E2 (let T1:Tree ((Int)⊕(Bool)):= .nx ((nR RK.apiEntry 4 l/\rE ((wrap i64 (v0+1)):Int)/\True)/\True) (Sum.inl (wrap i64 (v0+1))); .br (E5.At==E3.At) (.cn E2 (.br (E3.C0.B5==1) (.lf (Sum.inr false)) T1)) T1)))))) (.lf (Sum.inr true))
def Qzf l:=(Qga l).m
def Q8y(l:List Q0f):Prop:=
l.length<=1000000000000
theorem Z1d(l:List Q0f)(hw:Q8y l):(Qga l).p:=by
 simp only[Q8y]at hw
 unfold Tree.p Qga
 repeat'(first|refine w_lp (inv:=Qme l) (μ:=Qew l) ?_ (cK _) (λ_ _=> ?_)|exact trivial|refine w_br (λ_=> ?_) (λ_=> ?_)|refine w_cn ?_ ?_|refine w_an ?_ ?_|refine w_lv (λ_ _=> ?_)|refine w_nx ?_|refine w_lf ?_|refine And.intro ?_ ?_)
 all_goals((try simp only[Qme,Qew]at*);exact fin0)
def Z4z:LInv:={
 α:=(Int)
 F:=λst a=>([(0,(lk st 0)),(3, .int i64 a)],[])
 a0:=λst=>(lk st 3).toInt
 ex0:=λst=>[]++[]}
def Qyp:List (Nat×LInv):=[(2,Z4z)]
def Z8h:Q0d:=mkP 155 [] true [.one (.recs .apiEntry)] [] (λa r=>Q8y (argR .apiEntry a 0)) (λa r=>Qzf (argR .apiEntry a 0)) (λX=> .bool X) (λX=>[])
theorem Z3o:Q06 pG Z8h:=Q0p drawn Q0l (.nil) Tryz.func155 Tryz.call155 (λa r=>Qga (argR .apiEntry a 0)) [] Qyp 3 (hp:=λa r h=>Z1d (argR .apiEntry a 0) h)
def Qhq(m:Q00)(script:List Q0f)(until0:Int)(z:Q00×(List Q03)):Nat:=(until0-z.1.A1).toNat
def Qhn(m:Q00)(script:List Q0f)(until0:Int)(v0:Q00×List Q03)(z:Unit):Nat:=0
def Qaj(m:Q00)(script:List Q0f)(until0:Int):Tree (Q00×(List Q03)×Int×Int):=
.lv (Q5e m) λ(x0:Bool)=>let E2:=({B2:={X:={a0:=0,a1:=0,a2:=0,a3:=0,a4:=0,a5:=0,a6:=0,a7:=0,a8:=0,a9:=0,a10:=0,a11:=0,a12:=0,a13:=0,a14:=0,a15:=0},Pc:=0,B6:={a0:=0,a1:=0,a2:=0,a3:=0,a4:=0,a5:=0,a6:=0,a7:=0}},Mem:=[],A6:={D3:=[]},B0:={D2:=false,C9:=0,D5:=false},B1:={Blocks:=0,C2:=0,Frame:=0,C1:=0,D8:=0,B7:=0,B4:=0,C4:=[]},C5:={Frame:=0,E0:=0,C6:=false,B9:=0,B8:=false,F1:=0},A4:={D0:=0,C3:=0},A1:=0,A7:=false,A9:=false}:Q00);let T1:Tree ((Q00×(List Q03)×Int×Int)):= .lf (E2,[],0,1300); .br (!x0) T1 (.br (decide (until0<m.A1)) T1 (.br (decide (wrap u64 (until0-m.A1)>4000)) T1 (.an (Q8y []) (.lv (Qzf []) λ(x1:Bool)=> .br (!x1) (.lf (E2,[],0,1301)) (.an (Qh3 m) (.lv (Qnn m) λ(x2:Q00)=> .lp inferInstance (Qhq m script until0 (x2,[])+1) ((((Els.Nil (Els.gen [])\/rE (0:Nat))/\rE ([]:List (List D)))/\rE (until0:Int)/\rZ/\rZ/\True/\rE (0:Int)/\True)/\(mE x2 True True)/\rE x2.Mem/\(mE zM True True)/\rE ([]:List (RK.T RK.apiOutput))/\True) (x2,[]) λ(v0:Q00×List Q03)=> .br (decide (v0.1.A1<until0)) (.br (decide (v0.1.A1<1152921504606846976)) (.lp inferInstance (Qhn m script until0 v0 ()+1) ((((Els.Nil (Els.gen [])\/rE (0:Nat))/\rE ([]:List (List D)))/\rE (until0:Int)/\rZ/\rZ/\True/\rE (0:Int)/\(rE (0:Nat)/\rE (46:Nat))/\rE v0.1.A1/\rE ((decide (v0.1.A1<1152921504606846976)):Bool)/\True)/\(mE v0.1 True True)/\rE v0.1.Mem/\(mE zM True True)/\rE v0.2/\True) () λ(v1:PUnit)=> .br v0.1.A9 (.lf (Sum.inr (Sum.inr (v0.1,v0.2,0,0)))) (.an (Qn9 v0.1) (.lv (Qed v0.1) λ(x3:Bool)=> .br x3 (.lf (Sum.inr (Sum.inr (v0.1,v0.2,0,0)))) (.an (Qlt v0.1) (.lv (Qfp v0.1) λ(x4:Bool)=> .br (!false==x4) (.lf (Sum.inr (Sum.inr (E2,[],0,1302)))) (.an (Qor v0.1 0) (.lv (Q0k v0.1 0) λ(x5:List Q03×Q00)=> .cn (decide (40*(v0.2.length+x5.1.length)<=140737488355328)) (.nx ((((Els.Nil (Els.gen [])\/rE (0:Nat))/\rE ([]:List (List D)))/\rE (until0:Int)/\rZ/\rZ/\True/\rE (0:Int)/\True)/\(mE x5.2 True True)/\rE x5.2.Mem/\(mE zM True True)/\rE ((v0.2++x5.1):List (RK.T RK.apiOutput))/\True) (Sum.inr (Sum.inl (x5.2,v0.2++x5.1))))))))))) (.lf (Sum.inr (v0.1,v0.2,0,0)))) (.lf (Sum.inr (v0.1,v0.2,0,0)))))))))
def Qfu m script until0:=(Qaj m script until0).m
abbrev Qcb m script until0:=(Qaj m script until0).p
def Zce:LInv:={
 α:=Q00×(List Q03)
 F:=λst a=>([(1,(lk st 1)),(2,(lk st 2)),(3, .ptr 0 0 0),(6, .ptr 2 0 0),(10, .all 3),(11,(lk st 11))],[⟨true,43,49, .gen [mD a.1 (.all 1)]⟩,⟨false,25,1, .ints u32 a.1.Mem⟩,⟨true,43,49, .gen [mB (cT st 6)]⟩,⟨false,71,4, .recs RK.apiOutput a.2⟩])
 a0:=λst=>((mR (cT st 3) (Q5t st.rows (Q0t (cT st 3 25) 1000000))),(Q3d RK.apiOutput st.rows (rN st 10)))
 ex0:=λst=>[]++[(rX st 3 0),(Q0t (cT st 3 25) (st.rows.length+1)),(rX st 6 2),(rX st 10 3)]}
def Zb8:LInv:={
 α:=Unit
 F:=λst a=>([(1,(lk st 1)),(2,(lk st 2)),(3, .ptr 0 0 0),(6, .ptr 2 0 0),(10, .all 3),(11,(lk st 11)),(61, .ptr 0 0 46),(62,(lk st 62)),(63,(lk st 63))],[⟨true,43,49, .gen [[(cT st 3 0),(cT st 3 1),(cT st 3 2),(cT st 3 3),(cT st 3 4),(cT st 3 5),(cT st 3 6),(cT st 3 7),(cT st 3 8),(cT st 3 9),(cT st 3 10),(cT st 3 11),(cT st 3 12),(cT st 3 13),(cT st 3 14),(cT st 3 15),(cT st 3 16),(cT st 3 17),(cT st 3 18),(cT st 3 19),(cT st 3 20),(cT st 3 21),(cT st 3 22),(cT st 3 23),(cT st 3 24), .all 1,(cT st 3 26),(cT st 3 27),(cT st 3 28),(cT st 3 29),(cT st 3 30),(cT st 3 31),(cT st 3 32),(cT st 3 33),(cT st 3 34),(cT st 3 35),(cT st 3 36),(cT st 3 37),(cT st 3 38),(cT st 3 39),(cT st 3 40),(cT st 3 41),(cT st 3 42),(cT st 3 43),(cT st 3 44),(cT st 3 45),(cT st 3 46),(cT st 3 47),(cT st 3 48)]]⟩,⟨false,25,1,esOf st.rows (Q0t (cT st 3 25) 1000000)⟩,⟨true,43,49, .gen [mB (cT st 6)]⟩,⟨false,71,4,esOf st.rows (rN st 10)⟩])
 a0:=λst=>()
 ex0:=λst=>[]++[(rX st 3 0),(Q0t (cT st 3 25) (st.rows.length+1)),(rX st 6 2),(rX st 10 3)]}
def Z4b:List (Nat×LInv):=[(8,Zce),(9,Zb8)]
def Zj7:Q0d:=mT 75 [] true [.agg Q00.sig, .one .nil, .one (.int .u64)] [] (λa r=>Qaj (Q00.of (aC a 0)) (argR .apiEntry a 1) (argI a 2)) (λX=> .tup [.agg (Q00.cellsW (X.1) (.all 0)), .all 1, .int .i64 (X.2.2.1), .int .i64 (X.2.2.2)]) (λX=>[⟨false,25,1, .ints .u32 (X.1).Mem⟩,⟨false,71,4, .recs .apiOutput (X.2.1)⟩])
theorem Zcn:Q06 pG Zj7:=oT (.cons Qtp (.cons Z3o (.cons Qtz (.cons Zc (.cons Z02 (.cons Qur (.cons Z5n (.nil)))))))) Tryz.func75 Tryz.call75 [.row 25 1 (.ints .u32), .row 71 4 (.recs .apiOutput)] Z4b 3
def Qeg(kind:Int)(l z:List Int):Nat:=160-z.length
def Q7m(kind:Int)(l:List Int):Tree Q00:=
.an (Q4b kind 3) (.lv (Q4y kind 3) λ(x0:Int)=> .br (decide (x0<2)) (.an (Qao ((108:UInt8)::(tblZe0++Z99++(Z9++Z97)++(Za7++Za3++(Zaj++Zaa))++(Z9r++Zas++(Qys++Qy0)++(Qxo++Qz6++(Qxw++Qxy)))))) (.lv (Q1j (cO (cO (cO (cO Zcj Z99) (cO Z9 Z97)) (cO (cO Za7 Za3) (cO Zaj Zaa))) (cO (cO (cO Z9r Zas) (cO Qys Qy0)) (cO (cO Qxo Qz6) (cO Qxw Qxy))))) λ(x1:List Int×Q1l)=> .lp inferInstance (Qeg kind l x1.1+1) ((rE (x0:Int)/\((Els.Nil (Els.ints i64 l)\/rE (1:Nat))/\rE (l:List Int))/\rZ/\True/\True)/\(mE zM True True)/\rE x1.1/\True) x1.1 λ(v0:List Int)=> .br (decide ((v0.length:Int)<(160:Int))) (.cn (decide (4*(v0.length+1)<=140737488355328)) (.nx ((rE (x0:Int)/\((Els.Nil (Els.ints i64 l)\/rE (1:Nat))/\rE (l:List Int))/\rZ/\True/\True)/\(mE zM True True)/\rE ((v0++[0]):List Int)/\True) (Sum.inl (v0++[0])))) (.an (Qnj l) (.lv (Qq0 l) λ(x2:List Int)=> .cn (decide (4*(v0.length+x2.length)<=140737488355328)) (.br (decide ((↑(dH (v0++x2)):Int)>(256:Int))) (.cn (bS 1 1&&bT 0 1&&decide ((0:Int)<=(0:Int)/\(0:Int)<=(256:Int)/\256<=(↑(dH (v0++x2)):Int))) (let E1:=cY (dC 256-dC 0) (cZ (dC 0) (v0++x2)); .an (Qa1 8 4 E1) (.lv (Q21 8 4 E1) λ(x3:Q00×Bool)=> .br (x0==1) (.an (Qcb x3.1 [] 87) (.lv (Qfu x3.1 [] 87) λ(x4:Q00×List Q03×Int×Int)=> .lf (Sum.inr x4.1))) (.lf (Sum.inr x3.1))))) (.an (Qa1 8 4 (v0++x2)) (.lv (Q21 8 4 (v0++x2)) λ(x5:Q00×Bool)=> .br (x0==1) (.an (Qcb x5.1 [] 87) (.lv (Qfu x5.1 [] 87) λ(x6:Q00×List Q03×Int×Int)=> .lf (Sum.inr x6.1))) (.lf (Sum.inr x5.1))))))))) (.an (Qnj l) (.lv (Qq0 l) λ(x7:List Int)=> .cn (decide (4*(0+x7.length)<=140737488355328)) (.br (decide ((x7.length:Int)>(256:Int))) (.cn (bS 1 1&&bT 0 1&&decide ((0:Int)<=(0:Int)/\(0:Int)<=(256:Int)/\256<=(x7.length:Int))) (let E2:=cY (dC 256-dC 0) (cZ (dC 0) x7); .an (Qa1 8 4 E2) (.lv (Q21 8 4 E2) λ(x8:Q00×Bool)=> .br (x0==1) (.an (Qcb x8.1 [] 87) (.lv (Qfu x8.1 [] 87) λ(x9:Q00×List Q03×Int×Int)=> .lf x9.1)) (.lf x8.1)))) (.an (Qa1 8 4 x7) (.lv (Q21 8 4 x7) λ(x10:Q00×Bool)=> .br (x0==1) (.an (Qcb x10.1 [] 87) (.lv (Qfu x10.1 [] 87) λ(x11:Q00×List Q03×Int×Int)=> .lf x11.1)) (.lf x10.1)))))))
def Ql4 kind l:=(Q7m kind l).m
abbrev Qof kind l:=(Q7m kind l).p
def Z5t:LInv:={
 α:=(List Int)
 F:=λst a=>([(0,(lk st 0)),(1,(lk st 1)),(4, .ptr 0 0 0),(5, .all 1)],[⟨true,43,49, .gen [mB (cT st 4)]⟩,⟨false,25,1, .ints u32 a⟩])
 a0:=λst=>(Q5t st.rows (rN st 5))
 ex0:=λst=>[]++[(rX st 4 0),(rX st 5 1)]}
def Qy7:List (Nat×LInv):=[(5,Z5t)]
def Z8k:Q0d:=mT 41 [] true [.one (.int .i64), .one (.ints .i64)] [] (λa r=>Q7m (argI a 0) (argL .i64 a 1)) (λX=> .agg (Q00.cellsW X (.all 0))) (λX=>[⟨false,25,1, .ints .u32 X.Mem⟩])
theorem Z50:Q06 pG Z8k:=oT (.cons Qo2 (.cons Z0x (.cons Zgx (.cons Z6f (.cons Zcn (.nil)))))) Tryz.func41 Tryz.call41 [.row 25 1 (.ints .u32)] Qy7 3
end
noncomputable section
def Qyd(l acts:List Int):Tree Bool:=
.br (decide ((l.length:Int)<=(40:Int))) (.lf (decide ((acts.length:Int)<=(30:Int)))) (.lf false)
def Qw4 l acts:=(Qyd l acts).m
def Zp1:Q0d:=mS 15 [] true [.one (.ints .i64), .one (.ints .i64)] [] (λa r=>Qyd (argL .i64 a 0) (argL .i64 a 1)) (λX=> .bool X) (λX=>[])
theorem Zlh:Q06 pG Zp1:=oS (.nil) Tryz.func15 Tryz.call15 [] [] 2
def Qqf(t:Q0j):Tree (Q0j×Bool):=
.br (!t.D2) (.lf (t,false)) (.lf ({D2:=false,C9:=t.C9,D5:=true},true))
def Qmj t:=(Qqf t).m
def Zf:Q0d:=mS 130 [] true [.agg Q0j.sig] [] (λa r=>Qqf (Q0j.of (aC a 0))) (λX=> .tup [.agg (Q0j.cells (X.1)), .bool (X.2)]) (λX=>[])
theorem Zeg:Q06 pG Zf:=oS (.nil) Tryz.func130 Tryz.call130 [] [] 2
def Qc1(c:Q0c)(b:Int):Tree (Q0c×Bool):=
.br (decide ((c.D3.length:Int)>=(16:Int))) (.lf (c,false)) (.cn (decide (c.D3.length+1<=maxLen)) (.lf ({D3:=c.D3++[(λ(n:Int)=>UInt8.ofNat n.toNat) b]},true)))
def Qq1 c b:=(Qc1 c b).m
abbrev Qom c b:=(Qc1 c b).p
def Z8g:Q0d:=mT 131 [] true [.agg Q0c.sig, .one (.int .u8)] [] (λa r=>Qc1 (Q0c.of (aC a 0)) (argI a 1)) (λX=> .tup [.agg (Q0c.cells (X.1)), .bool (X.2)]) (λX=>[])
theorem Z5w:Q06 pG Z8g:=oT (.nil) Tryz.func131 Tryz.call131 [] [] 2
def Q86(d0:Q0g)(m:List Int)(e:Q07):Tree (Q0g×(List Int)×Bool):=
let T2:Tree ((Q0g×(List Int)×Bool)):= .an (Q0a m) (.lv (Q04 m) λ(x0:List Int)=> .lf (d0,x0,false)); .br (d0.C1 !=1) T2 (.br (e.B5 !=4) T2 (.br (decide (e.N>1)) T2 (.an (Q0a m) (.lv (Q04 m) λ(x3:List Int)=>let E3:=({Blocks:=d0.Blocks,C2:=d0.C2,Frame:=d0.Frame,C1:=2,D8:=0,B7:=0,B4:=0,C4:=[]}:Q0g);let E4:=({Blocks:=d0.Blocks,C2:=d0.C2,Frame:=d0.Frame,C1:=3,D8:=0,B7:=0,B4:=0,C4:=[]}:Q0g);let T1:Tree ((Q0g×(List Int)×Bool)):= .br (!decide (e.C8=[])) (.lf (d0,x3,false)) (.br (e.N==1) (.lf (E3,x3,true)) (.lf (E4,x3,true))); .br (e.N==1) (.br (d0.D8==1) (.lv (Q9y m d0.B4) λ(x4:Bool)=> .br (!x4) (.lf (d0,x3,false)) (.an (Q9h m (wrap i64 d0.B4) e.C8) (.lv (Q30 m (wrap i64 d0.B4) e.C8) λ(x5:List Int×Bool)=> .br (!x5.2) (.lf (d0,x5.1,false)) (.br (e.N==1) (.lf (E3,x5.1,true)) (.lf (E4,x5.1,true)))))) T1) T1))))
def Qi3 d0 m e:=(Q86 d0 m e).m
abbrev Qmu d0 m e:=(Q86 d0 m e).p
def Z5i:Q0d:=mT 132 [] true [.agg Q0g.sig, .one (.ints .u32), .agg Q07.sig] [] (λa r=>Q86 (Q0g.of (aC a 0)) (argL .u32 a 1) (Q07.of (aC a 2))) (λX=> .tup [.agg (Q0g.cells (X.1)), .all 0, .bool (X.2.2)]) (λX=>[⟨false,25,1, .ints .u32 (X.2.1)⟩])
theorem Z1i:Q06 pG Z5i:=oT (.cons Q0x (.cons Qsj (.cons Qf6 (.nil)))) Tryz.func132 Tryz.call132 [.row 25 1 (.ints .u32)] [] 2
def Qar(n:Q0r)(m:List Int)(frame:List UInt8):Tree (Q0r×(List Int)×Bool):=
let T1:Tree ((Q0r×(List Int)×Bool)):= .an (Q0a m) (.lv (Q04 m) λ(x0:List Int)=> .lf (n,x0,false)); .br (!n.C6) T1 (.br (decide ((frame.length:Int)<(1:Int))) T1 (.br (decide ((frame.length:Int)>(128:Int))) T1 (.lv (Qat m n.B9) λ(x3:Bool)=> .br (!x3) T1 (.an (Qep m (wrap i64 n.B9)) (.lv (Q69 m (wrap i64 n.B9)) λ(x5:List UInt8×Bool)=> .cn (decide (0<=(frame.length:Int)/\(frame.length:Int)<=(x5.1.length:Int)/\(x5.1.length:Int)<=(x5.1.length:Int))) (let E2:=dC (x5.1.length:Int)-dC (frame.length:Int);let E3:=cZ (dC (frame.length:Int)) x5.1; .cn (decide (frame.length+dH (cY E2 E3)<=maxLen)) (.an (Q9h m (wrap i64 n.B9) (frame++cY E2 E3)) (.lv (Q30 m (wrap i64 n.B9) (frame++cY E2 E3)) λ(x6:List Int×Bool)=> .lf ({Frame:=n.Frame,E0:=n.E0,C6:=false,B9:=0,B8:=true,F1:=wrap u32 (frame.length:Int)},x6.1,true)))))))))
def Qo1 n m frame:=(Qar n m frame).m
abbrev Qpb n m frame:=(Qar n m frame).p
def Zec:Q0d:=mT 133 [] true [.agg Q0r.sig, .one (.ints .u32), .one (.str)] [] (λa r=>Qar (Q0r.of (aC a 0)) (argL .u32 a 1) (argS a 2)) (λX=> .tup [.agg (Q0r.cells (X.1)), .all 0, .bool (X.2.2)]) (λX=>[⟨false,25,1, .ints .u32 (X.2.1)⟩])
theorem Z6w:Q06 pG Zec:=oT (.cons Qnp (.cons Q0x (.cons Qlk (.cons Qf6 (.nil))))) Tryz.func133 Tryz.call133 [.row 25 1 (.ints .u32)] [] 2
def Q4l(m:Q00)(e:Q07):Tree (Q00×Bool):=
.an (Q0a m.Mem) (.lv (Q04 m.Mem) λ(x0:List Int)=>let E2:=({B2:=m.B2,Mem:=x0,A6:=m.A6,B0:=m.B0,B1:=m.B1,C5:=m.C5,A4:=m.A4,A1:=m.A1,A7:=m.A7,A9:=m.A9}:Q00); .an (Q3o E2) (.lv (Q19 E2) λ(x1:Bool)=>let T1:Tree ((Q00×Bool)):= .lf (E2,false); .br (!x1) T1 (.br m.A9 T1 (.br (e.B5==2) (.br (e.N==0) (.br (decide (e.C8=[])) (.lv (Qmj m.B0) λ(x2:Q0j×Bool)=> .lf ({B2:=m.B2,Mem:=x0,A6:=m.A6,B0:=x2.1,B1:=m.B1,C5:=m.C5,A4:=m.A4,A1:=m.A1,A7:=m.A7,A9:=m.A9},x2.2)) T1) T1) (.br (e.B5==3) (.br (decide (e.N<=255)) (.br (decide (e.C8=[])) (.an (Qom m.A6 (wrap u8 e.N)) (.lv (Qq1 m.A6 (wrap u8 e.N)) λ(x3:Q0c×Bool)=> .lf ({B2:=m.B2,Mem:=x0,A6:=x3.1,B0:=m.B0,B1:=m.B1,C5:=m.C5,A4:=m.A4,A1:=m.A1,A7:=m.A7,A9:=m.A9},x3.2))) T1) T1) (.br (e.B5==4) (.an (Qmu m.B1 x0 e) (.lv (Qi3 m.B1 x0 e) λ(x4:Q0g×List Int×Bool)=> .lf ({B2:=m.B2,Mem:=x4.2.1,A6:=m.A6,B0:=m.B0,B1:=x4.1,C5:=m.C5,A4:=m.A4,A1:=m.A1,A7:=m.A7,A9:=m.A9},x4.2.2))) (.br (e.B5==5) (.br (e.N==0) (.an (Qpb m.C5 x0 e.C8) (.lv (Qo1 m.C5 x0 e.C8) λ(x5:Q0r×List Int×Bool)=> .lf ({B2:=m.B2,Mem:=x5.2.1,A6:=m.A6,B0:=m.B0,B1:=m.B1,C5:=x5.1,A4:=m.A4,A1:=m.A1,A7:=m.A7,A9:=m.A9},x5.2.2))) T1) (.br (e.B5==6) (.br (decide (e.C8=[])) (.lf ({B2:=m.B2,Mem:=x0,A6:=m.A6,B0:=m.B0,B1:=m.B1,C5:=m.C5,A4:={D0:=e.N,C3:=m.A4.C3},A1:=m.A1,A7:=m.A7,A9:=m.A9},true)) T1) T1))))))))
def Q5f m e:=(Q4l m e).m
abbrev Q81 m e:=(Q4l m e).p
def Z3h:Q0d:=mT 38 [] true [.agg Q00.sig, .agg Q07.sig] [] (λa r=>Q4l (Q00.of (aC a 0)) (Q07.of (aC a 1))) (λX=> .tup [.agg (Q00.cellsW (X.1) (.all 0)), .bool (X.2)]) (λX=>[⟨false,25,1, .ints .u32 (X.1).Mem⟩])
theorem Qck:Q06 pG Z3h:=oT (.cons Q0x (.cons Q91 (.cons Zeg (.cons Z5w (.cons Z1i (.cons Z6w (.nil))))))) Tryz.func38 Tryz.call38 [.row 25 1 (.ints .u32)] [] 2
end
noncomputable section
instance sumInhRa {α β:Type} [Inhabited β]:Inhabited (α⊕β):=⟨.inr default⟩
def Q13(s:List Q0f):(List Q0f):=
s
def Q0y(s:List Q0f):Prop:=
s.length<=3518437208883
def Q2r(s:List Q0f):List D:=[.sl 4 (.recs .apiEntry s) false]
def Q22(s:List Q0f):List Row:=[]
def Q1b(X:List Q0f):D:= .all 0
def Q1e(X:List Q0f):List Row:=[⟨false,126,4, .recs .apiEntry X⟩]
def Qbq:List Dir:=[.row 126 4 (.recs .apiEntry)]
def Q5j:List PT:=[.one (.recs .apiEntry)]
def Q59:List RT:=[]
def Qc6(args:List D)(rows:List Row):(List Q0f):=Q13 (argR .apiEntry args 0)
def Qc4(args:List D)(rows:List Row):Prop:=Q0y (argR .apiEntry args 0)
def Qdt:Q0d:=mkP 210 [] true Q5j Q59 Qc4 Qc6 Q1b Q1e
def Q3b(s:List Q0f)(Leaf:(List Q0f)->Prop):Prop:=
(s=[]->Leaf [])/\cand (decide ((40:Nat)*((0:Nat)+s.length)<=(140737488355328:Nat))) (Leaf s)
set_option maxRecDepth 100000 in
theorem Qd2(s:List Q0f)(Q:D->List Row->Prop):(fnVC tab [] (LL tab [] Tryz.f210.ntmps 0 [] 2) Tryz.f210 (Q2r s) (Q22 s) λd R=>Qaf (Q22 s).length Qbq d R Q)=Q3b s (λX=>Q (Q1b X) (Q1e X)):=by kernel_rfl
theorem Qbk(s:List Q0f)(Leaf:(List Q0f)->Prop)(hw:Q0y s)(h:Leaf (Q13 s)):
Q3b s Leaf:=by
 delta Q3b
 refine⟨λe=>by rw[e]at h;exact h,?_⟩
 rw[Q09]
 refine⟨dY ?_,h⟩
 have:s.length<=3518437208883:=hw
 omega
set_option maxRecDepth 100000 in
theorem Qbe(s:List Q0f)(hw:Q0y s):Q4r pG 210 (Q2r s) (Q22 s) (Q1b (Q13 s)) (Q1e (Q13 s)):=
 have hG:Q7g pG []:= .nil
 FnOK.calls drawn Q0l hG Tryz.func210 (rf:=none) (λ_ _=>trivial) (Zp9 drawn Q0l hG (.inl rfl) 2 (invs:=[])) (FnOK.of (Qd2 s _) (Qbk s (λX=>Q1b X=Q1b (Q13 s)/\Q1e X=Q1e (Q13 s)) hw ⟨rfl,rfl⟩))
set_option maxRecDepth 100000 in
theorem Qbp(args:List D)(rows:List Row):Qgz Q5j args 0=Q2r (argR .apiEntry args 0):=by kernel_rfl
set_option maxRecDepth 100000 in
theorem Qav(args:List D)(rows:List Row):Q6g Q59 rows 0=Q22 (argR .apiEntry args 0):=by kernel_rfl
set_option maxRecDepth 100000 in
theorem Qd(X:List Q0f):(ffB (Q1b X)&&ffBR (Q1e X))=true:=by kernel_rfl
theorem Q6b:Q06 pG Qdt:=Z03 Tryz.call210 (λargs rows hp=>by rw[Qbp args rows,Qav args rows];exact Qbe (argR .apiEntry args 0) hp) (λ_ X=>Qd X)
def Q1a(s:List Q07):(List Q07):=
s
def Q12(s:List Q07):Prop:=
s.length<=3518437208883
def Q2v(s:List Q07):List D:=[.sl 3 (.recs .apiEvent s) false]
def Q23(s:List Q07):List Row:=[]
def Q1c(X:List Q07):D:= .all 0
def Q1d(X:List Q07):List Row:=[⟨false,66,3, .recs .apiEvent X⟩]
def Qbo:List Dir:=[.row 66 3 (.recs .apiEvent)]
def Q5s:List PT:=[.one (.recs .apiEvent)]
def Q58:List RT:=[]
def Qbz(args:List D)(rows:List Row):(List Q07):=Q1a (argR .apiEvent args 0)
def Qce(args:List D)(rows:List Row):Prop:=Q12 (argR .apiEvent args 0)
def Qds:Q0d:=mkP 211 [] true Q5s Q58 Qce Qbz Q1c Q1d
def Q3c(s:List Q07)(Leaf:(List Q07)->Prop):Prop:=
(s=[]->Leaf [])/\cand (decide ((32:Nat)*((0:Nat)+s.length)<=(140737488355328:Nat))) (Leaf s)
set_option maxRecDepth 100000 in
theorem Qd3(s:List Q07)(Q:D->List Row->Prop):(fnVC tab [] (LL tab [] Tryz.f211.ntmps 0 [] 2) Tryz.f211 (Q2v s) (Q23 s) λd R=>Qaf (Q23 s).length Qbo d R Q)=Q3c s (λX=>Q (Q1c X) (Q1d X)):=by kernel_rfl
theorem Qbi(s:List Q07)(Leaf:(List Q07)->Prop)(hw:Q12 s)(h:Leaf (Q1a s)):
Q3c s Leaf:=by
 delta Q3c
 refine⟨λe=>by rw[e]at h;exact h,?_⟩
 rw[Q09]
 refine⟨dY ?_,h⟩
 have:s.length<=3518437208883:=hw
 omega
set_option maxRecDepth 100000 in
theorem Qb7(s:List Q07)(hw:Q12 s):Q4r pG 211 (Q2v s) (Q23 s) (Q1c (Q1a s)) (Q1d (Q1a s)):=
 have hG:Q7g pG []:= .nil
 FnOK.calls drawn Q0l hG Tryz.func211 (rf:=none) (λ_ _=>trivial) (Zp9 drawn Q0l hG (.inl rfl) 2 (invs:=[])) (FnOK.of (Qd3 s _) (Qbi s (λX=>Q1c X=Q1c (Q1a s)/\Q1d X=Q1d (Q1a s)) hw ⟨rfl,rfl⟩))
set_option maxRecDepth 100000 in
theorem Qbj(args:List D)(rows:List Row):Qgz Q5s args 0=Q2v (argR .apiEvent args 0):=by kernel_rfl
set_option maxRecDepth 100000 in
theorem Qb3(args:List D)(rows:List Row):Q6g Q58 rows 0=Q23 (argR .apiEvent args 0):=by kernel_rfl
set_option maxRecDepth 100000 in
theorem Qcr(X:List Q07):(ffB (Q1c X)&&ffBR (Q1d X))=true:=by kernel_rfl
theorem Qcq:Q06 pG Qds:=Z03 Tryz.call211 (λargs rows hp=>by rw[Qbj args rows,Qb3 args rows];exact Qb7 (argR .apiEvent args 0) hp) (λ_ X=>Qcr X)
def Q61(r:Q01):Tree Q01:=
.an (Q0a r.A0.Mem) (.lv (Q04 r.A0.Mem) λ(x0:List Int)=> .an (Q0y r.B3) (.lv (Q13 r.B3) λ(x1:List Q0f)=> .an (Q12 r.A2) (.lv (Q1a r.A2) λ(x2:List Q07)=> .lf ({A0:={B2:=r.A0.B2,Mem:=x0,A6:=r.A0.A6,B0:=r.A0.B0,B1:=r.A0.B1,C5:=r.A0.C5,A4:=r.A0.A4,A1:=r.A0.A1,A7:=r.A0.A7,A9:=r.A0.A9},A3:=r.A3,B3:=x1,A2:=x2}))))
def Qaq r:=(Q61 r).m
abbrev Q4 r:=(Q61 r).p
def Z4l:Q0d:=mT 145 [] true [.agg Q01.sig] [] (λa r=>Q61 (Q01.of (aC a 0))) (λX=> .agg (Q01.cellsW X (.all 0) (.all 1) (.all 2))) (λX=>[⟨false,25,1, .ints .u32 X.A0.Mem⟩,⟨false,126,4, .recs .apiEntry X.B3⟩,⟨false,66,3, .recs .apiEvent X.A2⟩])
theorem Qci:Q06 pG Z4l:=oT (.cons Q0x (.cons Q6b (.cons Qcq (.nil)))) Tryz.func145 Tryz.call145 [.row 25 1 (.ints .u32), .row 126 4 (.recs .apiEntry), .row 66 3 (.recs .apiEvent)] [] 2
def Qam(m:Q00):Tree Q01:=
.an (Q4 {A0:=m,A3:=0,B3:=[],A2:=[]}) (.lv (Qaq {A0:=m,A3:=0,B3:=[],A2:=[]}) λ(x0:Q01)=> .lf x0)
def Z95 m:=(Qam m).m
abbrev Qln m:=(Qam m).p
def Zex:Q0d:=mT 54 [] true [.agg Q00.sig] [] (λa r=>Qam (Q00.of (aC a 0))) (λX=> .agg (Q01.cellsW X (.all 0) (.all 1) (.all 2))) (λX=>[⟨false,25,1, .ints .u32 X.A0.Mem⟩,⟨false,126,4, .recs .apiEntry X.B3⟩,⟨false,66,3, .recs .apiEvent X.A2⟩])
theorem Zc3:Q06 pG Zex:=oT (.cons Qci (.nil)) Tryz.func54 Tryz.call54 [.row 25 1 (.ints .u32), .row 126 4 (.recs .apiEntry), .row 66 3 (.recs .apiEvent)] [] 2
def Qhm(e:Q07):Tree Bool:=
.br (e.B5==1) (.lf (decide (e.C8=[]))) (.br (e.B5==6) (.lf (decide (e.C8=[]))) (.br (e.B5==2) (.br (e.N==0) (.lf (decide (e.C8=[]))) (.lf false)) (.br (e.B5==3) (.br (decide (e.N<=255)) (.lf (decide (e.C8=[]))) (.lf false)) (.br (e.B5==4) (.br (e.N==1) (.br (decide (e.C8=[])) (.lf true) (.lf ((e.C8.length:Int)==(128:Int)))) (.br (e.N==0) (.lf (decide (e.C8=[]))) (.lf false))) (.br (e.B5==5) (.br (e.N==0) (.br (decide ((e.C8.length:Int)>=(1:Int))) (.lf (decide ((e.C8.length:Int)<=(128:Int)))) (.lf false)) (.lf false)) (.lf false))))))
def Qbw e:=(Qhm e).m
def Z12:Q0d:=mS 150 [] true [.agg Q07.sig] [] (λa r=>Qhm (Q07.of (aC a 0))) (λX=> .bool X) (λX=>[])
theorem Qm5:Q06 pG Z12:=oS (.nil) Tryz.func150 Tryz.call150 [] [] 2
def Q9v(r:Q01)(e:Q07):Tree (Q01×Bool):=
.an (Q4 r) (.lv (Qaq r) λ(x0:Q01)=> .lv (Qbw e) λ(x1:Bool)=> .br (!x1) (.lf (x0,false)) (.br (e.B5==1) (.lf (x0,false)) (.br (decide ((x0.A2.length:Int)>=(16:Int))) (.lf (x0,false)) (.cn (decide (32*(x0.A2.length+1)<=140737488355328)) (.lf ({A0:=x0.A0,A3:=x0.A3,B3:=x0.B3,A2:=x0.A2++[e]},true))))))
def Qn6 r e:=(Q9v r e).m
abbrev Qf7 r e:=(Q9v r e).p
def Z3v:Q0d:=mT 78 [] true [.agg Q01.sig, .agg Q07.sig] [] (λa r=>Q9v (Q01.of (aC a 0)) (Q07.of (aC a 1))) (λX=> .tup [.agg (Q01.cellsW (X.1) (.all 0) (.all 1) (.all 2)), .bool (X.2)]) (λX=>[⟨false,25,1, .ints .u32 (X.1).A0.Mem⟩,⟨false,126,4, .recs .apiEntry (X.1).B3⟩,⟨false,66,3, .recs .apiEvent (X.1).A2⟩])
theorem Z24:Q06 pG Z3v:=oT (.cons Qci (.cons Qm5 (.nil))) Tryz.func78 Tryz.call78 [.row 25 1 (.ints .u32), .row 126 4 (.recs .apiEntry), .row 66 3 (.recs .apiEvent)] [] 2
def Qgk(r:Q01):Tree (Q01×(List Q0f)×Int):=
.an (Q4 r) (.lv (Qaq r) λ(x0:Q01)=> .lf ({A0:=x0.A0,A3:=x0.A3,B3:=[],A2:=x0.A2},x0.B3,x0.A0.A1))
def Zal r:=(Qgk r).m
abbrev Qs7 r:=(Qgk r).p
def Zj4:Q0d:=mT 56 [] true [.agg Q01.sig] [] (λa r=>Qgk (Q01.of (aC a 0))) (λX=> .tup [.agg (Q01.cellsW (X.1) (.all 0) (.sl 4 (.recs .apiEntry X.1.B3) true) (.all 1)), .all 2, .int .u64 (X.2.2)]) (λX=>[⟨false,25,1, .ints .u32 (X.1).A0.Mem⟩,⟨false,66,3, .recs .apiEvent (X.1).A2⟩,⟨false,126,4, .recs .apiEntry (X.2.1)⟩])
theorem Zbb:Q06 pG Zj4:=oT (.cons Qci (.nil)) Tryz.func56 Tryz.call56 [.row 25 1 (.ints .u32), .sl (.recs .apiEntry) true, .row 66 3 (.recs .apiEvent), .row 126 4 (.recs .apiEntry)] [] 2
def Z44(t:Q0j)(now:Int):Tree Bool:=
.br t.D2 (.lf (decide (now>=t.C9))) (.lf false)
def Zj t now:=(Z44 t now).m
def Zly:Q0d:=mS 165 [] true [.agg Q0j.sig, .one (.int .u32)] [] (λa r=>Z44 (Q0j.of (aC a 0)) (argI a 1)) (λX=> .bool X) (λX=>[])
theorem Zgh:Q06 pG Zly:=oS (.nil) Tryz.func165 Tryz.call165 [] [] 2
def Q70(e:Q07)(fr0:Q01):Tree Q01:=
.cn (decide (40*(fr0.B3.length+1)<=140737488355328)) (.lf ({A0:=fr0.A0,A3:=fr0.A3,B3:=fr0.B3++[{At:=fr0.A0.A1,C0:=e}],A2:=fr0.A2}))
def Qho e fr0:=(Q70 e fr0).m
abbrev Qbr e fr0:=(Q70 e fr0).p
def Qus:Q0d:=mkKP 1 163 [false,true] [.agg Q07.sig, .ptr 0] [.box 96 52 (Q01.sigW (.ints .u32) (.row 1) (.recs .apiEvent)), .arr 126 4 (.recs .apiEntry)] (λa r=>Qbr (Q07.of (aC a 0)) (Q01.ofW (r.getD 0 default).cs (slI .u32 (((r.getD 0 default).cs).getD 25 .dead)) (rowR .apiEntry r 1) (slR .apiEvent (((r.getD 0 default).cs).getD 51 .dead)))) (λa r=>Qho (Q07.of (aC a 0)) (Q01.ofW (r.getD 0 default).cs (slI .u32 (((r.getD 0 default).cs).getD 25 .dead)) (rowR .apiEntry r 1) (slR .apiEvent (((r.getD 0 default).cs).getD 51 .dead)))) (λX=> .tup []) (λX=>[⟨true,96,52, .gen [(Q01.cellsW X (.sl 1 (.ints .u32 X.A0.Mem) false) (.all 1) (.sl 3 (.recs .apiEvent X.A2) false))]⟩,⟨false,126,4, .recs .apiEntry X.B3⟩])
theorem Qtk:Q06 pG Qus:=Z6l drawn Q0l (.nil) Tryz.func163 Tryz.call163 (λa r=>Q70 (Q07.of (aC a 0)) (Q01.ofW (r.getD 0 default).cs (slI .u32 (((r.getD 0 default).cs).getD 25 .dead)) (rowR .apiEntry r 1) (slR .apiEvent (((r.getD 0 default).cs).getD 51 .dead)))) [.sl (.ints .u32) false, .row 126 4 (.recs .apiEntry), .sl (.recs .apiEvent) false] [] 2 (λ_ _ _=>by kernel_rfl) (λ_ _=>rfl) (λ_ _ h=>h)
def Q67(e:Q07)(fr0:Q01):Tree Q01:=
.cn (decide (40*(fr0.B3.length+1)<=140737488355328)) (.lf ({A0:=fr0.A0,A3:=fr0.A3,B3:=fr0.B3++[{At:=fr0.A0.A1,C0:=e}],A2:=fr0.A2}))
def Qmk e fr0:=(Q67 e fr0).m
abbrev Qgr e fr0:=(Q67 e fr0).p
def Qtx:Q0d:=mkKP 1 163 [false,true] [.agg Q07.sig, .ptr 0] [.box 96 52 (Q01.sigW (.row 1) (.row 2) (.recs .apiEvent)), .arr 25 1 (.ints .u32), .arr 126 4 (.recs .apiEntry)] (λa r=>Qgr (Q07.of (aC a 0)) (Q01.ofW (r.getD 0 default).cs (rowL .u32 r 1) (rowR .apiEntry r 2) (slR .apiEvent (((r.getD 0 default).cs).getD 51 .dead)))) (λa r=>Qmk (Q07.of (aC a 0)) (Q01.ofW (r.getD 0 default).cs (rowL .u32 r 1) (rowR .apiEntry r 2) (slR .apiEvent (((r.getD 0 default).cs).getD 51 .dead)))) (λX=> .tup []) (λX=>[⟨true,96,52, .gen [(Q01.cellsW X (.all 1) (.all 2) (.sl 3 (.recs .apiEvent X.A2) false))]⟩,⟨false,25,1, .ints .u32 X.A0.Mem⟩,⟨false,126,4, .recs .apiEntry X.B3⟩])
theorem Qrx:Q06 pG Qtx:=Z6l drawn Q0l (.nil) Tryz.func163 Tryz.call163 (λa r=>Q67 (Q07.of (aC a 0)) (Q01.ofW (r.getD 0 default).cs (rowL .u32 r 1) (rowR .apiEntry r 2) (slR .apiEvent (((r.getD 0 default).cs).getD 51 .dead)))) [.row 25 1 (.ints .u32), .row 126 4 (.recs .apiEntry), .sl (.recs .apiEvent) false] [] 2 (λ_ _ _=>by kernel_rfl) (λ_ _=>rfl) (λ_ _ h=>h)
def Q6z(e:Q07)(fr0:Q01):Tree Q01:=
.an (Q81 fr0.A0 e) (.lv (Q5f fr0.A0 e) λ(x0:Q00×Bool)=> .br x0.2 (.an (Qgr e {A0:=x0.1,A3:=fr0.A3,B3:=fr0.B3,A2:=fr0.A2}) (.lv (Qmk e {A0:=x0.1,A3:=fr0.A3,B3:=fr0.B3,A2:=fr0.A2}) λ(x1:Q01)=> .lf x1)) (.lf fr0))
def Qht e fr0:=(Q6z e fr0).m
abbrev Qbh e fr0:=(Q6z e fr0).p
def Qvy:Q0d:=mkKP 2 164 [false,true,true] [.agg Q07.sig, .ptr 0, .ptr 1] [.box 96 52 (Q01.sigW (.ints .u32) (.row 2) (.recs .apiEvent)), .box 228 1 [.clo 163 [.ptr 0 0 0]], .arr 126 4 (.recs .apiEntry)] (λa r=>Qbh (Q07.of (aC a 0)) (Q01.ofW (r.getD 0 default).cs (slI .u32 (((r.getD 0 default).cs).getD 25 .dead)) (rowR .apiEntry r 2) (slR .apiEvent (((r.getD 0 default).cs).getD 51 .dead)))) (λa r=>Qht (Q07.of (aC a 0)) (Q01.ofW (r.getD 0 default).cs (slI .u32 (((r.getD 0 default).cs).getD 25 .dead)) (rowR .apiEntry r 2) (slR .apiEvent (((r.getD 0 default).cs).getD 51 .dead)))) (λX=> .tup []) (λX=>[⟨true,96,52, .gen [(Q01.cellsW X (.sl 1 (.ints .u32 X.A0.Mem) false) (.all 2) (.sl 3 (.recs .apiEvent X.A2) false))]⟩,⟨true,228,1, .gen [[.clo 163 [.ptr 0 0 0]]]⟩,⟨false,126,4, .recs .apiEntry X.B3⟩])
theorem Qt7:Q06 pG Qvy:=Z6l drawn Q0l (.cons Qck (.cons Qrx (.nil))) Tryz.func164 Tryz.call164 (λa r=>Q6z (Q07.of (aC a 0)) (Q01.ofW (r.getD 0 default).cs (slI .u32 (((r.getD 0 default).cs).getD 25 .dead)) (rowR .apiEntry r 2) (slR .apiEvent (((r.getD 0 default).cs).getD 51 .dead)))) [.sl (.ints .u32) false, .row 126 4 (.recs .apiEntry), .sl (.recs .apiEvent) false] [] 2 (λ_ _ _=>by kernel_rfl) (λ_ _=>rfl) (λ_ _ h=>h)
def Qi0(r:Q01)(steps clock:Int)(z:(Int)×Q01):Nat:=(z.2.A2.length-z.1).toNat
def Q7q(r:Q01)(steps clock:Int)(v0:Int×Q01)(z:(Int)×Q01×(List Q03)):Nat:=(4000-z.1).toNat
def Q6p(r:Q01)(steps clock:Int):Tree (Q01×(List Q03)):=
.an (Q4 r) (.lv (Qaq r) λ(x0:Q01)=> .an (Q3o x0.A0) (.lv (Q19 x0.A0) λ(x1:Bool)=> .br (!x1) (.lf (x0,[])) (.lp inferInstance (Qi0 r steps clock (0,{A0:=x0.A0,A3:=if clock>x0.A3 then clock else x0.A3,B3:=x0.B3,A2:=x0.A2})+1) ((rE (steps:Int)/\rZ/\rZ/\rZ/\True/\rE x0.A2/\rE ((x0.A2.length:Int):Int)/\rE (0:Int)/\True)/\(mE x0.A0 (rE x0.A0.Mem) (rE ((if clock>x0.A3 then clock else x0.A3):Int)/\True/\rE x0.A2/\True))/\rE x0.B3/\(mE zM True (rE (0:Int)/\True/\True/\True))/\(True/\True)/\True) (0,{A0:=x0.A0,A3:=if clock>x0.A3 then clock else x0.A3,B3:=x0.B3,A2:=x0.A2}) λ(v0:Int×Q01)=> .br (decide (v0.1<(x0.A2.length:Int))) (.cn (bS 3 3&&bT 0 3&&decide (0<=v0.1/\v0.1<(x0.A2.length:Int))) (let E1:=x0.A2.getD v0.1.toNat (RK.dflt RK.apiEvent); .an (Qbh E1 v0.2) (.lv (Qht E1 v0.2) λ(x2:Q01)=> .nx ((rE (steps:Int)/\rZ/\rZ/\rZ/\True/\((Els.Nil (Els.recs RK.apiEvent x0.A2)\/eqAt Nat 3 3)/\rE x0.A2)/\rE ((x0.A2.length:Int):Int)/\rE ((wrap i64 (v0.1+1)):Int)/\True)/\(mE x2.A0 (((Els.Nil (Els.ints u32 x2.A0.Mem)\/rE (1:Nat))/\rE x2.A0.Mem)) (rE x2.A3/\True/\((Els.Nil (Els.recs RK.apiEvent x2.A2)\/rE (3:Nat))/\rE x2.A2)/\True))/\rE x2.B3/\(mE zM True (rE (0:Int)/\True/\True/\True))/\(True/\True)/\True) (Sum.inl (wrap i64 (v0.1+1),x2))))) (.lp inferInstance (Q7q r steps clock v0 (0,{A0:=v0.2.A0,A3:=v0.2.A3,B3:=v0.2.B3,A2:=[]},[])+1) ((rZ/\rZ/\rZ/\True/\True/\rE ((if 4000<if 0>steps then 0 else steps then 4000 else if 0>steps then 0 else steps):Int)/\rE (0:Int)/\True)/\(mE v0.2.A0 (((Els.Nil (Els.ints u32 v0.2.A0.Mem)\/eqAt Nat 1 1)/\rE v0.2.A0.Mem)) (rE v0.2.A3/\True/\rE ([]:List (RK.T RK.apiEvent))/\True))/\rE v0.2.B3/\(mE zM True (rE (0:Int)/\True/\True/\True))/\(True/\True)/\rE ([]:List (RK.T RK.apiOutput))/\True) (0,{A0:=v0.2.A0,A3:=v0.2.A3,B3:=v0.2.B3,A2:=[]},[]) λ(v1:Int×Q01×List Q03)=> .br (decide (v1.1<if 4000<if 0>steps then 0 else steps then 4000 else if 0>steps then 0 else steps)) (.lv (Zj v1.2.1.A0.B0 v1.2.1.A3) λ(x3:Bool)=> .br x3 (.an (Qbh {B5:=2,N:=0,C8:=[]} v1.2.1) (.lv (Qht {B5:=2,N:=0,C8:=[]} v1.2.1) λ(x4:Q01)=> .br x4.A0.A9 (.lf (Sum.inr (Sum.inr (x4,v1.2.2)))) (.an (Q3r x4.A0) (.lv (Q38 x4.A0) λ(x5:Bool)=> .br x5 (.lf (Sum.inr (Sum.inr (x4,v1.2.2)))) (.br (x4.A0.A1==1152921504606846976) (.lf (Sum.inr (Sum.inr (x4,v1.2.2)))) (.an (Q1r x4.A0) (.lv (Q1y x4.A0) λ(x6:Bool)=> .br x6 (.an (Qbr {B5:=1,N:=x4.A3,C8:=[]} x4) (.lv (Qho {B5:=1,N:=x4.A3,C8:=[]} x4) λ(x7:Q01)=> .an (Q2l x7.A0 x7.A3) (.lv (Q1z x7.A0 x7.A3) λ(x8:Q00×List Q03)=> .cn (decide (40*(v1.2.2.length+x8.2.length)<=140737488355328)) (.nx ((rZ/\rZ/\rZ/\True/\True/\rE ((if 4000<if 0>steps then 0 else steps then 4000 else if 0>steps then 0 else steps):Int)/\rE ((wrap i64 (v1.1+1)):Int)/\True)/\(mE x8.1 (((Els.Nil (Els.ints u32 x8.1.Mem)\/rE (1:Nat))/\rE x8.1.Mem)) (rE ((wrap u32 (x7.A3+1)):Int)/\True/\((Els.Nil (Els.recs RK.apiEvent x7.A2)\/rE (3:Nat))/\rE x7.A2)/\True))/\rE x7.B3/\(mE zM True (rE (0:Int)/\True/\True/\True))/\(True/\True)/\rE ((v1.2.2++x8.2):List (RK.T RK.apiOutput))/\True) (Sum.inl (wrap i64 (v1.1+1),{A0:=x8.1,A3:=wrap u32 (x7.A3+1),B3:=x7.B3,A2:=x7.A2},v1.2.2++x8.2)))))) (.an (Q2l x4.A0 x4.A3) (.lv (Q1z x4.A0 x4.A3) λ(x9:Q00×List Q03)=> .cn (decide (40*(v1.2.2.length+x9.2.length)<=140737488355328)) (.nx ((rZ/\rZ/\rZ/\True/\True/\rE ((if 4000<if 0>steps then 0 else steps then 4000 else if 0>steps then 0 else steps):Int)/\rE ((wrap i64 (v1.1+1)):Int)/\True)/\(mE x9.1 (((Els.Nil (Els.ints u32 x9.1.Mem)\/rE (1:Nat))/\rE x9.1.Mem)) (rE ((wrap u32 (x4.A3+1)):Int)/\True/\((Els.Nil (Els.recs RK.apiEvent x4.A2)\/rE (3:Nat))/\rE x4.A2)/\True))/\rE x4.B3/\(mE zM True (rE (0:Int)/\True/\True/\True))/\(True/\True)/\rE ((v1.2.2++x9.2):List (RK.T RK.apiOutput))/\True) (Sum.inl (wrap i64 (v1.1+1),{A0:=x9.1,A3:=wrap u32 (x4.A3+1),B3:=x4.B3,A2:=x4.A2},v1.2.2++x9.2)))))))))))) (.br v1.2.1.A0.A9 (.lf (Sum.inr (Sum.inr (v1.2.1,v1.2.2)))) (.an (Q3r v1.2.1.A0) (.lv (Q38 v1.2.1.A0) λ(x10:Bool)=> .br x10 (.lf (Sum.inr (Sum.inr (v1.2.1,v1.2.2)))) (.br (v1.2.1.A0.A1==1152921504606846976) (.lf (Sum.inr (Sum.inr (v1.2.1,v1.2.2)))) (.an (Q1r v1.2.1.A0) (.lv (Q1y v1.2.1.A0) λ(x11:Bool)=> .br x11 (.an (Qbr {B5:=1,N:=v1.2.1.A3,C8:=[]} v1.2.1) (.lv (Qho {B5:=1,N:=v1.2.1.A3,C8:=[]} v1.2.1) λ(x12:Q01)=> .an (Q2l x12.A0 x12.A3) (.lv (Q1z x12.A0 x12.A3) λ(x13:Q00×List Q03)=> .cn (decide (40*(v1.2.2.length+x13.2.length)<=140737488355328)) (.nx ((rZ/\rZ/\rZ/\True/\True/\rE ((if 4000<if 0>steps then 0 else steps then 4000 else if 0>steps then 0 else steps):Int)/\rE ((wrap i64 (v1.1+1)):Int)/\True)/\(mE x13.1 (((Els.Nil (Els.ints u32 x13.1.Mem)\/rE (1:Nat))/\rE x13.1.Mem)) (rE ((wrap u32 (x12.A3+1)):Int)/\True/\((Els.Nil (Els.recs RK.apiEvent x12.A2)\/rE (3:Nat))/\rE x12.A2)/\True))/\rE x12.B3/\(mE zM True (rE (0:Int)/\True/\True/\True))/\(True/\True)/\rE ((v1.2.2++x13.2):List (RK.T RK.apiOutput))/\True) (Sum.inl (wrap i64 (v1.1+1),{A0:=x13.1,A3:=wrap u32 (x12.A3+1),B3:=x12.B3,A2:=x12.A2},v1.2.2++x13.2)))))) (.an (Q2l v1.2.1.A0 v1.2.1.A3) (.lv (Q1z v1.2.1.A0 v1.2.1.A3) λ(x14:Q00×List Q03)=> .cn (decide (40*(v1.2.2.length+x14.2.length)<=140737488355328)) (.nx ((rZ/\rZ/\rZ/\True/\True/\rE ((if 4000<if 0>steps then 0 else steps then 4000 else if 0>steps then 0 else steps):Int)/\rE ((wrap i64 (v1.1+1)):Int)/\True)/\(mE x14.1 (((Els.Nil (Els.ints u32 x14.1.Mem)\/rE (1:Nat))/\rE x14.1.Mem)) (rE ((wrap u32 (v1.2.1.A3+1)):Int)/\True/\((Els.Nil (Els.recs RK.apiEvent v1.2.1.A2)\/eqAt Nat 3 3)/\rE v1.2.1.A2)/\True))/\rE v1.2.1.B3/\(mE zM True (rE (0:Int)/\True/\True/\True))/\(True/\True)/\rE ((v1.2.2++x14.2):List (RK.T RK.apiOutput))/\True) (Sum.inl (wrap i64 (v1.1+1),{A0:=x14.1,A3:=wrap u32 (v1.2.1.A3+1),B3:=v1.2.1.B3,A2:=v1.2.1.A2},v1.2.2++x14.2)))))))))))) (.lf (Sum.inr (Sum.inr (v1.2.1,v1.2.2))))))))
def Qg1 r steps clock:=(Q6p r steps clock).m
abbrev Q9i r steps clock:=(Q6p r steps clock).p
def Qyc:LInv:={
 α:=(Int)×Q01
 F:=λst a=>([(1,(lk st 1)),(3, .ptr 0 0 0),(6, .ptr 2 0 0),(8, .ptr 3 0 0),(9, .clo 164 [.ptr 0 0 0, .ptr 3 0 0]),(29, .sl 3 (esOf st.rows (rN st 29)) false),(30,(lk st 30)),(31, .int i64 a.1)],[⟨true,96,52, .gen [[.int u32 a.2.A0.B2.X.a0, .int u32 a.2.A0.B2.X.a1, .int u32 a.2.A0.B2.X.a2, .int u32 a.2.A0.B2.X.a3, .int u32 a.2.A0.B2.X.a4, .int u32 a.2.A0.B2.X.a5, .int u32 a.2.A0.B2.X.a6, .int u32 a.2.A0.B2.X.a7, .int u32 a.2.A0.B2.X.a8, .int u32 a.2.A0.B2.X.a9, .int u32 a.2.A0.B2.X.a10, .int u32 a.2.A0.B2.X.a11, .int u32 a.2.A0.B2.X.a12, .int u32 a.2.A0.B2.X.a13, .int u32 a.2.A0.B2.X.a14, .int u32 a.2.A0.B2.X.a15, .int u32 a.2.A0.B2.Pc, .int u32 a.2.A0.B2.B6.a0, .int u32 a.2.A0.B2.B6.a1, .int u32 a.2.A0.B2.B6.a2, .int u32 a.2.A0.B2.B6.a3, .int u32 a.2.A0.B2.B6.a4, .int u32 a.2.A0.B2.B6.a5, .int u32 a.2.A0.B2.B6.a6, .int u32 a.2.A0.B2.B6.a7, .sl 1 (.ints u32 a.2.A0.Mem) false, .str a.2.A0.A6.D3, .bool a.2.A0.B0.D2, .int u32 a.2.A0.B0.C9, .bool a.2.A0.B0.D5, .int u32 a.2.A0.B1.Blocks, .int u32 a.2.A0.B1.C2, .int u32 a.2.A0.B1.Frame, .int i64 a.2.A0.B1.C1, .int i64 a.2.A0.B1.D8, .int u32 a.2.A0.B1.B7, .int u32 a.2.A0.B1.B4, .str a.2.A0.B1.C4, .int u32 a.2.A0.C5.Frame, .int u32 a.2.A0.C5.E0, .bool a.2.A0.C5.C6, .int u32 a.2.A0.C5.B9, .bool a.2.A0.C5.B8, .int u32 a.2.A0.C5.F1, .int u32 a.2.A0.A4.D0, .int u32 a.2.A0.A4.C3, .int u64 a.2.A0.A1, .bool a.2.A0.A7, .bool a.2.A0.A9, .int u32 a.2.A3, .all 1, .sl 3 (.recs RK.apiEvent a.2.A2) false]]⟩,⟨false,126,4, .recs RK.apiEntry a.2.B3⟩,⟨true,96,52, .gen [[(cT st 6 0),(cT st 6 1),(cT st 6 2),(cT st 6 3),(cT st 6 4),(cT st 6 5),(cT st 6 6),(cT st 6 7),(cT st 6 8),(cT st 6 9),(cT st 6 10),(cT st 6 11),(cT st 6 12),(cT st 6 13),(cT st 6 14),(cT st 6 15),(cT st 6 16),(cT st 6 17),(cT st 6 18),(cT st 6 19),(cT st 6 20),(cT st 6 21),(cT st 6 22),(cT st 6 23),(cT st 6 24),(cT st 6 25),(cT st 6 26),(cT st 6 27),(cT st 6 28),(cT st 6 29),(cT st 6 30),(cT st 6 31),(cT st 6 32),(cT st 6 33),(cT st 6 34),(cT st 6 35),(cT st 6 36),(cT st 6 37),(cT st 6 38),(cT st 6 39),(cT st 6 40),(cT st 6 41),(cT st 6 42),(cT st 6 43),(cT st 6 44),(cT st 6 45),(cT st 6 46),(cT st 6 47),(cT st 6 48),(cT st 6 49),(cT st 6 50),(cT st 6 51)]]⟩,⟨true,228,1, .gen [[.clo 163 [.ptr 0 0 0]]]⟩])
 a0:=λst=>((lk st 31).toInt,(⟨(mR (cT st 3) (frzI u32 st.rows (cT st 3 25))),(cT st 3 49).toInt,(Q3d RK.apiEntry st.rows (Q0t (cT st 3 50) 1000000)),(frzR RK.apiEvent st.rows (cT st 3 51))⟩:Q01))
 ex0:=λst=>[]++[(rX st 3 0),(Q0t (cT st 3 50) (st.rows.length+1)),(rX st 6 2),(rX st 8 3)]}
def Qxs:LInv:={
 α:=(Int)×Q01×(List Q03)
 F:=λst a=>([(3, .ptr 0 0 0),(6, .ptr 2 0 0),(8, .ptr 3 0 0),(9, .clo 164 [.ptr 0 0 0, .ptr 3 0 0]),(12, .all 4),(42,(lk st 42)),(43, .int i64 a.1)],[⟨true,96,52, .gen [[.int u32 a.2.1.A0.B2.X.a0, .int u32 a.2.1.A0.B2.X.a1, .int u32 a.2.1.A0.B2.X.a2, .int u32 a.2.1.A0.B2.X.a3, .int u32 a.2.1.A0.B2.X.a4, .int u32 a.2.1.A0.B2.X.a5, .int u32 a.2.1.A0.B2.X.a6, .int u32 a.2.1.A0.B2.X.a7, .int u32 a.2.1.A0.B2.X.a8, .int u32 a.2.1.A0.B2.X.a9, .int u32 a.2.1.A0.B2.X.a10, .int u32 a.2.1.A0.B2.X.a11, .int u32 a.2.1.A0.B2.X.a12, .int u32 a.2.1.A0.B2.X.a13, .int u32 a.2.1.A0.B2.X.a14, .int u32 a.2.1.A0.B2.X.a15, .int u32 a.2.1.A0.B2.Pc, .int u32 a.2.1.A0.B2.B6.a0, .int u32 a.2.1.A0.B2.B6.a1, .int u32 a.2.1.A0.B2.B6.a2, .int u32 a.2.1.A0.B2.B6.a3, .int u32 a.2.1.A0.B2.B6.a4, .int u32 a.2.1.A0.B2.B6.a5, .int u32 a.2.1.A0.B2.B6.a6, .int u32 a.2.1.A0.B2.B6.a7, .sl 1 (.ints u32 a.2.1.A0.Mem) false, .str a.2.1.A0.A6.D3, .bool a.2.1.A0.B0.D2, .int u32 a.2.1.A0.B0.C9, .bool a.2.1.A0.B0.D5, .int u32 a.2.1.A0.B1.Blocks, .int u32 a.2.1.A0.B1.C2, .int u32 a.2.1.A0.B1.Frame, .int i64 a.2.1.A0.B1.C1, .int i64 a.2.1.A0.B1.D8, .int u32 a.2.1.A0.B1.B7, .int u32 a.2.1.A0.B1.B4, .str a.2.1.A0.B1.C4, .int u32 a.2.1.A0.C5.Frame, .int u32 a.2.1.A0.C5.E0, .bool a.2.1.A0.C5.C6, .int u32 a.2.1.A0.C5.B9, .bool a.2.1.A0.C5.B8, .int u32 a.2.1.A0.C5.F1, .int u32 a.2.1.A0.A4.D0, .int u32 a.2.1.A0.A4.C3, .int u64 a.2.1.A0.A1, .bool a.2.1.A0.A7, .bool a.2.1.A0.A9, .int u32 a.2.1.A3, .all 1, .sl 3 (.recs RK.apiEvent a.2.1.A2) false]]⟩,⟨false,126,4, .recs RK.apiEntry a.2.1.B3⟩,⟨true,96,52, .gen [[(cT st 6 0),(cT st 6 1),(cT st 6 2),(cT st 6 3),(cT st 6 4),(cT st 6 5),(cT st 6 6),(cT st 6 7),(cT st 6 8),(cT st 6 9),(cT st 6 10),(cT st 6 11),(cT st 6 12),(cT st 6 13),(cT st 6 14),(cT st 6 15),(cT st 6 16),(cT st 6 17),(cT st 6 18),(cT st 6 19),(cT st 6 20),(cT st 6 21),(cT st 6 22),(cT st 6 23),(cT st 6 24),(cT st 6 25),(cT st 6 26),(cT st 6 27),(cT st 6 28),(cT st 6 29),(cT st 6 30),(cT st 6 31),(cT st 6 32),(cT st 6 33),(cT st 6 34),(cT st 6 35),(cT st 6 36),(cT st 6 37),(cT st 6 38),(cT st 6 39),(cT st 6 40),(cT st 6 41),(cT st 6 42),(cT st 6 43),(cT st 6 44),(cT st 6 45),(cT st 6 46),(cT st 6 47),(cT st 6 48),(cT st 6 49),(cT st 6 50),(cT st 6 51)]]⟩,⟨true,228,1, .gen [[.clo 163 [.ptr 0 0 0]]]⟩,⟨false,71,4, .recs RK.apiOutput a.2.2⟩])
 a0:=λst=>((lk st 43).toInt,(⟨(mR (cT st 3) (slI u32 (cT st 3 25))),(cT st 3 49).toInt,(Q3d RK.apiEntry st.rows (Q0t (cT st 3 50) 1000000)),(slR RK.apiEvent (cT st 3 51))⟩:Q01),(Q3d RK.apiOutput st.rows (rN st 12)))
 ex0:=λst=>[]++[(rX st 3 0),(Q0t (cT st 3 50) (st.rows.length+1)),(rX st 6 2),(rX st 8 3),(rX st 12 4)]}
def Qt2:List (Nat×LInv):=[(8,Qyc),(15,Qxs)]
def Z1f:Q0d:=Q0d.fz<|mkP 79 [] false [.agg Q01.sig, .one (.int .i64), .one (.int .u32)] [] (λa r=>Q9i (Q01.of (aC a 0)) (argI a 1) (argI a 2)) (λa r=>Qg1 (Q01.of (aC a 0)) (argI a 1) (argI a 2)) (λX=> .tup [.agg (Q01.cellsW (X.1) (.sl 1 (.ints .u32 X.1.A0.Mem) false) (.all 0) (.sl 3 (.recs .apiEvent X.1.A2) false)), .all 1]) (λX=>[⟨false,126,4, .recs .apiEntry (X.1).B3⟩,⟨false,71,4, .recs .apiOutput (X.2)⟩])
theorem Qx2:Q06 pG Z1f:=Zkv<|Q0p drawn Q0l (.cons Qci (.cons Q91 (.cons Qtk (.cons Qt7 (.cons Zgh (.cons Qek (.cons Qge (.cons Qkh (.nil))))))))) Tryz.func79 Tryz.call79 (λa r=>Q6p (Q01.of (aC a 0)) (argI a 1) (argI a 2)) [.sl (.ints .u32) false, .row 126 4 (.recs .apiEntry), .sl (.recs .apiEvent) false, .row 71 4 (.recs .apiOutput)] Qt2 3 (λ_ _ _=>by kernel_rfl) (λ_ _=>rfl) (λ_ _ h=>h) (λh=>by cases h)
end
noncomputable section
instance sumInhRc {α β:Type} [Inhabited β]:Inhabited (α⊕β):=⟨.inr default⟩
def Qh6(a b:List Q03)(z:(Int)):Prop:=0<=z/\z<=a.length/\a.length=b.length
def Q6d(a b:List Q03)(z:(Int)):Nat:=(a.length-z).toNat
def Q4t(a b:List Q03):Tree Bool:=
.br ((a.length:Int) !=(b.length:Int)) (.lf false) (.lp inferInstance (Q6d a b 0+1) ((nR RK.apiOutput 4 a/\nR RK.apiOutput 4 b/\rE (0:Int)/\True)/\True) 0 λ(v0:Int)=> .br (decide (v0<(a.length:Int))) (.cn (bS 4 4&&bT 0 4&&decide (0<=v0/\v0<(a.length:Int))) (.cn (bS 4 4&&bT 0 4&&decide (0<=v0/\v0<(b.length:Int))) (let E1:=a.getD v0.toNat (RK.dflt RK.apiOutput);let E2:=b.getD v0.toNat (RK.dflt RK.apiOutput); .br (!eqs [D.int i64 E1.B5,D.int u64 E1.At,D.int u32 E1.C2,D.str E1.C8] [D.int i64 E2.B5,D.int u64 E2.At,D.int u32 E2.C2,D.str E2.C8]) (.lf (Sum.inr false)) (.nx ((nR RK.apiOutput 4 a/\nR RK.apiOutput 4 b/\rE ((wrap i64 (v0+1)):Int)/\True)/\True) (Sum.inl (wrap i64 (v0+1))))))) (.lf (Sum.inr true)))
def Qco a b:=(Q4t a b).m
def Q7s(a b:List Q03):Prop:=
a.length<=1000000000000
theorem Qru(a b:List Q03)(hw:Q7s a b):(Q4t a b).p:=by
 simp only[Q7s]at hw
 unfold Tree.p Q4t
 repeat'(first|refine w_lp (inv:=Qh6 a b) (μ:=Q6d a b) ?_ (cK _) (λ_ _=> ?_)|exact trivial|refine w_br (λ_=> ?_) (λ_=> ?_)|refine w_cn ?_ ?_|refine w_an ?_ ?_|refine w_lv (λ_ _=> ?_)|refine w_nx ?_|refine w_lf ?_|refine And.intro ?_ ?_)
 all_goals((try simp only[Qh6,Q6d]at*);exact fin0)
def Qty:LInv:={
 α:=(Int)
 F:=λst a=>([(0,(lk st 0)),(1,(lk st 1)),(5, .int i64 a)],[])
 a0:=λst=>(lk st 5).toInt
 ex0:=λst=>[]++[]}
def Qpw:List (Nat×LInv):=[(4,Qty)]
def Qvr:Q0d:=mkP 70 [] true [.one (.recs .apiOutput), .one (.recs .apiOutput)] [] (λa r=>Q7s (argR .apiOutput a 0) (argR .apiOutput a 1)) (λa r=>Qco (argR .apiOutput a 0) (argR .apiOutput a 1)) (λX=> .bool X) (λX=>[])
theorem Qtj:Q06 pG Qvr:=Q0p drawn Q0l (.nil) Tryz.func70 Tryz.call70 (λa r=>Q4t (argR .apiOutput a 0) (argR .apiOutput a 1)) [] Qpw 3 (hp:=λa r h=>Qru (argR .apiOutput a 0) (argR .apiOutput a 1) h)
def Qf2(a b:List Q0f)(z:(Int)):Nat:=(a.length-z).toNat
def Q77(a b:List Q0f):Tree Bool:=
.br ((a.length:Int) !=(b.length:Int)) (.lf false) (.lp inferInstance (Qf2 a b 0+1) ((nR RK.apiEntry 4 a/\nR RK.apiEntry 4 b/\rE (0:Int)/\True)/\True) 0 λ(v0:Int)=> .br (decide (v0<(a.length:Int))) (.cn (bS 4 4&&bT 0 4&&decide (0<=v0/\v0<(a.length:Int))) (.cn (bS 4 4&&bT 0 4&&decide (0<=v0/\v0<(b.length:Int))) (let E1:=a.getD v0.toNat (RK.dflt RK.apiEntry);let E2:=b.getD v0.toNat (RK.dflt RK.apiEntry); .br (!eqs [D.int u64 E1.At,D.int i64 E1.C0.B5,D.int u32 E1.C0.N,D.str E1.C0.C8] [D.int u64 E2.At,D.int i64 E2.C0.B5,D.int u32 E2.C0.N,D.str E2.C0.C8]) (.lf (Sum.inr false)) (.nx ((nR RK.apiEntry 4 a/\nR RK.apiEntry 4 b/\rE ((wrap i64 (v0+1)):Int)/\True)/\True) (Sum.inl (wrap i64 (v0+1))))))) (.lf (Sum.inr true)))
def Qoh a b:=(Q77 a b).m
abbrev Qhw a b:=(Q77 a b).p
def Qtg:LInv:={
 α:=(Int)
 F:=λst a=>([(0,(lk st 0)),(1,(lk st 1)),(5, .int i64 a)],[])
 a0:=λst=>(lk st 5).toInt
 ex0:=λst=>[]++[]}
def Qq4:List (Nat×LInv):=[(4,Qtg)]
def Qv4:Q0d:=mT 58 [] true [.one (.recs .apiEntry), .one (.recs .apiEntry)] [] (λa r=>Q77 (argR .apiEntry a 0) (argR .apiEntry a 1)) (λX=> .bool X) (λX=>[])
theorem Qst:Q06 pG Qv4:=oT (.nil) Tryz.func58 Tryz.call58 [] Qq4 3
def Qdm(a b:Q01)(z:(Int)):Nat:=(a.A2.length-z).toNat
def Q5a(a b:Q01):Tree Bool:=
.an (Qvq a.A0 b.A0) (.lv (Zh1 a.A0 b.A0) λ(x0:Bool)=> .br (!x0) (.lf false) (.br (a.A3 !=b.A3) (.lf false) (.an (Qhw a.B3 b.B3) (.lv (Qoh a.B3 b.B3) λ(x1:Bool)=> .br (!x1) (.lf false) (.br ((a.A2.length:Int) !=(b.A2.length:Int)) (.lf false) (.lp inferInstance (Qdm a b 0+1) ((rZ/\rZ/\rE (0:Int)/\True)/\(mE a.A0 (((Els.Nil (Els.ints u32 a.A0.Mem)\/rE (1:Nat))/\rE a.A0.Mem)) (rE a.A3/\((Els.Nil (Els.recs RK.apiEntry a.B3)\/rE (4:Nat))/\rE a.B3)/\((Els.Nil (Els.recs RK.apiEvent a.A2)\/rE (3:Nat))/\rE a.A2)/\True))/\(mE b.A0 (((Els.Nil (Els.ints u32 b.A0.Mem)\/rE (1:Nat))/\rE b.A0.Mem)) (rE b.A3/\((Els.Nil (Els.recs RK.apiEntry b.B3)\/rE (4:Nat))/\rE b.B3)/\((Els.Nil (Els.recs RK.apiEvent b.A2)\/rE (3:Nat))/\rE b.A2)/\True))/\True) 0 λ(v0:Int)=> .br (decide (v0<(a.A2.length:Int))) (.cn (bS 3 3&&bT 0 3&&decide (0<=v0/\v0<(a.A2.length:Int))) (.cn (bS 3 3&&bT 0 3&&decide (0<=v0/\v0<(b.A2.length:Int))) (let E1:=a.A2.getD v0.toNat (RK.dflt RK.apiEvent);let E2:=b.A2.getD v0.toNat (RK.dflt RK.apiEvent); .br (!eqs [D.int i64 E1.B5,D.int u32 E1.N,D.str E1.C8] [D.int i64 E2.B5,D.int u32 E2.N,D.str E2.C8]) (.lf (Sum.inr false)) (.nx ((rZ/\rZ/\rE ((wrap i64 (v0+1)):Int)/\True)/\(mE a.A0 (((Els.Nil (Els.ints u32 a.A0.Mem)\/rE (1:Nat))/\rE a.A0.Mem)) (rE a.A3/\((Els.Nil (Els.recs RK.apiEntry a.B3)\/rE (4:Nat))/\rE a.B3)/\((Els.Nil (Els.recs RK.apiEvent a.A2)\/rE (3:Nat))/\rE a.A2)/\True))/\(mE b.A0 (((Els.Nil (Els.ints u32 b.A0.Mem)\/rE (1:Nat))/\rE b.A0.Mem)) (rE b.A3/\((Els.Nil (Els.recs RK.apiEntry b.B3)\/rE (4:Nat))/\rE b.B3)/\((Els.Nil (Els.recs RK.apiEvent b.A2)\/rE (3:Nat))/\rE b.A2)/\True))/\True) (Sum.inl (wrap i64 (v0+1))))))) (.lf (Sum.inr true))))))))
def Ql1 a b:=(Q5a a b).m
abbrev Qf4 a b:=(Q5a a b).p
def Qpo:LInv:={
 α:=(Int)
 F:=λst a=>([(2, .ptr 0 0 0),(3, .ptr 1 0 0),(5, .int i64 a)],[⟨true,96,52, .gen [[(cT st 2 0),(cT st 2 1),(cT st 2 2),(cT st 2 3),(cT st 2 4),(cT st 2 5),(cT st 2 6),(cT st 2 7),(cT st 2 8),(cT st 2 9),(cT st 2 10),(cT st 2 11),(cT st 2 12),(cT st 2 13),(cT st 2 14),(cT st 2 15),(cT st 2 16),(cT st 2 17),(cT st 2 18),(cT st 2 19),(cT st 2 20),(cT st 2 21),(cT st 2 22),(cT st 2 23),(cT st 2 24),(cT st 2 25),(cT st 2 26),(cT st 2 27),(cT st 2 28),(cT st 2 29),(cT st 2 30),(cT st 2 31),(cT st 2 32),(cT st 2 33),(cT st 2 34),(cT st 2 35),(cT st 2 36),(cT st 2 37),(cT st 2 38),(cT st 2 39),(cT st 2 40),(cT st 2 41),(cT st 2 42),(cT st 2 43),(cT st 2 44),(cT st 2 45),(cT st 2 46),(cT st 2 47),(cT st 2 48),(cT st 2 49),(cT st 2 50),(cT st 2 51)]]⟩,⟨true,96,52, .gen [[(cT st 3 0),(cT st 3 1),(cT st 3 2),(cT st 3 3),(cT st 3 4),(cT st 3 5),(cT st 3 6),(cT st 3 7),(cT st 3 8),(cT st 3 9),(cT st 3 10),(cT st 3 11),(cT st 3 12),(cT st 3 13),(cT st 3 14),(cT st 3 15),(cT st 3 16),(cT st 3 17),(cT st 3 18),(cT st 3 19),(cT st 3 20),(cT st 3 21),(cT st 3 22),(cT st 3 23),(cT st 3 24),(cT st 3 25),(cT st 3 26),(cT st 3 27),(cT st 3 28),(cT st 3 29),(cT st 3 30),(cT st 3 31),(cT st 3 32),(cT st 3 33),(cT st 3 34),(cT st 3 35),(cT st 3 36),(cT st 3 37),(cT st 3 38),(cT st 3 39),(cT st 3 40),(cT st 3 41),(cT st 3 42),(cT st 3 43),(cT st 3 44),(cT st 3 45),(cT st 3 46),(cT st 3 47),(cT st 3 48),(cT st 3 49),(cT st 3 50),(cT st 3 51)]]⟩])
 a0:=λst=>(lk st 5).toInt
 ex0:=λst=>[]++[(rX st 2 0),(rX st 3 1)]}
def Qn7:List (Nat×LInv):=[(4,Qpo)]
def Qrw:Q0d:=mT 73 [] true [.agg Q01.sig, .agg Q01.sig] [] (λa r=>Q5a (Q01.of (aC a 0)) (Q01.of (aC a 1))) (λX=> .bool X) (λX=>[])
theorem Qqh:Q06 pG Qrw:=oT (.cons Zes (.cons Qst (.nil))) Tryz.func73 Tryz.call73 [] Qn7 3
end
noncomputable section
def Q5x(p:Q02):Tree Q02:=
.an (Q0a p.A0.Mem) (.lv (Q04 p.A0.Mem) λ(x0:List Int)=> .an (Q0y p.B3) (.lv (Q13 p.B3) λ(x1:List Q0f)=> .lf ({A0:={B2:=p.A0.B2,Mem:=x0,A6:=p.A0.A6,B0:=p.A0.B0,B1:=p.A0.B1,C5:=p.A0.C5,A4:=p.A0.A4,A1:=p.A0.A1,A7:=p.A0.A7,A9:=p.A0.A9},B3:=x1,C7:=p.C7,A3:=p.A3})))
def Qi8 p:=(Q5x p).m
abbrev Q7y p:=(Q5x p).p
def Z3c:Q0d:=mT 149 [] true [.agg Q02.sig] [] (λa r=>Q5x (Q02.of (aC a 0))) (λX=> .agg (Q02.cellsW X (.all 0) (.sl 4 (.recs .apiEntry X.B3) true))) (λX=>[⟨false,25,1, .ints .u32 X.A0.Mem⟩])
theorem Qcj:Q06 pG Z3c:=oT (.cons Q0x (.cons Q6b (.nil))) Tryz.func149 Tryz.call149 [.row 25 1 (.ints .u32), .sl (.recs .apiEntry) true] [] 2
def Q9s(m:Q00):Tree Q02:=
.an (Q7y {A0:=m,B3:=[],C7:=m.A1,A3:=0}) (.lv (Qi8 {A0:=m,B3:=[],C7:=m.A1,A3:=0}) λ(x0:Q02)=> .lf x0)
def Qy3 m:=(Q9s m).m
abbrev Qg5 m:=(Q9s m).p
def Zjb:Q0d:=mT 74 [] true [.agg Q00.sig] [] (λa r=>Q9s (Q00.of (aC a 0))) (λX=> .agg (Q02.cellsW X (.all 0) (.sl 4 (.recs .apiEntry X.B3) true))) (λX=>[⟨false,25,1, .ints .u32 X.A0.Mem⟩])
theorem Qvz:Q06 pG Zjb:=oT (.cons Qcj (.nil)) Tryz.func74 Tryz.call74 [.row 25 1 (.ints .u32), .sl (.recs .apiEntry) true] [] 2
def Qzw(p:Q02):Tree Int:=
.br (decide (p.A0.A1>p.C7)) (.lf 0) (.lf (wrap u64 (p.C7-p.A0.A1)))
def Qy1 p:=(Qzw p).m
def Zjd:Q0d:=mS 66 [] true [.agg Q02.sig] [] (λa r=>Qzw (Q02.of (aC a 0))) (λX=> .int .u64 X) (λX=>[])
theorem Zcu:Q06 pG Zjd:=oS (.nil) Tryz.func66 Tryz.call66 [] [] 2
def Q7i(p:Q02):Tree (Int×Bool×Bool):=
.br (decide ((p.B3.length:Int)>(0:Int))) (.cn (bS 4 4&&bT 0 4&&decide ((0:Int)<=(0:Int)/\0<(p.B3.length:Int))) (let E1:=p.B3.getD (dC 0) (RK.dflt RK.apiEntry); .br (E1.C0.B5==1) (.an (Q1r p.A0) (.lv (Q1y p.A0) λ(x0:Bool)=> .br (!x0) (.lf (0,false,!decide (E1.At<=p.A0.A1))) (.br (decide (E1.At<=p.A0.A1)) (.lf (E1.C0.N,true,E1.At==p.A0.A1)) (.lf (E1.C0.N,true,false))))) (.an (Q1r p.A0) (.lv (Q1y p.A0) λ(x1:Bool)=> .br (!x1) (.lf (0,false,true)) (.lf (E1.C0.N,true,false)))))) (.an (Q1r p.A0) (.lv (Q1y p.A0) λ(x2:Bool)=> .br (!x2) (.lf (0,false,true)) (.lf (0,true,false))))
def Qzi p:=(Q7i p).m
abbrev Qhi p:=(Q7i p).p
def Z7f:Q0d:=mT 157 [] true [.agg Q02.sig] [] (λa r=>Q7i (Q02.of (aC a 0))) (λX=> .tup [.int .u32 (X.1), .bool (X.2.1), .bool (X.2.2)]) (λX=>[])
theorem Qpv:Q06 pG Z7f:=oT (.cons Qge (.nil)) Tryz.func157 Tryz.call157 [] [] 2
def Qjb(p:Q02)(z:(Int)×Q00):Nat:=(p.B3.length-z.1).toNat
def Q6(p:Q02):Tree (Q01×Bool):=
.an (Q3o p.A0) (.lv (Q19 p.A0) λ(x0:Bool)=>let T1:Tree ((Q01×Bool)):= .lf ({A0:={B2:={X:={a0:=0,a1:=0,a2:=0,a3:=0,a4:=0,a5:=0,a6:=0,a7:=0,a8:=0,a9:=0,a10:=0,a11:=0,a12:=0,a13:=0,a14:=0,a15:=0},Pc:=0,B6:={a0:=0,a1:=0,a2:=0,a3:=0,a4:=0,a5:=0,a6:=0,a7:=0}},Mem:=[],A6:={D3:=[]},B0:={D2:=false,C9:=0,D5:=false},B1:={Blocks:=0,C2:=0,Frame:=0,C1:=0,D8:=0,B7:=0,B4:=0,C4:=[]},C5:={Frame:=0,E0:=0,C6:=false,B9:=0,B8:=false,F1:=0},A4:={D0:=0,C3:=0},A1:=0,A7:=false,A9:=false},A3:=0,B3:=[],A2:=[]},false); .br (!x0) T1 (.br (p.A0.A1 !=p.C7) T1 (.lp inferInstance (Qjb p (0,p.A0)+1) ((rZ/\rZ/\rZ/\((Els.Nil (Els.recs RK.apiEntry p.B3)\/rE (4:Nat))/\rE p.B3)/\rE ((p.B3.length:Int):Int)/\rE (0:Int)/\True)/\(mE p.A0 (((Els.Nil (Els.ints u32 p.A0.Mem)\/rE (1:Nat))/\rE p.A0.Mem)) (((Els.Nil (Els.recs RK.apiEntry p.B3)\/rE (4:Nat))/\rE p.B3)/\rE p.C7/\rE p.A3/\True))/\(mE zM True (rE (0:Int)/\True/\True/\True))/\(mE p.A0 (((Els.Nil (Els.ints u32 p.A0.Mem)\/rE (1:Nat))/\rE p.A0.Mem)) True)/\True) (0,p.A0) λ(v0:Int×Q00)=> .br (decide (v0.1<(p.B3.length:Int))) (.cn (bS 4 4&&bT 0 4&&decide (0<=v0.1/\v0.1<(p.B3.length:Int))) (let E2:=p.B3.getD v0.1.toNat (RK.dflt RK.apiEntry); .an (Q81 v0.2 E2.C0) (.lv (Q5f v0.2 E2.C0) λ(x1:Q00×Bool)=> .nx ((rZ/\rZ/\rZ/\((Els.Nil (Els.recs RK.apiEntry p.B3)\/rE (4:Nat))/\rE p.B3)/\rE ((p.B3.length:Int):Int)/\rE ((wrap i64 (v0.1+1)):Int)/\True)/\(mE p.A0 (((Els.Nil (Els.ints u32 p.A0.Mem)\/rE (1:Nat))/\rE p.A0.Mem)) (((Els.Nil (Els.recs RK.apiEntry p.B3)\/rE (4:Nat))/\rE p.B3)/\rE p.C7/\rE p.A3/\True))/\(mE zM True (rE (0:Int)/\True/\True/\True))/\(mE x1.1 (rE x1.1.Mem) True)/\True) (Sum.inl (wrap i64 (v0.1+1),x1.1))))) (.an (Qln v0.2) (.lv (Z95 v0.2) λ(x2:Q01)=> .lf (Sum.inr ({A0:=x2.A0,A3:=p.A3,B3:=x2.B3,A2:=x2.A2},true)))))))
def Qi7 p:=(Q6 p).m
abbrev Q89 p:=(Q6 p).p
def Z15:LInv:={
 α:=(Int)×Q00
 F:=λst a=>([(1, .ptr 0 0 0),(2, .ptr 1 0 0),(4, .ptr 2 0 0),(24,(lk st 24)),(25,(lk st 25)),(26, .int i64 a.1)],[⟨true,106,52, .gen [[(cT st 1 0),(cT st 1 1),(cT st 1 2),(cT st 1 3),(cT st 1 4),(cT st 1 5),(cT st 1 6),(cT st 1 7),(cT st 1 8),(cT st 1 9),(cT st 1 10),(cT st 1 11),(cT st 1 12),(cT st 1 13),(cT st 1 14),(cT st 1 15),(cT st 1 16),(cT st 1 17),(cT st 1 18),(cT st 1 19),(cT st 1 20),(cT st 1 21),(cT st 1 22),(cT st 1 23),(cT st 1 24),(cT st 1 25),(cT st 1 26),(cT st 1 27),(cT st 1 28),(cT st 1 29),(cT st 1 30),(cT st 1 31),(cT st 1 32),(cT st 1 33),(cT st 1 34),(cT st 1 35),(cT st 1 36),(cT st 1 37),(cT st 1 38),(cT st 1 39),(cT st 1 40),(cT st 1 41),(cT st 1 42),(cT st 1 43),(cT st 1 44),(cT st 1 45),(cT st 1 46),(cT st 1 47),(cT st 1 48),(cT st 1 49),(cT st 1 50),(cT st 1 51)]]⟩,⟨true,96,52, .gen [[(cT st 2 0),(cT st 2 1),(cT st 2 2),(cT st 2 3),(cT st 2 4),(cT st 2 5),(cT st 2 6),(cT st 2 7),(cT st 2 8),(cT st 2 9),(cT st 2 10),(cT st 2 11),(cT st 2 12),(cT st 2 13),(cT st 2 14),(cT st 2 15),(cT st 2 16),(cT st 2 17),(cT st 2 18),(cT st 2 19),(cT st 2 20),(cT st 2 21),(cT st 2 22),(cT st 2 23),(cT st 2 24),(cT st 2 25),(cT st 2 26),(cT st 2 27),(cT st 2 28),(cT st 2 29),(cT st 2 30),(cT st 2 31),(cT st 2 32),(cT st 2 33),(cT st 2 34),(cT st 2 35),(cT st 2 36),(cT st 2 37),(cT st 2 38),(cT st 2 39),(cT st 2 40),(cT st 2 41),(cT st 2 42),(cT st 2 43),(cT st 2 44),(cT st 2 45),(cT st 2 46),(cT st 2 47),(cT st 2 48),(cT st 2 49),(cT st 2 50),(cT st 2 51)]]⟩,⟨true,43,49, .gen [mD a.2 (.sl 1 (.ints u32 a.2.Mem) false)]⟩])
 a0:=λst=>((lk st 26).toInt,(mR (cT st 4) (frzI u32 st.rows (cT st 4 25))))
 ex0:=λst=>[]++[(rX st 1 0),(rX st 2 1),(rX st 4 2)]}
def Qv9:List (Nat×LInv):=[(5,Z15)]
def Z5q:Q0d:=Q0d.fz<|mkP 71 [] true [.agg Q02.sig] [] (λa r=>Q89 (Q02.of (aC a 0))) (λa r=>Qi7 (Q02.of (aC a 0))) (λX=> .tup [.agg (Q01.cellsW (X.1) (.all 0) (.all 1) (.all 2)), .bool (X.2)]) (λX=>[⟨false,25,1, .ints .u32 (X.1).A0.Mem⟩,⟨false,126,4, .recs .apiEntry (X.1).B3⟩,⟨false,66,3, .recs .apiEvent (X.1).A2⟩])
theorem Qoo:Q06 pG Z5q:=Zkv<|Q0p drawn Q0l (.cons Q91 (.cons Qck (.cons Zc3 (.nil)))) Tryz.func71 Tryz.call71 (λa r=>Q6 (Q02.of (aC a 0))) [.row 25 1 (.ints .u32), .row 126 4 (.recs .apiEntry), .row 66 3 (.recs .apiEvent)] Qv9 3
end
noncomputable section
def Qmi(script:List Q0f)(z:(Int)):Prop:=1<=z/\(z<=script.length\/z=1)
def Q4v(script:List Q0f)(z:(Int)):Nat:=(script.length-z).toNat
def Q9b(script:List Q0f):Tree Bool:=
.lp inferInstance (Q4v script 1+1) ((nR RK.apiEntry 4 script/\rE (1:Int)/\True)/\True) 1 λ(v0:Int)=> .br (decide (v0<(script.length:Int))) (.cn (bS 4 4&&bT 0 4&&decide (0<=wrap i64 (v0-1)/\wrap i64 (v0-1)<(script.length:Int))) (.cn (bS 4 4&&bT 0 4&&decide (0<=v0/\v0<(script.length:Int))) (let E2:=script.getD (dC (wrap i64 (v0-1))) (RK.dflt RK.apiEntry);let E3:=script.getD v0.toNat (RK.dflt RK.apiEntry); .br (decide (E3.At<E2.At)) (.lf (Sum.inr false)) (let T1:Tree ((Int)⊕(Bool)):= .nx ((nR RK.apiEntry 4 script/\rE ((wrap i64 (v0+1)):Int)/\True)/\True) (Sum.inl (wrap i64 (v0+1))); .br (E3.At==E2.At) (.br (E2.C0.B5==1) (.lf (Sum.inr false)) T1) T1)))) (.lf (Sum.inr true))
def Qdj script:=(Q9b script).m
def Q52(script:List Q0f):Prop:=
script.length<=1000000000000
theorem Z1s(script:List Q0f)(hw:Q52 script):(Q9b script).p:=by
 simp only[Q52]at hw
 unfold Tree.p Q9b
 repeat'(first|refine w_lp (inv:=Qmi script) (μ:=Q4v script) ?_ (cK _) (λ_ _=> ?_)|exact trivial|refine w_br (λ_=> ?_) (λ_=> ?_)|refine w_cn ?_ ?_|refine w_an ?_ ?_|refine w_lv (λ_ _=> ?_)|refine w_nx ?_|refine w_lf ?_|refine And.intro ?_ ?_)
 all_goals((try simp only[Qmi,Q4v]at*);exact fin0)
def Z3e:LInv:={
 α:=(Int)
 F:=λst a=>([(0,(lk st 0)),(3, .int i64 a)],[])
 a0:=λst=>(lk st 3).toInt
 ex0:=λst=>[]++[]}
def Qxv:List (Nat×LInv):=[(2,Z3e)]
def Z86:Q0d:=mkP 152 [] true [.one (.recs .apiEntry)] [] (λa r=>Q52 (argR .apiEntry a 0)) (λa r=>Qdj (argR .apiEntry a 0)) (λX=> .bool X) (λX=>[])
theorem Z63:Q06 pG Z86:=Q0p drawn Q0l (.nil) Tryz.func152 Tryz.call152 (λa r=>Q9b (argR .apiEntry a 0)) [] Qxv 3 (hp:=λa r h=>Z1s (argR .apiEntry a 0) h)
def Q2n(s:List Q0f)(n:Int):(List Q0f):=
[]
def Q1h(s:List Q0f)(n:Int):Prop:=
0<=n/\n<=1000000000000
def Q5p(s:List Q0f)(n:Int):List D:=[.nils, .int .i64 n]
def Q5o(s:List Q0f)(n:Int):List Row:=[]
def Q32(X:List Q0f):D:= .all 0
def Q31(X:List Q0f):List Row:=[⟨false,126,4, .recs .apiEntry X⟩]
def Q66:List PT:=[.one .nil0, .one (.int .i64)]
def Q5l:List RT:=[]
def Qd7(args:List D)(rows:List Row):(List Q0f):=Q2n (argR .apiEntry args 0) (argI args 1)
def Qd9(args:List D)(rows:List Row):Prop:=Q1h (argR .apiEntry args 0) (argI args 1)
def Qdw:Q0d:=mkP 215 [true,false] true Q66 Q5l Qd9 Qd7 Q32 Q31
theorem Qbg(s:List Q0f)(n:Int)(hw:Q1h s n):Q4r pG 215 (Q5p s n) (Q5o s n) (Q32 (Q2n s n)) (Q31 (Q2n s n)):=by
 exact qG Tryz.lays8 Q0l rfl rfl (by decide) (by decide) hw.1 (by have:=hw.2;omega)
set_option maxRecDepth 100000 in
theorem Qbv(args:List D)(rows:List Row):Qgz Q66 args 0=Q5p (argR .apiEntry args 0) (argI args 1):=by kernel_rfl
set_option maxRecDepth 100000 in
theorem Qbt(args:List D)(rows:List Row):Q6g Q5l rows 0=Q5o (argR .apiEntry args 0) (argI args 1):=by kernel_rfl
set_option maxRecDepth 100000 in
theorem Qdv(X:List Q0f):(ffB (Q32 X)&&ffBR (Q31 X))=true:=by kernel_rfl
theorem Qdu:Q06 pG Qdw:=Z03 Tryz.call215 (λargs rows hp=>by rw[Qbv args rows,Qbt args rows];exact Qbg (argR .apiEntry args 0) (argI args 1) hp) (λ_ X=>Qdv X)
def Q4f(slices:(List (List Q0f)))(z:(Int)×(Int)):Nat:=(slices.length-z.2).toNat
def Q4g(slices:(List (List Q0f)))(z:(Int)×(List Q0f)):Nat:=(slices.length-z.1).toNat
def Q14(slices:(List (List Q0f))):Tree (List Q0f):=
.lp inferInstance (Q4f slices (0,0)+1) ((nR RK.lapiEntry 1 slices/\rE (0:Int)/\nR RK.lapiEntry 1 slices/\rE ((slices.length:Int):Int)/\rE (0:Int)/\True)/\True) (0,0) λ(v0:Int×Int)=> .br (decide (v0.2<(slices.length:Int))) (.cn (bS 1 1&&bT 0 1&&decide (0<=v0.2/\v0.2<(slices.length:Int))) (let E1:=(↑(dH (slices.getD v0.2.toNat (RK.dflt RK.lapiEntry))):Int); .fl (decide (wrap i64 (v0.1+E1)<0)) (.nx ((nR RK.lapiEntry 1 slices/\rE ((wrap i64 (v0.1+(↑(dH (slices.getD v0.2.toNat (RK.dflt RK.lapiEntry))):Int))):Int)/\nR RK.lapiEntry 1 slices/\rE ((slices.length:Int):Int)/\rE ((wrap i64 (v0.2+1)):Int)/\True)/\True) (Sum.inl (wrap i64 (v0.1+E1),wrap i64 (v0.2+1)))))) (.an (Q1h [] v0.1) (.lv (Q2n [] v0.1) λ(x0:List Q0f)=> .lp inferInstance (Q4g slices (0,x0)+1) ((True/\nR RK.lapiEntry 1 slices/\rE ((slices.length:Int):Int)/\rE (0:Int)/\True)/\rE (x0:List (RK.T RK.apiEntry))/\True) (0,x0) λ(v1:Int×List Q0f)=> .br (decide (v1.1<(slices.length:Int))) (.cn (bS 1 1&&bT 0 1&&decide (0<=v1.1/\v1.1<(slices.length:Int))) (.cn (decide (40*(v1.2.length+dH (slices.getD v1.1.toNat (RK.dflt RK.lapiEntry)))<=140737488355328)) (.nx ((True/\nR RK.lapiEntry 1 slices/\rE ((slices.length:Int):Int)/\rE ((wrap i64 (v1.1+1)):Int)/\True)/\rE ((v1.2++slices.getD v1.1.toNat (RK.dflt RK.lapiEntry)):List (RK.T RK.apiEntry))/\True) (Sum.inl (wrap i64 (v1.1+1),v1.2++slices.getD v1.1.toNat (RK.dflt RK.lapiEntry)))))) (.lf (Sum.inr (Sum.inr v1.2)))))
def Q78 slices:=(Q14 slices).m
abbrev Q2t slices:=(Q14 slices).p
def Qc3:LInv:={
 α:=(Int)×(Int)
 F:=λst a=>([(0,(lk st 0)),(3, .int i64 a.1),(9,(lk st 9)),(10,(lk st 10)),(11, .int i64 a.2)],[])
 a0:=λst=>((lk st 3).toInt,(lk st 11).toInt)
 ex0:=λst=>[]++[]}
def Qcd:LInv:={
 α:=(Int)×(List Q0f)
 F:=λst a=>([(6, .all 0),(25,(lk st 25)),(26,(lk st 26)),(27, .int i64 a.1)],[⟨false,126,4, .recs RK.apiEntry a.2⟩])
 a0:=λst=>((lk st 27).toInt,(Q3d RK.apiEntry st.rows (rN st 6)))
 ex0:=λst=>[]++[(rX st 6 0)]}
def Qb0:List (Nat×LInv):=[(3,Qc3),(11,Qcd)]
def Qdb:Q0d:=mT 151 [] true [.one (.recs .lapiEntry)] [] (λa r=>Q14 (argR .lapiEntry a 0)) (λX=> .all 0) (λX=>[⟨false,126,4, .recs .apiEntry X⟩])
theorem Qc7:Q06 pG Qdb:=oT (.cons Qdu (.nil)) Tryz.func151 Tryz.call151 [.row 126 4 (.recs .apiEntry)] Qb0 3
def Qb1(p:Q02)(l:List Q0f)(known:Int)(z:(Int)):Nat:=(l.length-z).toNat
def Q6s(p:Q02)(l:List Q0f)(known:Int):Tree (Q02×Bool):=
.an (Q7y p) (.lv (Qi8 p) λ(x0:Q02)=> .br (decide (known<x0.C7)) (.lf (x0,false)) (.br (decide ((l.length:Int)>(400:Int))) (.lf (x0,false)) (.br (decide (wrap i64 ((x0.B3.length:Int)+(l.length:Int))>4096)) (.lf (x0,false)) (.lp inferInstance (Qb1 p l known 0+1) ((nR RK.apiEntry 4 l/\rE (known:Int)/\rZ/\rZ/\nR RK.apiEntry 4 l/\rE ((l.length:Int):Int)/\rE (0:Int)/\True)/\(mE x0.A0 True (((Els.Nil (Els.recs RK.apiEntry x0.B3)\/rE (4:Nat))/\rE x0.B3)/\rE x0.C7/\rE x0.A3/\True))/\rE x0.A0.Mem/\(mE zM True (True/\rE (0:Int)/\rE (0:Int)/\True))/\True) 0 λ(v0:Int)=> .br (decide (v0<(l.length:Int))) (.cn (bS 4 4&&bT 0 4&&decide (0<=v0/\v0<(l.length:Int))) (let E2:=l.getD v0.toNat (RK.dflt RK.apiEntry); .br (decide (E2.At<x0.C7)) (.lf (Sum.inr (x0,false))) (.br (decide (E2.At>known)) (.lf (Sum.inr (x0,false))) (let T1:Tree ((Int)⊕((Q02×Bool))):= .lv (Qbw E2.C0) λ(x1:Bool)=> .br (!x1) (.lf (Sum.inr (x0,false))) (.nx ((nR RK.apiEntry 4 l/\rE (known:Int)/\rZ/\rZ/\nR RK.apiEntry 4 l/\rE ((l.length:Int):Int)/\rE ((wrap i64 (v0+1)):Int)/\True)/\(mE x0.A0 True (((Els.Nil (Els.recs RK.apiEntry x0.B3)\/rE (4:Nat))/\rE x0.B3)/\rE x0.C7/\rE x0.A3/\True))/\rE x0.A0.Mem/\(mE zM True (True/\rE (0:Int)/\rE (0:Int)/\True))/\True) (Sum.inl (wrap i64 (v0+1)))); .br (E2.At==known) (.br (E2.C0.B5==1) (.lf (Sum.inr (x0,false))) T1) T1)))) (.an (Q2t [x0.B3,l]) (.lv (Q78 [x0.B3,l]) λ(x3:List Q0f)=> .an (Q52 x3) (.lv (Qdj x3) λ(x4:Bool)=> .br (!x4) (.lf (Sum.inr (x0,false))) (.lf (Sum.inr ({A0:=x0.A0,B3:=x3,C7:=known,A3:=x0.A3},true))))))))))
def Qno p l known:=(Q6s p l known).m
abbrev Qeu p l known:=(Q6s p l known).p
def Z7l:LInv:={
 α:=(Int)
 F:=λst a=>([(1,(lk st 1)),(2,(lk st 2)),(3, .ptr 0 0 0),(6, .ptr 2 0 0),(32,(lk st 32)),(33,(lk st 33)),(34, .int i64 a)],[⟨true,106,52, .gen [[(cT st 3 0),(cT st 3 1),(cT st 3 2),(cT st 3 3),(cT st 3 4),(cT st 3 5),(cT st 3 6),(cT st 3 7),(cT st 3 8),(cT st 3 9),(cT st 3 10),(cT st 3 11),(cT st 3 12),(cT st 3 13),(cT st 3 14),(cT st 3 15),(cT st 3 16),(cT st 3 17),(cT st 3 18),(cT st 3 19),(cT st 3 20),(cT st 3 21),(cT st 3 22),(cT st 3 23),(cT st 3 24), .all 1,(cT st 3 26),(cT st 3 27),(cT st 3 28),(cT st 3 29),(cT st 3 30),(cT st 3 31),(cT st 3 32),(cT st 3 33),(cT st 3 34),(cT st 3 35),(cT st 3 36),(cT st 3 37),(cT st 3 38),(cT st 3 39),(cT st 3 40),(cT st 3 41),(cT st 3 42),(cT st 3 43),(cT st 3 44),(cT st 3 45),(cT st 3 46),(cT st 3 47),(cT st 3 48),(cT st 3 49),(cT st 3 50),(cT st 3 51)]]⟩,⟨false,25,1,esOf st.rows (Q0t (cT st 3 25) 1000000)⟩,⟨true,106,52, .gen [[(cT st 6 0),(cT st 6 1),(cT st 6 2),(cT st 6 3),(cT st 6 4),(cT st 6 5),(cT st 6 6),(cT st 6 7),(cT st 6 8),(cT st 6 9),(cT st 6 10),(cT st 6 11),(cT st 6 12),(cT st 6 13),(cT st 6 14),(cT st 6 15),(cT st 6 16),(cT st 6 17),(cT st 6 18),(cT st 6 19),(cT st 6 20),(cT st 6 21),(cT st 6 22),(cT st 6 23),(cT st 6 24),(cT st 6 25),(cT st 6 26),(cT st 6 27),(cT st 6 28),(cT st 6 29),(cT st 6 30),(cT st 6 31),(cT st 6 32),(cT st 6 33),(cT st 6 34),(cT st 6 35),(cT st 6 36),(cT st 6 37),(cT st 6 38),(cT st 6 39),(cT st 6 40),(cT st 6 41),(cT st 6 42),(cT st 6 43),(cT st 6 44),(cT st 6 45),(cT st 6 46),(cT st 6 47),(cT st 6 48),(cT st 6 49),(cT st 6 50),(cT st 6 51)]]⟩])
 a0:=λst=>(lk st 34).toInt
 ex0:=λst=>[]++[(rX st 3 0),(Q0t (cT st 3 25) (st.rows.length+1)),(rX st 6 2)]}
def Z1x:List (Nat×LInv):=[(5,Z7l)]
def Zbo:Q0d:=mT 63 [] true [.agg Q02.sig, .one (.recs .apiEntry), .one (.int .u64)] [] (λa r=>Q6s (Q02.of (aC a 0)) (argR .apiEntry a 1) (argI a 2)) (λX=> .tup [.agg (Q02.cellsW (X.1) (.all 0) (.sl 4 (.recs .apiEntry X.1.B3) true)), .bool (X.2)]) (λX=>[⟨false,25,1, .ints .u32 (X.1).A0.Mem⟩])
theorem Qs3:Q06 pG Zbo:=oT (.cons Qcj (.cons Qm5 (.cons Qc7 (.cons Z63 (.nil))))) Tryz.func63 Tryz.call63 [.row 25 1 (.ints .u32), .sl (.recs .apiEntry) true] Z1x 3
end
noncomputable section
def Qgx:Q0d:=⟨156,[true],false,λargs rows=>match args,rows with|[.ptr r i o, .int .u64 n],[⟨true,ty,sz, .gen [e]⟩]=>(match bS r 0&&(bS i 0&&(bS o 49&&e.all D.stayB)) with|true=> .abs Unit () (λ_=> .clo 216 [.ptr 1 0 0, .ptr 2 0 0]) (λ_=>[⟨true,ty,sz, .gen [e]⟩,⟨true,219,1, .gen [[.ptr 0 0 49]]⟩,⟨true,41,1, .gen [[.int .u64 n]]⟩])|false=> .no)|_,_=> .no,none,false⟩
theorem Qv3:Q06 pG Qgx:=by
  refine⟨λ_=>Tryz.call156,λ_=>by decide,λ_ args rows r r' hm=> ?_,λ_ args rows p r r' hm=> ?_,λ_ args rows α v res rows' hm=> ?_,λ_ args rows p α v res rows' hm=> ?_,λk hk=>(by cases hk),λk hk=>(by cases hk)⟩
  . simp only[Qgx]at hm;split at hm<;>(try split at hm)<;>cases hm
  . simp only[Qgx]at hm;split at hm<;>(try split at hm)<;>cases hm
  . simp only[Qgx]at hm
    split at hm
    . rename_i r i o n ty sz e
      split at hm
      . rename_i hc
        cases hm
        simp only[aE]at hc
        obtain⟨h1,h2,h3,he⟩:=hc
        have h1:=bE h1;have h2:=bE h2;have h3:=bE h3
        subst h1;subst h2;subst h3
        refine⟨?_,λh=>by cases h⟩
        have e1: ∀Q0:D->GD.Rows->Prop,(fnVC tab [] (λ_ _ _=>False) Tryz.f156 [.ptr 0 0 49, .int .u64 n] [⟨true,ty,sz, .gen [e]⟩] λd R=>Q0 d R)=Q0 (.clo 216 [.ptr 1 0 0, .ptr 2 0 0]) [some ⟨true,ty,sz, .gen [e]⟩,some ⟨true,219,1, .gen [[.ptr 0 0 49]]⟩,some ⟨true,41,1, .gen [[.int .u64 n]]⟩]:=λ_=>by kernel_rfl
        refine v7 drawn Q0l Q7g.nil Tryz.func156 (rf:=none) (L:=λ_ _ _=>False) (λ_ _=>trivial) (λ_ _ _ _ h=>h.elim) (Q0:=λd R=>d= .clo 216 [.ptr 1 0 0, .ptr 2 0 0]/\R=[some ⟨true,ty,sz, .gen [e]⟩,some ⟨true,219,1, .gen [[.ptr 0 0 49]]⟩,some ⟨true,41,1, .gen [[.int .u64 n]]⟩]) (λd R h=> ?_) ((e1 _).symm▸⟨rfl,rfl⟩)
        obtain⟨rfl,rfl⟩:=h
        refine⟨[0,1,2],rfl,?_,?_⟩
        . simp [retD,retV,retC,cand,capX,inEx]
        . simp [Q3u,Z62,retC,cand,inEx,Zah he]
      . cases hm
    . cases hm
  . simp only[Qgx]at hm;split at hm<;>(try split at hm)<;>cases hm
def Q4n(p0:Q07)(fr0:Q02):Tree (Bool×Q02):=
.an (Q81 fr0.A0 p0) (.lv (Q5f fr0.A0 p0) λ(x0:Q00×Bool)=> .lf (true,{A0:=x0.1,B3:=fr0.B3,C7:=fr0.C7,A3:=fr0.A3}))
def Qk0 p0 fr0:=(Q4n p0 fr0).m
abbrev Qez p0 fr0:=(Q4n p0 fr0).p
def Qqd:Q0d:=mkKP 1 1000000068 [false,true] [.agg Q07.sig, .ptr 0] [.box 106 52 Q02.sig] (λa r=>Qez (Q07.of (aC a 0)) (Q02.of (r.getD 0 default).cs)) (λa r=>Qk0 (Q07.of (aC a 0)) (Q02.of (r.getD 0 default).cs)) (λX=> .bool (X.1)) (λX=>[⟨true,106,52, .gen [(Q02.cellsW (X.2) (.all 1) (.sl 4 (.recs .apiEntry X.2.B3) false))]⟩,⟨false,25,1, .ints .u32 (X.2).A0.Mem⟩])
theorem Qoz:Q06 pG Qqd:=Znj none (λ_ _=>trivial) drawn Q0l (.cons Qcj (.cons Q91 (.cons Qv3 (.cons Qck (.cons Qek (.cons Qpv (.cons Qkh (.nil)))))))) (Tryz.func1000000068 ⟨λ_ _=>by kernel_rfl,rfl⟩) (λh=>absurd h (by decide)) (λa r=>Q4n (Q07.of (aC a 0)) (Q02.of (r.getD 0 default).cs)) [.row 25 1 (.ints .u32), .sl (.recs .apiEntry) false] [] 2 (λ_ _ _=>by kernel_rfl) (λ_ _=>rfl) (λ_ _ h=>h)
def Qlg(p:Q02)(fr1:Int)(z:Q02):Nat:=z.B3.length
def Q7k(p:Q02)(fr1:Int):Tree (Q02×Int):=
.lp inferInstance (Qlg p fr1 p+1) ((True/\rZ/\rZ/\True)/\(mE p.A0 (((Els.Nil (Els.ints u32 p.A0.Mem)\/rE (1:Nat))/\rE p.A0.Mem)) (((Els.Nil (Els.recs RK.apiEntry p.B3)\/rE (4:Nat))/\rE p.B3)/\rE p.C7/\rE p.A3/\True))/\(True/\True)/\(rE (fr1:Int)/\True)/\True) p λ(v0:Q02)=> .br (decide ((v0.B3.length:Int)>(0:Int))) (let E1:=bS 4 4&&bT 0 4&&decide ((0:Int)<=(0:Int)/\0<(v0.B3.length:Int)); .cn E1 (let E2:=v0.B3.getD (dC 0) (RK.dflt RK.apiEntry); .br (decide (E2.At<=fr1)) (.cn E1 (.br (E2.C0.B5 !=1) (.cn E1 (.cn (bS 4 4&&bT 0 4&&decide ((0:Int)<=(1:Int)/\1<=(v0.B3.length:Int)/\(v0.B3.length:Int)<=(v0.B3.length:Int))) (let E3:=dC (v0.B3.length:Int)-dC 1; .an (Qez E2.C0 {A0:=v0.A0,B3:=cY E3 (cZ (dC 1) v0.B3),C7:=v0.C7,A3:=v0.A3}) (.lv (Qk0 E2.C0 {A0:=v0.A0,B3:=cY E3 (cZ (dC 1) v0.B3),C7:=v0.C7,A3:=v0.A3}) λ(x0:Bool×Q02)=> .br (!x0.1) (.lf (Sum.inr (x0.2,fr1))) (.nx ((True/\rZ/\rZ/\True)/\(mE x0.2.A0 (rE x0.2.A0.Mem) (((Els.Nil (Els.recs RK.apiEntry x0.2.B3)\/rE (4:Nat))/\rE x0.2.B3)/\rE x0.2.C7/\rE x0.2.A3/\True))/\(True/\True)/\(rE (fr1:Int)/\True)/\True) (Sum.inl x0.2)))))) (.lf (Sum.inr (v0,fr1))))) (.lf (Sum.inr (v0,fr1))))) (.lf (Sum.inr (v0,fr1)))
def Qzl p fr1:=(Q7k p fr1).m
abbrev Qhs p fr1:=(Q7k p fr1).p
def Z3m:LInv:={
 α:=Q02
 F:=λst a=>([(0, .clo 1000000068 [.ptr 0 0 0]),(1, .ptr 1 0 0),(2, .ptr 2 0 0)],[⟨true,106,52, .gen [[.int u32 a.A0.B2.X.a0, .int u32 a.A0.B2.X.a1, .int u32 a.A0.B2.X.a2, .int u32 a.A0.B2.X.a3, .int u32 a.A0.B2.X.a4, .int u32 a.A0.B2.X.a5, .int u32 a.A0.B2.X.a6, .int u32 a.A0.B2.X.a7, .int u32 a.A0.B2.X.a8, .int u32 a.A0.B2.X.a9, .int u32 a.A0.B2.X.a10, .int u32 a.A0.B2.X.a11, .int u32 a.A0.B2.X.a12, .int u32 a.A0.B2.X.a13, .int u32 a.A0.B2.X.a14, .int u32 a.A0.B2.X.a15, .int u32 a.A0.B2.Pc, .int u32 a.A0.B2.B6.a0, .int u32 a.A0.B2.B6.a1, .int u32 a.A0.B2.B6.a2, .int u32 a.A0.B2.B6.a3, .int u32 a.A0.B2.B6.a4, .int u32 a.A0.B2.B6.a5, .int u32 a.A0.B2.B6.a6, .int u32 a.A0.B2.B6.a7, .sl 1 (.ints u32 a.A0.Mem) false, .str a.A0.A6.D3, .bool a.A0.B0.D2, .int u32 a.A0.B0.C9, .bool a.A0.B0.D5, .int u32 a.A0.B1.Blocks, .int u32 a.A0.B1.C2, .int u32 a.A0.B1.Frame, .int i64 a.A0.B1.C1, .int i64 a.A0.B1.D8, .int u32 a.A0.B1.B7, .int u32 a.A0.B1.B4, .str a.A0.B1.C4, .int u32 a.A0.C5.Frame, .int u32 a.A0.C5.E0, .bool a.A0.C5.C6, .int u32 a.A0.C5.B9, .bool a.A0.C5.B8, .int u32 a.A0.C5.F1, .int u32 a.A0.A4.D0, .int u32 a.A0.A4.C3, .int u64 a.A0.A1, .bool a.A0.A7, .bool a.A0.A9, .sl 4 (.recs RK.apiEntry a.B3) false, .int u64 a.C7, .int u32 a.A3]]⟩,⟨true,219,1, .gen [[.ptr 0 0 49]]⟩,⟨true,41,1, .gen [[(Q0w st.rows 2 0)]]⟩])
 a0:=λst=>(⟨(⟨(⟨(⟨(Q0w st.rows 0 0).toInt,(Q0w st.rows 0 1).toInt,(Q0w st.rows 0 2).toInt,(Q0w st.rows 0 3).toInt,(Q0w st.rows 0 4).toInt,(Q0w st.rows 0 5).toInt,(Q0w st.rows 0 6).toInt,(Q0w st.rows 0 7).toInt,(Q0w st.rows 0 8).toInt,(Q0w st.rows 0 9).toInt,(Q0w st.rows 0 10).toInt,(Q0w st.rows 0 11).toInt,(Q0w st.rows 0 12).toInt,(Q0w st.rows 0 13).toInt,(Q0w st.rows 0 14).toInt,(Q0w st.rows 0 15).toInt⟩:(A16 Int)),(Q0w st.rows 0 16).toInt,(⟨(Q0w st.rows 0 17).toInt,(Q0w st.rows 0 18).toInt,(Q0w st.rows 0 19).toInt,(Q0w st.rows 0 20).toInt,(Q0w st.rows 0 21).toInt,(Q0w st.rows 0 22).toInt,(Q0w st.rows 0 23).toInt,(Q0w st.rows 0 24).toInt⟩:(A8 Int))⟩:Q05),(frzI u32 st.rows (Q0w st.rows 0 25)),(⟨(Q0w st.rows 0 26).toStr⟩:Q0c),(⟨(Q0w st.rows 0 27).toBool,(Q0w st.rows 0 28).toInt,(Q0w st.rows 0 29).toBool⟩:Q0j),(⟨(Q0w st.rows 0 30).toInt,(Q0w st.rows 0 31).toInt,(Q0w st.rows 0 32).toInt,(Q0w st.rows 0 33).toInt,(Q0w st.rows 0 34).toInt,(Q0w st.rows 0 35).toInt,(Q0w st.rows 0 36).toInt,(Q0w st.rows 0 37).toStr⟩:Q0g),(⟨(Q0w st.rows 0 38).toInt,(Q0w st.rows 0 39).toInt,(Q0w st.rows 0 40).toBool,(Q0w st.rows 0 41).toInt,(Q0w st.rows 0 42).toBool,(Q0w st.rows 0 43).toInt⟩:Q0r),(⟨(Q0w st.rows 0 44).toInt,(Q0w st.rows 0 45).toInt⟩:Q08),(Q0w st.rows 0 46).toInt,(Q0w st.rows 0 47).toBool,(Q0w st.rows 0 48).toBool⟩:Q00),(slR RK.apiEntry (Q0w st.rows 0 49)),(Q0w st.rows 0 50).toInt,(Q0w st.rows 0 51).toInt⟩:Q02)
 ex0:=λst=>[0,1,2]++[]}
def Qz2:List (Nat×LInv):=[(0,Z3m)]
def Z7e:Q0d:=mkKP 3 216 [true,true,true] [.clo 1000000068 [.ptr 0 0 0], .ptr 1, .ptr 2] [.box 106 52 Q02.sig, .box 219 1 [.pt 0 0 49], .box 41 1 [.int .u64]] (λa r=>Qhs (Q02.of (r.getD 0 default).cs) (rcell r 2 0).toInt) (λa r=>Qzl (Q02.of (r.getD 0 default).cs) (rcell r 2 0).toInt) (λX=> .tup []) (λX=>[⟨true,106,52, .gen [(Q02.cells (X.1))]⟩,⟨true,219,1, .gen [[.ptr 0 0 49]]⟩,⟨true,41,1, .gen [[.int .u64 X.2]]⟩])
theorem Z4u:Q06 pG Z7e:=Z6l drawn Q0l (.cons Qoz (.nil)) Tryz.func216 Tryz.call216 (λa r=>Q7k (Q02.of (r.getD 0 default).cs) (rcell r 2 0).toInt) [.sl (.ints .u32) false, .sl (.recs .apiEntry) false] Qz2 3 (λ_ _ _=>by kernel_rfl) (λ_ _=>rfl) (λ_ _ h=>h)
def Q7t(p:Q02)(steps:Int)(z:(Int)×Q02×(List Q03)):Nat:=(4000-z.1).toNat
def Q51(p:Q02)(steps:Int):Tree (Q02×(List Q03)):=
.an (Q7y p) (.lv (Qi8 p) λ(x0:Q02)=> .an (Q3o x0.A0) (.lv (Q19 x0.A0) λ(x1:Bool)=> .br (!x1) (.lf (x0,[])) (.lp inferInstance (Q7t p steps (0,x0,[])+1) ((rZ/\rZ/\True/\rE ((if 4000<if 0>steps then 0 else steps then 4000 else if 0>steps then 0 else steps):Int)/\rE (0:Int)/\True)/\(mE x0.A0 (rE x0.A0.Mem) (((Els.Nil (Els.recs RK.apiEntry x0.B3)\/rE (4:Nat))/\rE x0.B3)/\rE x0.C7/\rE x0.A3/\True))/\(mE zM True (True/\rE (0:Int)/\rE (0:Int)/\True))/\rE ([]:List (RK.T RK.apiOutput))/\True) (0,x0,[]) λ(v0:Int×Q02×List Q03)=> .br (decide (v0.1<if 4000<if 0>steps then 0 else steps then 4000 else if 0>steps then 0 else steps)) (.br (decide (v0.2.1.A0.A1>=v0.2.1.C7)) (.lf (Sum.inr (v0.2.1,v0.2.2))) (.lv () λ(x2:Unit)=> .an (Qhs v0.2.1 v0.2.1.A0.A1) (.lv (Qzl v0.2.1 v0.2.1.A0.A1) λ(x3:Q02×Int)=> .br x3.1.A0.A9 (.lf (Sum.inr (x3.1,v0.2.2))) (.an (Q3r x3.1.A0) (.lv (Q38 x3.1.A0) λ(x4:Bool)=> .br x4 (.lf (Sum.inr (x3.1,v0.2.2))) (.br (x3.1.A0.A1==1152921504606846976) (.lf (Sum.inr (x3.1,v0.2.2))) (.an (Qhi x3.1) (.lv (Qzi x3.1) λ(x5:Int×Bool×Bool)=> .br (!x5.2.2) (.lf (Sum.inr (x3.1,v0.2.2))) (.br x5.2.1 (.cn (bS 4 4&&bT 0 4&&decide ((0:Int)<=(1:Int)/\1<=(x3.1.B3.length:Int)/\(x3.1.B3.length:Int)<=(x3.1.B3.length:Int))) (.an (Q2l x3.1.A0 x5.1) (.lv (Q1z x3.1.A0 x5.1) λ(x6:Q00×List Q03)=> .cn (decide (40*(v0.2.2.length+x6.2.length)<=140737488355328)) (.nx ((rZ/\rZ/\True/\rE ((if 4000<if 0>steps then 0 else steps then 4000 else if 0>steps then 0 else steps):Int)/\rE ((wrap i64 (v0.1+1)):Int)/\True)/\(mE x6.1 (((Els.Nil (Els.ints u32 x6.1.Mem)\/rE (1:Nat))/\rE x6.1.Mem)) (((Els.Nil (Els.take (Els.drop (Els.recs RK.apiEntry x3.1.B3) (dC 1)) (dC (↑(Els.len (Els.recs RK.apiEntry x3.1.B3)):Int)-dC 1))\/rE (4:Nat))/\rE ((cY (dC (x3.1.B3.length:Int)-dC 1) (cZ (dC 1) x3.1.B3)):List (RK.T RK.apiEntry)))/\rE x3.1.C7/\rE ((wrap u32 (x5.1+1)):Int)/\True))/\(mE zM True (True/\rE (0:Int)/\rE (0:Int)/\True))/\rE ((v0.2.2++x6.2):List (RK.T RK.apiOutput))/\True) (Sum.inl (wrap i64 (v0.1+1),{A0:=x6.1,B3:=cY (dC (x3.1.B3.length:Int)-dC 1) (cZ (dC 1) x3.1.B3),C7:=x3.1.C7,A3:=wrap u32 (x5.1+1)},v0.2.2++x6.2)))))) (.an (Q2l x3.1.A0 x5.1) (.lv (Q1z x3.1.A0 x5.1) λ(x7:Q00×List Q03)=> .cn (decide (40*(v0.2.2.length+x7.2.length)<=140737488355328)) (.nx ((rZ/\rZ/\True/\rE ((if 4000<if 0>steps then 0 else steps then 4000 else if 0>steps then 0 else steps):Int)/\rE ((wrap i64 (v0.1+1)):Int)/\True)/\(mE x7.1 (((Els.Nil (Els.ints u32 x7.1.Mem)\/rE (1:Nat))/\rE x7.1.Mem)) (((Els.Nil (Els.recs RK.apiEntry x3.1.B3)\/rE (4:Nat))/\rE x3.1.B3)/\rE x3.1.C7/\rE x3.1.A3/\True))/\(mE zM True (True/\rE (0:Int)/\rE (0:Int)/\True))/\rE ((v0.2.2++x7.2):List (RK.T RK.apiOutput))/\True) (Sum.inl (wrap i64 (v0.1+1),{A0:=x7.1,B3:=x3.1.B3,C7:=x3.1.C7,A3:=x3.1.A3},v0.2.2++x7.2)))))))))))))) (.lf (Sum.inr (v0.2.1,v0.2.2))))))
def Qlp p steps:=(Q51 p steps).m
abbrev Q9f p steps:=(Q51 p steps).p
def Qwz:LInv:={
 α:=(Int)×Q02×(List Q03)
 F:=λst a=>([(2, .ptr 0 0 0),(4, .ptr 1 0 0),(6, .all 2),(21,(lk st 21)),(22, .int i64 a.1)],[⟨true,106,52, .gen [[.int u32 a.2.1.A0.B2.X.a0, .int u32 a.2.1.A0.B2.X.a1, .int u32 a.2.1.A0.B2.X.a2, .int u32 a.2.1.A0.B2.X.a3, .int u32 a.2.1.A0.B2.X.a4, .int u32 a.2.1.A0.B2.X.a5, .int u32 a.2.1.A0.B2.X.a6, .int u32 a.2.1.A0.B2.X.a7, .int u32 a.2.1.A0.B2.X.a8, .int u32 a.2.1.A0.B2.X.a9, .int u32 a.2.1.A0.B2.X.a10, .int u32 a.2.1.A0.B2.X.a11, .int u32 a.2.1.A0.B2.X.a12, .int u32 a.2.1.A0.B2.X.a13, .int u32 a.2.1.A0.B2.X.a14, .int u32 a.2.1.A0.B2.X.a15, .int u32 a.2.1.A0.B2.Pc, .int u32 a.2.1.A0.B2.B6.a0, .int u32 a.2.1.A0.B2.B6.a1, .int u32 a.2.1.A0.B2.B6.a2, .int u32 a.2.1.A0.B2.B6.a3, .int u32 a.2.1.A0.B2.B6.a4, .int u32 a.2.1.A0.B2.B6.a5, .int u32 a.2.1.A0.B2.B6.a6, .int u32 a.2.1.A0.B2.B6.a7, .sl 1 (.ints u32 a.2.1.A0.Mem) false, .str a.2.1.A0.A6.D3, .bool a.2.1.A0.B0.D2, .int u32 a.2.1.A0.B0.C9, .bool a.2.1.A0.B0.D5, .int u32 a.2.1.A0.B1.Blocks, .int u32 a.2.1.A0.B1.C2, .int u32 a.2.1.A0.B1.Frame, .int i64 a.2.1.A0.B1.C1, .int i64 a.2.1.A0.B1.D8, .int u32 a.2.1.A0.B1.B7, .int u32 a.2.1.A0.B1.B4, .str a.2.1.A0.B1.C4, .int u32 a.2.1.A0.C5.Frame, .int u32 a.2.1.A0.C5.E0, .bool a.2.1.A0.C5.C6, .int u32 a.2.1.A0.C5.B9, .bool a.2.1.A0.C5.B8, .int u32 a.2.1.A0.C5.F1, .int u32 a.2.1.A0.A4.D0, .int u32 a.2.1.A0.A4.C3, .int u64 a.2.1.A0.A1, .bool a.2.1.A0.A7, .bool a.2.1.A0.A9, .sl 4 (.recs RK.apiEntry a.2.1.B3) false, .int u64 a.2.1.C7, .int u32 a.2.1.A3]]⟩,⟨true,106,52, .gen [[(cT st 4 0),(cT st 4 1),(cT st 4 2),(cT st 4 3),(cT st 4 4),(cT st 4 5),(cT st 4 6),(cT st 4 7),(cT st 4 8),(cT st 4 9),(cT st 4 10),(cT st 4 11),(cT st 4 12),(cT st 4 13),(cT st 4 14),(cT st 4 15),(cT st 4 16),(cT st 4 17),(cT st 4 18),(cT st 4 19),(cT st 4 20),(cT st 4 21),(cT st 4 22),(cT st 4 23),(cT st 4 24),(cT st 4 25),(cT st 4 26),(cT st 4 27),(cT st 4 28),(cT st 4 29),(cT st 4 30),(cT st 4 31),(cT st 4 32),(cT st 4 33),(cT st 4 34),(cT st 4 35),(cT st 4 36),(cT st 4 37),(cT st 4 38),(cT st 4 39),(cT st 4 40),(cT st 4 41),(cT st 4 42),(cT st 4 43),(cT st 4 44),(cT st 4 45),(cT st 4 46),(cT st 4 47),(cT st 4 48),(cT st 4 49),(cT st 4 50),(cT st 4 51)]]⟩,⟨false,71,4, .recs RK.apiOutput a.2.2⟩])
 a0:=λst=>((lk st 22).toInt,(⟨(mR (cT st 2) (frzI u32 st.rows (cT st 2 25))),(slR RK.apiEntry (cT st 2 49)),(cT st 2 50).toInt,(cT st 2 51).toInt⟩:Q02),(Q3d RK.apiOutput st.rows (rN st 6)))
 ex0:=λst=>[]++[(rX st 2 0),(rX st 4 1),(rX st 6 2)]}
def Qtn:List (Nat×LInv):=[(6,Qwz)]
def Z1j:Q0d:=Q0d.fz<|mkP 68 [] false [.agg Q02.sig, .one (.int .i64)] [] (λa r=>Q9f (Q02.of (aC a 0)) (argI a 1)) (λa r=>Qlp (Q02.of (aC a 0)) (argI a 1)) (λX=> .tup [.agg (Q02.cells (X.1)), .all 0]) (λX=>[⟨false,71,4, .recs .apiOutput (X.2)⟩])
theorem Qms:Q06 pG Z1j:=Zkv<|yz (some 1000000068) (rf_of (by kernel_rfl) rfl) drawn Q0l (.cons Qcj (.cons Q91 (.cons Qv3 (.cons Qck (.cons Qek (.cons Qpv (.cons Qkh (.cons Z4u (.nil))))))))) Tryz.func68 Tryz.call68 (λa r=>Q51 (Q02.of (aC a 0)) (argI a 1)) [.sl (.ints .u32) false, .sl (.recs .apiEntry) false, .row 71 4 (.recs .apiOutput)] Qtn 3 (λ_ _ _=>by kernel_rfl) (λ_ _=>rfl) (λ_ _ h=>h) (λh=>by cases h)
end
noncomputable section
def Qev:Tree Bool:=
.an (Qa1 1 0 []) (.lv (Q21 1 0 []) λ(x0:Q00×Bool)=> .an (Qg5 x0.1) (.lv (Qy3 x0.1) λ(x1:Q02)=> .an (Qeu x1 [] 3) (.lv (Qno x1 [] 3) λ(x2:Q02×Bool)=> .an (Q9f x2.1 10) (.lv (Qlp x2.1 10) λ(x3:Q02×List Q03)=> .an (Q89 x3.1) (.lv (Qi7 x3.1) λ(x4:Q01×Bool)=> .an (Q89 x2.1) (.lv (Qi7 x2.1) λ(x5:Q01×Bool)=> .br x2.2 (.lv (Qy1 x2.1) λ(x6:Int)=> .br (x6==3) (.br (x3.1.A0.A1==3) (.br ((x3.2.length:Int)==(0:Int)) (.lv (Qy1 x3.1) λ(x7:Int)=> .br (x7==0) (.br x4.2 (.lf (!x5.2)) (.lf false)) (.lf false)) (.lf false)) (.lf false)) (.lf false)) (.lf false)))))))
def Qae:Bool:=(Qev).m
abbrev Q4k:Prop:=(Qev).p
def Zck:Q0d:=mT 60 [] true [] [] (λa r=>Qev) (λX=> .bool X) (λX=>[])
theorem Z8l:Q06 pG Zck:=oT (.cons Z6f (.cons Qs3 (.cons Qvz (.cons Qms (.cons Qoo (.cons Zcu (.nil))))))) Tryz.func60 Tryz.call60 [] [] 2
end
noncomputable section
end
noncomputable section
def Q9j(kind:Int)(l acts:List Int)(n steps later:Int):Tree Bool:=
.lv (Qw4 l acts) λ(x0:Bool)=> .br (!x0) (.an Q4k (.lv Qae λ(x1:Bool)=> .lf x1)) (.br (decide (steps<0)) (.an Q4k (.lv Qae λ(x2:Bool)=> .lf x2)) (.br (decide (steps>80)) (.an Q4k (.lv Qae λ(x3:Bool)=> .lf x3)) (.an (Qof kind l) (.lv (Ql4 kind l) λ(x4:Q00)=> .an (Qw7 x4 acts) (.lv (Z69 x4 acts) λ(x5:Q01×List Q03)=> .an (Q9i x5.1 0 0) (.lv (Qg1 x5.1 0 0) λ(x6:Q01×List Q03)=> .an (Qs7 x6.1) (.lv (Zal x6.1) λ(x7:Q01×List Q0f×Int)=> .an (Qg5 x4) (.lv (Qy3 x4) λ(x8:Q02)=> .an (Qeu x8 x7.2.1 x7.2.2) (.lv (Qno x8 x7.2.1 x7.2.2) λ(x9:Q02×Bool)=> .an (Q9f x9.1 1000) (.lv (Qlp x9.1 1000) λ(x10:Q02×List Q03)=> .an (Q89 x10.1) (.lv (Qi7 x10.1) λ(x11:Q01×Bool)=> .br (!x9.2) (.lf false) (.br (!x11.2) (.lf false) (.br (decide (x11.1.A3>x7.1.A3)) (.lf false) (.an (Qlm n) (.lv (Q46 n) λ(x12:Q07)=> .an (Qf7 x7.1 x12) (.lv (Qn6 x7.1 x12) λ(x13:Q01×Bool)=> .an (Qf7 x11.1 x12) (.lv (Qn6 x11.1 x12) λ(x14:Q01×Bool)=>let E1:=wrap u32 (x13.1.A3+Int.tmod later 1000); .an (Q9i x13.1 steps E1) (.lv (Qg1 x13.1 steps E1) λ(x15:Q01×List Q03)=> .an (Q9i x14.1 steps E1) (.lv (Qg1 x14.1 steps E1) λ(x16:Q01×List Q03)=> .an (Qf4 x15.1 x16.1) (.lv (Ql1 x15.1 x16.1) λ(x17:Bool)=> .br x17 (.an (Q7s x15.2 x16.2) (.lv (Qco x15.2 x16.2) λ(x18:Bool)=> .br x18 (.an Q4k (.lv Qae λ(x19:Bool)=> .lf x19)) (.lf false))) (.lf false)))))))))))))))))))))
def Qhk kind l acts n steps later:=(Q9j kind l acts n steps later).m
abbrev Qhz kind l acts n steps later:=(Q9j kind l acts n steps later).p
def Quj:Q0d:=mT 14 [] true [.one (.int .i64), .one (.ints .i64), .one (.ints .i64), .one (.int .i64), .one (.int .i64), .one (.int .u32)] [] (λa r=>Q9j (argI a 0) (argL .i64 a 1) (argL .i64 a 2) (argI a 3) (argI a 4) (argI a 5)) (λX=> .bool X) (λX=>[])
theorem Qti:Q06 pG Quj:=oT (.cons Zlh (.cons Z8l (.cons Z50 (.cons Zg8 (.cons Qx2 (.cons Zbb (.cons Qs3 (.cons Qvz (.cons Qms (.cons Qoo (.cons Qwd (.cons Z24 (.cons Qqh (.cons Qtj (.nil))))))))))))))) Tryz.func14 Tryz.call14 [] [] 2

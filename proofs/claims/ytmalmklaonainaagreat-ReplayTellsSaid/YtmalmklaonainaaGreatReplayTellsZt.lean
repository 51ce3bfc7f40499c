import Derived.Test.YtmalmklaonainaaGreatReplayTellsZd
import Derived.Test.YtmalmklaonainaaGreatReplayTellsZx
open Nat renaming beq->bS, blt->bT, lt_succ_self->cK
open List renaming getD->aK, length->dF, append->cO, take->cY, drop->dA
open Int renaming toNat->cZ
open UInt8 renaming ofNat->eS
set_option maxRecDepth 100000
set_option linter.all false
namespace Go.Proofs.YtmalmklaonainaaGreat
open Go Go.GD Go.IntKind
noncomputable section
instance sumInhZi {α β:Type} [Inhabited β]:Inhabited (α⊕β):=⟨.inr default⟩
def Quh(src:List UInt8)(z:(Int)×(List Int)):Nat:=((Z3 src).2.1.length-z.1).toNat
def Qu4(src:List UInt8)(v0:Int×List Int)(z:(Int)×(List Int)):Nat:=(1024-z.1).toNat
def Qa4(src:List UInt8):Tree ((List Int)×Q1l):=
.an (Qnu src) (.lv (Z3 src) λ(x0:List Q2a×List Q0d×Q1l)=> .br (x0.2.2.Err !=0) (.lf ([],x0.2.2)) (.lp inferInstance (Quh src (0,[])+1) ((True/\rZ/\True/\True/\True/\rE (0:Int)/\True)/\(rE (0:Int)/\rE (0:Int)/\True)/\rE x0.1/\rE x0.2.1/\rE ([]:List Int)/\True) (0,[]) λ(v0:Int×List Int)=> .br (decide (v0.1<(x0.2.1.length:Int))) (.cn (bS 6 6&&bT 0 6&&decide (0<=v0.1/\v0.1<(x0.2.1.length:Int))) (let E4:=x0.2.1.getD v0.1.toNat (RK.dflt RK.vmfleetref1Statement);let T1:Tree ((Int×List Int)⊕(((List Int)×Q1l))):= .lp inferInstance (Qu4 src v0 (0,v0.2)+1) ((True/\rZ/\True/\True/\True/\rE v0.1/\rZ/\rE (0:Int)/\True)/\(rE (0:Int)/\rE (0:Int)/\True)/\rE x0.1/\rE x0.2.1/\(rE ((x0.2.1.getD v0.1.toNat (RK.dflt RK.vmfleetref1Statement)).what:List UInt8)/\rE ((x0.2.1.getD v0.1.toNat (RK.dflt RK.vmfleetref1Statement)).op:Int)/\((Els.Nil (D.toEs (aK (Els.get (Els.recs RK.vmfleetref1Statement x0.2.1) v0.1.toNat) ((0:Nat)+(1:Nat)+(1:Nat)) D.dead))\/rE (3:Nat))/\rE ((x0.2.1.getD v0.1.toNat (RK.dflt RK.vmfleetref1Statement)).l:List (RK.T RK.vmfleetref1Arg)))/\rE ((x0.2.1.getD v0.1.toNat (RK.dflt RK.vmfleetref1Statement)).D7:Int)/\rE ((x0.2.1.getD v0.1.toNat (RK.dflt RK.vmfleetref1Statement)).at_:Int)/\rE ((x0.2.1.getD v0.1.toNat (RK.dflt RK.vmfleetref1Statement)).size:Int)/\True)/\rE v0.2/\True) (0,v0.2) λ(v1:Int×List Int)=> .br (decide (v1.1<E4.size)) (.cn (decide (4*(v1.2.length+1)<=140737488355328)) (.nx ((True/\rZ/\True/\True/\True/\rE v0.1/\rZ/\rE ((wrap i64 (v1.1+1)):Int)/\True)/\(rE (0:Int)/\rE (0:Int)/\True)/\rE x0.1/\rE x0.2.1/\(rE ((x0.2.1.getD v0.1.toNat (RK.dflt RK.vmfleetref1Statement)).what:List UInt8)/\rE ((x0.2.1.getD v0.1.toNat (RK.dflt RK.vmfleetref1Statement)).op:Int)/\((Els.Nil (Els.recs RK.vmfleetref1Arg (x0.2.1.getD v0.1.toNat (RK.dflt RK.vmfleetref1Statement)).l)\/rE (3:Nat))/\rE ((x0.2.1.getD v0.1.toNat (RK.dflt RK.vmfleetref1Statement)).l:List (RK.T RK.vmfleetref1Arg)))/\rE ((x0.2.1.getD v0.1.toNat (RK.dflt RK.vmfleetref1Statement)).D7:Int)/\rE ((x0.2.1.getD v0.1.toNat (RK.dflt RK.vmfleetref1Statement)).at_:Int)/\rE ((x0.2.1.getD v0.1.toNat (RK.dflt RK.vmfleetref1Statement)).size:Int)/\True)/\rE ((v1.2++[0]):List Int)/\True) (Sum.inl (wrap i64 (v1.1+1),v1.2++[0])))) (.nx ((True/\rZ/\True/\True/\True/\rE ((wrap i64 (v0.1+1)):Int)/\True)/\(rE (0:Int)/\rE (0:Int)/\True)/\rE x0.1/\rE x0.2.1/\rE v1.2/\True) (Sum.inr (Sum.inl (wrap i64 (v0.1+1),v1.2))));let E5:=bS 3 3&&bT 0 3&&decide ((0:Int)<=(0:Int)/\0<(↑(dF E4.l):Int));let E7:=aK E4.l (cZ 0) (RK.dflt RK.vmfleetref1Arg);let E8:=decide (4*(v0.2.length+1)<=140737488355328);let T2:Tree ((Int×List Int)⊕(((List Int)×Q1l))):= .cn E5 (.cn (bS 3 3&&bT 0 3&&decide ((0:Int)<=(1:Int)/\1<(↑(dF E4.l):Int))) (.lv (Q1t {Op:=16,A:=E7.reg,B:=(aK E4.l (cZ 1) (RK.dflt RK.vmfleetref1Arg)).reg,C:=0,Imm:=0}) λ(x4:Int×Bool)=> .cn E8 (.nx ((True/\rZ/\True/\True/\True/\rE ((wrap i64 (v0.1+1)):Int)/\True)/\(rE (0:Int)/\rE (0:Int)/\True)/\rE x0.1/\rE x0.2.1/\rE ((v0.2++[x4.1]):List Int)/\True) (Sum.inl (wrap i64 (v0.1+1),v0.2++[x4.1])))));let T3:Tree ((Int×List Int)⊕(((List Int)×Q1l))):= .lv (Q1t {Op:=16,A:=0,B:=0,C:=0,Imm:=0}) λ(x5:Int×Bool)=> .cn E8 (.nx ((True/\rZ/\True/\True/\True/\rE ((wrap i64 (v0.1+1)):Int)/\True)/\(rE (0:Int)/\rE (0:Int)/\True)/\rE x0.1/\rE x0.2.1/\rE ((v0.2++[x5.1]):List Int)/\True) (Sum.inl (wrap i64 (v0.1+1),v0.2++[x5.1])));let E9:=decide (E4.what=[(46:UInt8),115,112,97,99,101]);let E10:=decide (E4.what=[(46:UInt8),119,111,114,100]);let E12:=decide (E4.what=[(110:UInt8),111,112]);let E13:=decide (4*(v0.2.length+2)<=140737488355328);let E14:=decide (E4.what=[(108:UInt8),105]);let E15:=decide (E4.what=[(109:UInt8),118]); .br (decide ((↑(dF E4.l):Int)>(0:Int))) (.cn (bS 3 3&&bT 0 3&&decide (0<=wrap i64 ((↑(dF E4.l):Int)-(1:Int))/\wrap i64 ((↑(dF E4.l):Int)-(1:Int))<(↑(dF E4.l):Int))) (let E6:=aK E4.l (cZ (wrap i64 ((↑(dF E4.l):Int)-(1:Int)))) (RK.dflt RK.vmfleetref1Arg); .br (!decide (E6.label=[])) (.an (Q3s x0.1 E6.label) (.lv (Qrf x0.1 E6.label) λ(x1:Int×Bool)=> .br (!x1.2) (.lf (Sum.inr ([],{Err:=302,Line:=E4.D7}))) (.br (decide (E4.op>0)) (let E11:=wrap i64 (wrap i64 (Int.tdiv (wrap i64 x1.1) 4)-E4.at_); .br E10 (.cn E8 (.nx ((True/\rZ/\True/\True/\True/\rE ((wrap i64 (v0.1+1)):Int)/\True)/\(rE (0:Int)/\rE (0:Int)/\True)/\rE x0.1/\rE x0.2.1/\rE ((v0.2++[wrap u32 (wrap i64 (wrap i64 (Int.tdiv (wrap i64 x1.1) 4)-(x0.2.1.getD v0.1.toNat (RK.dflt RK.vmfleetref1Statement)).at_))]):List Int)/\True) (Sum.inl (wrap i64 (v0.1+1),v0.2++[wrap u32 E11])))) (.br E9 T1 (.br E14 (.cn E5 (.lv (Q1t {Op:=24,A:=E7.reg,B:=0,C:=0,Imm:=wrap i32 (ishr u32 (wrap u32 E11) 16)}) λ(x2:Int×Bool)=> .cn E5 (.cn E5 (.lv (Q1t {Op:=18,A:=E7.reg,B:=E7.reg,C:=0,Imm:=wrap i32 (iand u32 (wrap u32 E11) 65535)}) λ(x3:Int×Bool)=> .cn E13 (.nx ((True/\rZ/\True/\True/\True/\rE ((wrap i64 (v0.1+1)):Int)/\True)/\(rE (0:Int)/\rE (0:Int)/\True)/\rE x0.1/\rE x0.2.1/\rE ((v0.2++[x2.1,x3.1]):List Int)/\True) (Sum.inl (wrap i64 (v0.1+1),v0.2++[x2.1,x3.1]))))))) (.br E15 T2 (.br E12 T3 (.an (Qb6 E4 E11) (.lv (Qr9 E4 E11) λ(x6:Int×Bool)=> .br (!x6.2) (.lf (Sum.inr ([],{Err:=304,Line:=E4.D7}))) (.cn E8 (.nx ((True/\rZ/\True/\True/\True/\rE ((wrap i64 (v0.1+1)):Int)/\True)/\(rE (0:Int)/\rE (0:Int)/\True)/\rE x0.1/\rE x0.2.1/\rE ((v0.2++[x6.1]):List Int)/\True) (Sum.inl (wrap i64 (v0.1+1),v0.2++[x6.1]))))))))))) (.br E10 (.cn E8 (.nx ((True/\rZ/\True/\True/\True/\rE ((wrap i64 (v0.1+1)):Int)/\True)/\(rE (0:Int)/\rE (0:Int)/\True)/\rE x0.1/\rE x0.2.1/\rE ((v0.2++[wrap u32 (wrap i64 x1.1)]):List Int)/\True) (Sum.inl (wrap i64 (v0.1+1),v0.2++[wrap u32 (wrap i64 x1.1)])))) (.br E9 T1 (.br E14 (.cn E5 (.lv (Q1t {Op:=24,A:=E7.reg,B:=0,C:=0,Imm:=wrap i32 (ishr u32 (wrap u32 (wrap i64 x1.1)) 16)}) λ(x7:Int×Bool)=> .cn E5 (.cn E5 (.lv (Q1t {Op:=18,A:=E7.reg,B:=E7.reg,C:=0,Imm:=wrap i32 (iand u32 (wrap u32 (wrap i64 x1.1)) 65535)}) λ(x8:Int×Bool)=> .cn E13 (.nx ((True/\rZ/\True/\True/\True/\rE ((wrap i64 (v0.1+1)):Int)/\True)/\(rE (0:Int)/\rE (0:Int)/\True)/\rE x0.1/\rE x0.2.1/\rE ((v0.2++[x7.1,x8.1]):List Int)/\True) (Sum.inl (wrap i64 (v0.1+1),v0.2++[x7.1,x8.1]))))))) (.br E15 T2 (.br E12 T3 (.an (Qb6 E4 (wrap i64 x1.1)) (.lv (Qr9 E4 (wrap i64 x1.1)) λ(x11:Int×Bool)=> .br (!x11.2) (.lf (Sum.inr ([],{Err:=304,Line:=E4.D7}))) (.cn E8 (.nx ((True/\rZ/\True/\True/\True/\rE ((wrap i64 (v0.1+1)):Int)/\True)/\(rE (0:Int)/\rE (0:Int)/\True)/\rE x0.1/\rE x0.2.1/\rE ((v0.2++[x11.1]):List Int)/\True) (Sum.inl (wrap i64 (v0.1+1),v0.2++[x11.1])))))))))))))) (.br E10 (.cn E8 (.nx ((True/\rZ/\True/\True/\True/\rE ((wrap i64 (v0.1+1)):Int)/\True)/\(rE (0:Int)/\rE (0:Int)/\True)/\rE x0.1/\rE x0.2.1/\rE ((v0.2++[wrap u32 (aK (x0.2.1.getD v0.1.toNat (RK.dflt RK.vmfleetref1Statement)).l (cZ (wrap i64 ((↑(dF (x0.2.1.getD v0.1.toNat (RK.dflt RK.vmfleetref1Statement)).l):Int)-(1:Int)))) (RK.dflt RK.vmfleetref1Arg)).num]):List Int)/\True) (Sum.inl (wrap i64 (v0.1+1),v0.2++[wrap u32 E6.num])))) (.br E9 T1 (.br E14 (.cn E5 (.lv (Q1t {Op:=24,A:=E7.reg,B:=0,C:=0,Imm:=wrap i32 (ishr u32 (wrap u32 E6.num) 16)}) λ(x12:Int×Bool)=> .cn E5 (.cn E5 (.lv (Q1t {Op:=18,A:=E7.reg,B:=E7.reg,C:=0,Imm:=wrap i32 (iand u32 (wrap u32 E6.num) 65535)}) λ(x13:Int×Bool)=> .cn E13 (.nx ((True/\rZ/\True/\True/\True/\rE ((wrap i64 (v0.1+1)):Int)/\True)/\(rE (0:Int)/\rE (0:Int)/\True)/\rE x0.1/\rE x0.2.1/\rE ((v0.2++[x12.1,x13.1]):List Int)/\True) (Sum.inl (wrap i64 (v0.1+1),v0.2++[x12.1,x13.1]))))))) (.br E15 T2 (.br E12 T3 (.an (Qb6 E4 E6.num) (.lv (Qr9 E4 E6.num) λ(x16:Int×Bool)=> .br (!x16.2) (.lf (Sum.inr ([],{Err:=304,Line:=E4.D7}))) (.cn E8 (.nx ((True/\rZ/\True/\True/\True/\rE ((wrap i64 (v0.1+1)):Int)/\True)/\(rE (0:Int)/\rE (0:Int)/\True)/\rE x0.1/\rE x0.2.1/\rE ((v0.2++[x16.1]):List Int)/\True) (Sum.inl (wrap i64 (v0.1+1),v0.2++[x16.1]))))))))))))) (.br E10 (.cn E8 (.nx ((True/\rZ/\True/\True/\True/\rE ((wrap i64 (v0.1+1)):Int)/\True)/\(rE (0:Int)/\rE (0:Int)/\True)/\rE x0.1/\rE x0.2.1/\rE ((v0.2++[wrap u32 0]):List Int)/\True) (Sum.inl (wrap i64 (v0.1+1),v0.2++[wrap u32 0])))) (.br E9 T1 (.br E14 (.cn E5 (.lv (Q1t {Op:=24,A:=E7.reg,B:=0,C:=0,Imm:=wrap i32 (ishr u32 (wrap u32 0) 16)}) λ(x17:Int×Bool)=> .cn E5 (.cn E5 (.lv (Q1t {Op:=18,A:=E7.reg,B:=E7.reg,C:=0,Imm:=wrap i32 (iand u32 (wrap u32 0) 65535)}) λ(x18:Int×Bool)=> .cn E13 (.nx ((True/\rZ/\True/\True/\True/\rE ((wrap i64 (v0.1+1)):Int)/\True)/\(rE (0:Int)/\rE (0:Int)/\True)/\rE x0.1/\rE x0.2.1/\rE ((v0.2++[x17.1,x18.1]):List Int)/\True) (Sum.inl (wrap i64 (v0.1+1),v0.2++[x17.1,x18.1]))))))) (.br E15 T2 (.br E12 T3 (.an (Qb6 E4 0) (.lv (Qr9 E4 0) λ(x21:Int×Bool)=> .br (!x21.2) (.lf (Sum.inr ([],{Err:=304,Line:=E4.D7}))) (.cn E8 (.nx ((True/\rZ/\True/\True/\True/\rE ((wrap i64 (v0.1+1)):Int)/\True)/\(rE (0:Int)/\rE (0:Int)/\True)/\rE x0.1/\rE x0.2.1/\rE ((v0.2++[x21.1]):List Int)/\True) (Sum.inl (wrap i64 (v0.1+1),v0.2++[x21.1]))))))))))))) (.lf (Sum.inr (v0.2,{Err:=0,Line:=0})))))
def Q1o src:=(Qa4 src).m
abbrev Qb5 src:=(Qa4 src).p
def Z14:LInv:={
 α:=(Int)×(List Int)
 F:=λst a=>([(2,(lk st 2)),(3, .ptr 0 0 0),(4, .all 1),(5, .all 2),(7, .all 3),(8, .int i64 a.1)],[⟨true,59,2, .gen [[(cT st 3 0),(cT st 3 1)]]⟩,⟨false,257,2,esOf st.rows (rN st 4)⟩,⟨false,181,6,esOf st.rows (rN st 5)⟩,⟨false,25,1, .ints u32 a.2⟩])
 a0:=λst=>((lk st 8).toInt,(Q3u st.rows (rN st 7)))
 ex0:=λst=>[]++[(rX st 3 0),(rX st 4 1),(rX st 5 2),(rX st 7 3)]}
def Z0z:LInv:={
 α:=(Int)×(List Int)
 F:=λst a=>([(2,(lk st 2)),(3, .ptr 0 0 0),(4, .all 1),(5, .all 2),(7, .all 4),(8,(lk st 8)),(9, .ptr 3 0 0),(14, .int i64 a.1)],[⟨true,59,2, .gen [[(cT st 3 0),(cT st 3 1)]]⟩,⟨false,257,2,esOf st.rows (rN st 4)⟩,⟨false,181,6,esOf st.rows (rN st 5)⟩,⟨true,181,6, .gen [[(cT st 9 0),(cT st 9 1),(cT st 9 2),(cT st 9 3),(cT st 9 4),(cT st 9 5)]]⟩,⟨false,25,1, .ints u32 a.2⟩])
 a0:=λst=>((lk st 14).toInt,(Q3u st.rows (rN st 7)))
 ex0:=λst=>[]++[(rX st 3 0),(rX st 4 1),(rX st 5 2),(rX st 9 3),(rX st 7 4)]}
def Qx:List (Nat×LInv):=[(6,Z14),(29,Z0z)]
def Z6a:Q0f:=mT 36 [] true [.one (.str)] [] (λa r=>Qa4 (argS a 0)) (λX=> .tup [.all 0, .agg (Q1l.cells (X.2))]) (λX=>[⟨false,25,1, .ints .u32 (X.1)⟩])
theorem Z0v:Q06 pG Z6a:=oT (.cons Zi2 (.cons Qqt (.cons Qm3 (.cons Zhw (.nil))))) Tryz.func36 Tryz.call36 [.row 25 1 (.ints .u32)] Qx 3
end
noncomputable section
instance sumInhZh {α β:Type} [Inhabited β]:Inhabited (α⊕β):=⟨.inr default⟩
def Q45(m:Q00):Tree Q02:=
.an (Qaj m) (.lv (Qio m) λ(x0:Q00)=> .lf ({A0:=x0,A7:=0,B3:=[],A9:=[]}))
def Q47 m:=(Q45 m).m
abbrev Qhi m:=(Q45 m).p
def Qu8:Q0f:=mT 148 [] true [.agg Q00.sig] [] (λa r=>Q45 (Q00.of (aC a 0))) (λX=> .agg (Q02.cellsW X (.all 0) (.all 1) (.all 2))) (λX=>[⟨false,25,1, .ints .u32 X.A0.Mem⟩,⟨false,126,4, .recs .apiEntry X.B3⟩,⟨false,66,3, .recs .apiEvent X.A9⟩])
theorem Qsk:Q06 pG Qu8:=oT (.cons Qky (.nil)) Tryz.func148 Tryz.call148 [.row 25 1 (.ints .u32), .row 126 4 (.recs .apiEntry), .row 66 3 (.recs .apiEvent)] [] 2
def Q8l(r:Q02)(n:Int):Tree (Q02×(List Q03)):=
.lv (Q9q n 3) λ(x0:Int)=> .br (Int.tmod x0 (3:Int)==(0:Int)) (.an (Qmb n) (.lv (Qfm n) λ(x1:Q0b)=> .an (Qor r x1) (.lv (Q6v r x1) λ(x2:Q02×Bool)=> .lf (x2.1,[])))) (.an (Q2z (ishr i64 x0 4) 12) (.lv (Q3q (ishr i64 x0 4) 12) λ(x3:Int)=>let E1:=wrap u32 (iand i64 (ishr i64 x0 12) 255); .an (Qmw r x3 E1) (.lv (Qf4 r x3 E1) λ(x4:Q02×List Q03)=> .lf (x4.1,x4.2))))
def Q86 r n:=(Q8l r n).m
abbrev Qv3 r n:=(Q8l r n).p
def Zku:Q0f:=mT 55 [] true [.agg Q02.sig, .one (.int .i64)] [] (λa r=>Q8l (Q02.of (aC a 0)) (argI a 1)) (λX=> .tup [.agg (Q02.cellsW (X.1) (.all 0) (.all 1) (.all 2)), .all 3]) (λX=>[⟨false,25,1, .ints .u32 (X.1).A0.Mem⟩,⟨false,126,4, .recs .apiEntry (X.1).B3⟩,⟨false,66,3, .recs .apiEvent (X.1).A9⟩,⟨false,71,4, .recs .apiOutput (X.2)⟩])
theorem Zfl:Q06 pG Zku:=oT (.cons Qo3 (.cons Z4f (.cons Qv9 (.cons Z19 (.cons Qia (.nil)))))) Tryz.func55 Tryz.call55 [.row 25 1 (.ints .u32), .row 126 4 (.recs .apiEntry), .row 66 3 (.recs .apiEvent), .row 71 4 (.recs .apiOutput)] [] 2
def Qkr(m:Q00)(l:List Int)(z:(Int)×Q02×(List Q03)):Nat:=(l.length-z.1).toNat
def Qde(m:Q00)(l:List Int):Tree (Q02×(List Q03)):=
.an (Qhi m) (.lv (Q47 m) λ(x0:Q02)=> .lp inferInstance (Qkr m l (0,x0,[])+1) ((((Els.Nil (Els.ints i64 l)\/rE (1:Nat))/\rE (l:List Int))/\rZ/\rZ/\True/\rE (0:Int)/\True)/\(mE zM True (rE (0:Int)/\True/\True/\True))/\(mE x0.A0 True (rE x0.A7/\True/\True/\True))/\rE x0.A0.Mem/\rE x0.B3/\rE x0.A9/\rE ([]:List (RK.T RK.apiOutput))/\True) (0,x0,[]) λ(v0:Int×Q02×List Q03)=> .br (decide (v0.1<(l.length:Int))) (.cn (bS 1 1&&bT 0 1&&decide (0<=v0.1/\v0.1<(l.length:Int))) (.an (Qv3 v0.2.1 (l.getD v0.1.toNat 0)) (.lv (Q86 v0.2.1 (l.getD v0.1.toNat 0)) λ(x1:Q02×List Q03)=> .cn (decide (40*(v0.2.2.length+x1.2.length)<=140737488355328)) (.nx ((((Els.Nil (Els.ints i64 l)\/rE (1:Nat))/\rE (l:List Int))/\rZ/\rZ/\True/\rE ((wrap i64 (v0.1+1)):Int)/\True)/\(mE zM True (rE (0:Int)/\True/\True/\True))/\(mE x1.1.A0 True (rE x1.1.A7/\True/\True/\True))/\rE x1.1.A0.Mem/\rE x1.1.B3/\rE x1.1.A9/\rE ((v0.2.2++x1.2):List (RK.T RK.apiOutput))/\True) (Sum.inl (wrap i64 (v0.1+1),x1.1,v0.2.2++x1.2)))))) (.lf (Sum.inr (v0.2.1,v0.2.2))))
def Z5q m l:=(Qde m l).m
abbrev Qvm m l:=(Qde m l).p
def Zj1:LInv:={
 α:=(Int)×Q02×(List Q03)
 F:=λst a=>([(1,(lk st 1)),(4, .ptr 0 0 0),(6, .ptr 1 0 0),(7, .all 5),(8, .int i64 a.1)],[⟨true,96,52, .gen [[(cT st 4 0),(cT st 4 1),(cT st 4 2),(cT st 4 3),(cT st 4 4),(cT st 4 5),(cT st 4 6),(cT st 4 7),(cT st 4 8),(cT st 4 9),(cT st 4 10),(cT st 4 11),(cT st 4 12),(cT st 4 13),(cT st 4 14),(cT st 4 15),(cT st 4 16),(cT st 4 17),(cT st 4 18),(cT st 4 19),(cT st 4 20),(cT st 4 21),(cT st 4 22),(cT st 4 23),(cT st 4 24),(cT st 4 25),(cT st 4 26),(cT st 4 27),(cT st 4 28),(cT st 4 29),(cT st 4 30),(cT st 4 31),(cT st 4 32),(cT st 4 33),(cT st 4 34),(cT st 4 35),(cT st 4 36),(cT st 4 37),(cT st 4 38),(cT st 4 39),(cT st 4 40),(cT st 4 41),(cT st 4 42),(cT st 4 43),(cT st 4 44),(cT st 4 45),(cT st 4 46),(cT st 4 47),(cT st 4 48),(cT st 4 49),(cT st 4 50),(cT st 4 51)]]⟩,⟨true,96,52, .gen [[.int u32 a.2.1.A0.B2.X.a0, .int u32 a.2.1.A0.B2.X.a1, .int u32 a.2.1.A0.B2.X.a2, .int u32 a.2.1.A0.B2.X.a3, .int u32 a.2.1.A0.B2.X.a4, .int u32 a.2.1.A0.B2.X.a5, .int u32 a.2.1.A0.B2.X.a6, .int u32 a.2.1.A0.B2.X.a7, .int u32 a.2.1.A0.B2.X.a8, .int u32 a.2.1.A0.B2.X.a9, .int u32 a.2.1.A0.B2.X.a10, .int u32 a.2.1.A0.B2.X.a11, .int u32 a.2.1.A0.B2.X.a12, .int u32 a.2.1.A0.B2.X.a13, .int u32 a.2.1.A0.B2.X.a14, .int u32 a.2.1.A0.B2.X.a15, .int u32 a.2.1.A0.B2.Pc, .int u32 a.2.1.A0.B2.B8.a0, .int u32 a.2.1.A0.B2.B8.a1, .int u32 a.2.1.A0.B2.B8.a2, .int u32 a.2.1.A0.B2.B8.a3, .int u32 a.2.1.A0.B2.B8.a4, .int u32 a.2.1.A0.B2.B8.a5, .int u32 a.2.1.A0.B2.B8.a6, .int u32 a.2.1.A0.B2.B8.a7, .all 2, .str a.2.1.A0.A3.D2, .bool a.2.1.A0.B0.D4, .int u32 a.2.1.A0.B0.C8, .bool a.2.1.A0.B0.D3, .int u32 a.2.1.A0.B1.Blocks, .int u32 a.2.1.A0.B1.C3, .int u32 a.2.1.A0.B1.Frame, .int i64 a.2.1.A0.B1.C4, .int i64 a.2.1.A0.B1.D8, .int u32 a.2.1.A0.B1.B9, .int u32 a.2.1.A0.B1.B4, .str a.2.1.A0.B1.C6, .int u32 a.2.1.A0.C2.Frame, .int u32 a.2.1.A0.C2.E0, .bool a.2.1.A0.C2.C7, .int u32 a.2.1.A0.C2.C1, .bool a.2.1.A0.C2.C0, .int u32 a.2.1.A0.C2.F1, .int u32 a.2.1.A0.A1.C9, .int u32 a.2.1.A0.A1.C5, .int u64 a.2.1.A0.A2, .bool a.2.1.A0.A4, .bool a.2.1.A0.A6, .int u32 a.2.1.A7, .all 3, .all 4]]⟩,⟨false,25,1, .ints u32 a.2.1.A0.Mem⟩,⟨false,126,4, .recs RK.apiEntry a.2.1.B3⟩,⟨false,66,3, .recs RK.apiEvent a.2.1.A9⟩,⟨false,71,4, .recs RK.apiOutput a.2.2⟩])
 a0:=λst=>((lk st 8).toInt,(⟨(mR (cT st 6) (Q3u st.rows (Q0p (cT st 6 25) 1000000))),(cT st 6 49).toInt,(Q5 RK.apiEntry st.rows (Q0p (cT st 6 50) 1000000)),(Q5 RK.apiEvent st.rows (Q0p (cT st 6 51) 1000000))⟩:Q02),(Q5 RK.apiOutput st.rows (rN st 7)))
 ex0:=λst=>[]++[(rX st 4 0),(rX st 6 1),(Q0p (cT st 6 25) (st.rows.length+2)),(Q0p (cT st 6 50) (st.rows.length+3)),(Q0p (cT st 6 51) (st.rows.length+4)),(rX st 7 5)]}
def Z7q:List (Nat×LInv):=[(4,Zj1)]
def Zkv:Q0f:=mT 57 [] true [.agg Q00.sig, .one (.ints .i64)] [] (λa r=>Qde (Q00.of (aC a 0)) (argL .i64 a 1)) (λX=> .tup [.agg (Q02.cellsW (X.1) (.all 0) (.all 1) (.all 2)), .all 3]) (λX=>[⟨false,25,1, .ints .u32 (X.1).A0.Mem⟩,⟨false,126,4, .recs .apiEntry (X.1).B3⟩,⟨false,66,3, .recs .apiEvent (X.1).A9⟩,⟨false,71,4, .recs .apiOutput (X.2)⟩])
theorem Zja:Q06 pG Zkv:=oT (.cons Qsk (.cons Zfl (.nil))) Tryz.func57 Tryz.call57 [.row 25 1 (.ints .u32), .row 126 4 (.recs .apiEntry), .row 66 3 (.recs .apiEvent), .row 71 4 (.recs .apiOutput)] Z7q 3
end
noncomputable section
def tblZe0:List UInt8:=[(105:UInt8),32,114,49,44,32,104,97,110,100,108,101,114,10,99,115,114,119,32,114,49,44,32,49,10,108,105,32,114,49,44,32,51,49,10,99,115,114,119,32,114]
def Zk2:List UInt8:=[(49:UInt8),44,32,55,10,108,105,32,114,49,44,32,52,10,99,115,114,119,32,114,49,44,32,54,10,108,105,32,114,50,44,32,53,49,50,10,108,105,32,114,51,44]
def Zgh:List UInt8:=[(32:UInt8),48,10,108,105,32,114,52,44,32,56,10,109,97,112,58,32,115,104,108,105,32,114,53,44,32,114,51,44,32,56,10,111,114,105,32,114,53,44,32,114,53]
def Zg0:List UInt8:=[(44:UInt8),32,55,10,115,104,108,105,32,114,54,44,32,114,51,44,32,50,10,97,100,100,32,114,54,44,32,114,54,44,32,114,50,10,115,119,32,114,53,44,32,48,40]
def Zh7:List UInt8:=[(114:UInt8),54,41,10,97,100,100,105,32,114,51,44,32,114,51,44,32,49,10,98,108,116,32,114,51,44,32,114,52,44,32,109,97,112,10,108,105,32,114,49,44,32]
def Zft:List UInt8:=[(54:UInt8),10,111,117,116,32,114,49,44,32,55,10,108,105,32,114,49,44,32,50,10,111,117,116,32,114,49,44,32,57,10,108,105,32,114,49,44,32,49,48,48,10,111]
def Zin:List UInt8:=[(117:UInt8),116,32,114,49,44,32,51,10,108,105,32,114,49,44,32,54,52,48,10,99,115,114,119,32,114,49,44,32,50,10,108,105,32,114,49,44,32,50,49,10,99]
def Zhs:List UInt8:=[(115:UInt8),114,119,32,114,49,44,32,48,10,101,114,101,116,10,104,97,110,100,108,101,114,58,32,99,115,114,119,32,114,49,44,32,53,10,99,115,114,114,32,114,49,44]
def Ziv:List UInt8:=[(32:UInt8),51,10,115,108,116,105,32,114,49,44,32,114,49,44,32,49,54,10,98,101,113,32,114,49,44,32,114,48,44,32,105,114,113,10,99,115,114,114,32,114,49]
def Zi:List UInt8:=[(44:UInt8),32,50,10,97,100,100,105,32,114,49,44,32,114,49,44,32,52,10,99,115,114,119,32,114,49,44,32,50,10,105,110,32,114,51,44,32,50,10,111,117,116]
def Z3y:List UInt8:=[(32:UInt8),114,51,44,32,48,10,108,105,32,114,49,44,32,49,10,111,117,116,32,114,49,44,32,52,10,108,105,32,114,49,44,32,55,10,111,117,116,32,114,49,44]
def Z47:List UInt8:=[(32:UInt8),53,10,97,110,100,105,32,114,49,44,32,114,50,44,32,49,10,97,100,100,105,32,114,49,44,32,114,49,44,32,49,10,111,117,116,32,114,49,44,32,54,10]
def Z3p:List UInt8:=[(99:UInt8),115,114,114,32,114,49,44,32,53,10,101,114,101,116,10,105,114,113,58,32,105,110,32,114,49,44,32,48,10,111,117,116,32,114,49,44,32,48,10,111,117]
def Z6i:List UInt8:=[(116:UInt8),32,114,48,44,32,54,10,111,117,116,32,114,48,44,32,57,10,108,105,32,114,49,44,32,54,10,111,117,116,32,114,49,44,32,55,10,108,105,32,114,49,44]
def Z6d:List UInt8:=[(32:UInt8),50,10,111,117,116,32,114,49,44,32,57,10,105,110,32,114,49,44,32,50,10,97,100,100,105,32,114,49,44,32,114,49,44,32,50,48,10,111,117,116,32]
def Z4y:List UInt8:=[(114:UInt8),49,44,32,51,10,105,110,32,114,49,44,32,49,48,10,111,117,116,32,114,49,44,32,49,48,10,99,115,114,114,32,114,49,44,32,53,10,101,114,101,116,10]
def Zmd:List UInt8:=[(108:UInt8),105,32,114,49,44,32,104,97,110,100,108,101,114,10,99,115,114,119,32,114,49,44,32,49,10,108,105,32,114,49,44,32,51,49,10,99,115,114,119,32,114]
instance sumInhZe {α β:Type} [Inhabited β]:Inhabited (α⊕β):=⟨.inr default⟩
def Qn9(l:List Q0a)(z:(Int)):Prop:=1<=z/\(z<=l.length\/z=1)
def Q52(l:List Q0a)(z:(Int)):Nat:=(l.length-z).toNat
def Q99(l:List Q0a):Tree Bool:=
.lp inferInstance (Q52 l 1+1) ((nR RK.apiEntry 4 l/\rE (1:Int)/\True)/\True) 1 λ(v0:Int)=> .br (decide (v0<(l.length:Int))) (let E4:=bS 4 4&&bT 0 4&&decide (0<=v0/\v0<(l.length:Int)); .cn E4 (let E2:=bS 4 4&&bT 0 4&&decide (0<=wrap i64 (v0-1)/\wrap i64 (v0-1)<(l.length:Int)); .cn E2 (let E3:=l.getD (cZ (wrap i64 (v0-1))) (RK.dflt RK.apiEntry);let E5:=l.getD v0.toNat (RK.dflt RK.apiEntry); .br (decide (E5.At<E3.At)) (.lf (Sum.inr false)) (.cn E4 (.cn E2 (let T1:Tree ((Int)⊕(Bool)):= .nx ((nR RK.apiEntry 4 l/\rE ((wrap i64 (v0+1)):Int)/\True)/\True) (Sum.inl (wrap i64 (v0+1))); .br (E5.At==E3.At) (.cn E2 (.br (E3.B6.B7==1) (.lf (Sum.inr false)) T1)) T1)))))) (.lf (Sum.inr true))
def Qhp l:=(Q99 l).m
def Q6r(l:List Q0a):Prop:=
l.length<=1000000000000
theorem Z12(l:List Q0a)(hw:Q6r l):(Q99 l).p:=by
 simp only[Q6r]at hw
 unfold Tree.p Q99
 repeat'(first|refine w_lp (inv:=Qn9 l) (μ:=Q52 l) ?_ (cK _) (λ_ _=> ?_)|exact trivial|refine w_br (λ_=> ?_) (λ_=> ?_)|refine w_cn ?_ ?_|refine w_an ?_ ?_|refine w_lv (λ_ _=> ?_)|refine w_nx ?_|refine w_lf ?_|refine And.intro ?_ ?_)
 all_goals((try simp only[Qn9,Q52]at*);exact fin0)
def Z3x:LInv:={
 α:=(Int)
 F:=λst a=>([(0,(lk st 0)),(3, .int i64 a)],[])
 a0:=λst=>(lk st 3).toInt
 ex0:=λst=>[]++[]}
def Qxw:List (Nat×LInv):=[(2,Z3x)]
def Z8p:Q0f:=mkP 155 [] true [.one (.recs .apiEntry)] [] (λa r=>Q6r (argR .apiEntry a 0)) (λa r=>Qhp (argR .apiEntry a 0)) (λX=> .bool X) (λX=>[])
theorem Qq5:Q06 pG Z8p:=Q0m drawn Q0k (.nil) Tryz.func155 Tryz.call155 (λa r=>Q99 (argR .apiEntry a 0)) [] Qxw 3 (hp:=λa r h=>Z12 (argR .apiEntry a 0) h)
def Qp5(m:Q00)(script:List Q0a)(until0:Int)(z:Q00×(List Q03)):Nat:=(until0-z.1.A2).toNat
def Qp9(m:Q00)(script:List Q0a)(until0:Int)(v0:Q00×List Q03)(z:Unit):Nat:=0
def Qhe(m:Q00)(script:List Q0a)(until0:Int):Tree (Q00×(List Q03)×Int×Int):=
.lv (Q25 m) λ(x0:Bool)=>let E2:=({B2:={X:={a0:=0,a1:=0,a2:=0,a3:=0,a4:=0,a5:=0,a6:=0,a7:=0,a8:=0,a9:=0,a10:=0,a11:=0,a12:=0,a13:=0,a14:=0,a15:=0},Pc:=0,B8:={a0:=0,a1:=0,a2:=0,a3:=0,a4:=0,a5:=0,a6:=0,a7:=0}},Mem:=[],A3:={D2:=[]},B0:={D4:=false,C8:=0,D3:=false},B1:={Blocks:=0,C3:=0,Frame:=0,C4:=0,D8:=0,B9:=0,B4:=0,C6:=[]},C2:={Frame:=0,E0:=0,C7:=false,C1:=0,C0:=false,F1:=0},A1:={C9:=0,C5:=0},A2:=0,A4:=false,A6:=false}:Q00);let T1:Tree ((Q00×(List Q03)×Int×Int)):= .lf (E2,[],0,1300); .br (!x0) T1 (.br (decide (until0<m.A2)) T1 (.br (decide (wrap u64 (until0-m.A2)>4000)) T1 (.an (Q6r []) (.lv (Qhp []) λ(x1:Bool)=> .br (!x1) (.lf (E2,[],0,1301)) (.an (Qaj m) (.lv (Qio m) λ(x2:Q00)=> .lp inferInstance (Qp5 m script until0 (x2,[])+1) ((((Els.Nil (Els.gen [])\/rE (0:Nat))/\rE ([]:List (List D)))/\rE (until0:Int)/\rZ/\rZ/\True/\rE (0:Int)/\True)/\(mE x2 True True)/\rE x2.Mem/\(mE zM True True)/\rE ([]:List (RK.T RK.apiOutput))/\True) (x2,[]) λ(v0:Q00×List Q03)=> .br (decide (v0.1.A2<until0)) (.br (decide (v0.1.A2<1152921504606846976)) (.lp inferInstance (Qp9 m script until0 v0 ()+1) ((((Els.Nil (Els.gen [])\/rE (0:Nat))/\rE ([]:List (List D)))/\rE (until0:Int)/\rZ/\rZ/\True/\rE (0:Int)/\(rE (0:Nat)/\rE (46:Nat))/\rE v0.1.A2/\rE ((decide (v0.1.A2<1152921504606846976)):Bool)/\True)/\(mE v0.1 True True)/\rE v0.1.Mem/\(mE zM True True)/\rE v0.2/\True) () λ(v1:PUnit)=> .br v0.1.A6 (.lf (Sum.inr (Sum.inr (v0.1,v0.2,0,0)))) (.an (Qof v0.1) (.lv (Qev v0.1) λ(x3:Bool)=> .br x3 (.lf (Sum.inr (Sum.inr (v0.1,v0.2,0,0)))) (.an (Qma v0.1) (.lv (Qmv v0.1) λ(x4:Bool)=> .br (!false==x4) (.lf (Sum.inr (Sum.inr (E2,[],0,1302)))) (.an (Qp v0.1 0) (.lv (Q0r v0.1 0) λ(x5:List Q03×Q00)=> .cn (decide (40*(v0.2.length+x5.1.length)<=140737488355328)) (.nx ((((Els.Nil (Els.gen [])\/rE (0:Nat))/\rE ([]:List (List D)))/\rE (until0:Int)/\rZ/\rZ/\True/\rE (0:Int)/\True)/\(mE x5.2 True True)/\rE x5.2.Mem/\(mE zM True True)/\rE ((v0.2++x5.1):List (RK.T RK.apiOutput))/\True) (Sum.inr (Sum.inl (x5.2,v0.2++x5.1))))))))))) (.lf (Sum.inr (v0.1,v0.2,0,0)))) (.lf (Sum.inr (v0.1,v0.2,0,0)))))))))
def Qmt m script until0:=(Qhe m script until0).m
abbrev Qce m script until0:=(Qhe m script until0).p
def Zdp:LInv:={
 α:=Q00×(List Q03)
 F:=λst a=>([(1,(lk st 1)),(2,(lk st 2)),(3, .ptr 0 0 0),(6, .ptr 2 0 0),(10, .all 3),(11,(lk st 11))],[⟨true,43,49, .gen [mD a.1 (.all 1)]⟩,⟨false,25,1, .ints u32 a.1.Mem⟩,⟨true,43,49, .gen [mB (cT st 6)]⟩,⟨false,71,4, .recs RK.apiOutput a.2⟩])
 a0:=λst=>((mR (cT st 3) (Q3u st.rows (Q0p (cT st 3 25) 1000000))),(Q5 RK.apiOutput st.rows (rN st 10)))
 ex0:=λst=>[]++[(rX st 3 0),(Q0p (cT st 3 25) (st.rows.length+1)),(rX st 6 2),(rX st 10 3)]}
def Zf6:LInv:={
 α:=Unit
 F:=λst a=>([(1,(lk st 1)),(2,(lk st 2)),(3, .ptr 0 0 0),(6, .ptr 2 0 0),(10, .all 3),(11,(lk st 11)),(61, .ptr 0 0 46),(62,(lk st 62)),(63,(lk st 63))],[⟨true,43,49, .gen [[(cT st 3 0),(cT st 3 1),(cT st 3 2),(cT st 3 3),(cT st 3 4),(cT st 3 5),(cT st 3 6),(cT st 3 7),(cT st 3 8),(cT st 3 9),(cT st 3 10),(cT st 3 11),(cT st 3 12),(cT st 3 13),(cT st 3 14),(cT st 3 15),(cT st 3 16),(cT st 3 17),(cT st 3 18),(cT st 3 19),(cT st 3 20),(cT st 3 21),(cT st 3 22),(cT st 3 23),(cT st 3 24), .all 1,(cT st 3 26),(cT st 3 27),(cT st 3 28),(cT st 3 29),(cT st 3 30),(cT st 3 31),(cT st 3 32),(cT st 3 33),(cT st 3 34),(cT st 3 35),(cT st 3 36),(cT st 3 37),(cT st 3 38),(cT st 3 39),(cT st 3 40),(cT st 3 41),(cT st 3 42),(cT st 3 43),(cT st 3 44),(cT st 3 45),(cT st 3 46),(cT st 3 47),(cT st 3 48)]]⟩,⟨false,25,1,esOf st.rows (Q0p (cT st 3 25) 1000000)⟩,⟨true,43,49, .gen [mB (cT st 6)]⟩,⟨false,71,4,esOf st.rows (rN st 10)⟩])
 a0:=λst=>()
 ex0:=λst=>[]++[(rX st 3 0),(Q0p (cT st 3 25) (st.rows.length+1)),(rX st 6 2),(rX st 10 3)]}
def Z6u:List (Nat×LInv):=[(8,Zdp),(9,Zf6)]
def Zgy:Q0f:=mT 75 [] true [.agg Q00.sig, .one .nil, .one (.int .u64)] [] (λa r=>Qhe (Q00.of (aC a 0)) (argR .apiEntry a 1) (argI a 2)) (λX=> .tup [.agg (Q00.cellsW (X.1) (.all 0)), .all 1, .int .i64 (X.2.2.1), .int .i64 (X.2.2.2)]) (λX=>[⟨false,25,1, .ints .u32 (X.1).Mem⟩,⟨false,71,4, .recs .apiOutput (X.2.1)⟩])
theorem Zdz:Q06 pG Zgy:=oT (.cons Qjo (.cons Qq5 (.cons Qky (.cons Zf8 (.cons Qzu (.cons Qwo (.cons Z3l (.nil)))))))) Tryz.func75 Tryz.call75 [.row 25 1 (.ints .u32), .row 71 4 (.recs .apiOutput)] Z6u 3
def Qle(kind:Int)(l z:List Int):Nat:=160-z.length
def Qcr(kind:Int)(l:List Int):Tree Q00:=
.an (Q2z kind 3) (.lv (Q3q kind 3) λ(x0:Int)=> .br (decide (x0<2)) (.an (Qb5 ((108:UInt8)::(tblZe0++Zk2++(Zgh++Zg0)++(Zh7++Zft++(Zin++Zhs))++(Ziv++Zi++(Z3y++Z47)++(Z3p++Z6i++(Z6d++Z4y)))))) (.lv (Q1o (cO (cO (cO (cO Zmd Zk2) (cO Zgh Zg0)) (cO (cO Zh7 Zft) (cO Zin Zhs))) (cO (cO (cO Ziv Zi) (cO Z3y Z47)) (cO (cO Z3p Z6i) (cO Z6d Z4y))))) λ(x1:List Int×Q1l)=> .lp inferInstance (Qle kind l x1.1+1) ((rE (x0:Int)/\((Els.Nil (Els.ints i64 l)\/rE (1:Nat))/\rE (l:List Int))/\rZ/\True/\True)/\(mE zM True True)/\rE x1.1/\True) x1.1 λ(v0:List Int)=> .br (decide ((v0.length:Int)<(160:Int))) (.cn (decide (4*(v0.length+1)<=140737488355328)) (.nx ((rE (x0:Int)/\((Els.Nil (Els.ints i64 l)\/rE (1:Nat))/\rE (l:List Int))/\rZ/\True/\True)/\(mE zM True True)/\rE ((v0++[0]):List Int)/\True) (Sum.inl (v0++[0])))) (.an (Qnl l) (.lv (Z6t l) λ(x2:List Int)=> .cn (decide (4*(v0.length+x2.length)<=140737488355328)) (.br (decide ((↑(dF (v0++x2)):Int)>(256:Int))) (.cn (bS 1 1&&bT 0 1&&decide ((0:Int)<=(0:Int)/\(0:Int)<=(256:Int)/\256<=(↑(dF (v0++x2)):Int))) (let E1:=cY (cZ 256-cZ 0) (dA (cZ 0) (v0++x2)); .an (Qa9 8 4 E1) (.lv (Qs8 8 4 E1) λ(x3:Q00×Bool)=> .br (x0==1) (.an (Qce x3.1 [] 87) (.lv (Qmt x3.1 [] 87) λ(x4:Q00×List Q03×Int×Int)=> .lf (Sum.inr x4.1))) (.lf (Sum.inr x3.1))))) (.an (Qa9 8 4 (v0++x2)) (.lv (Qs8 8 4 (v0++x2)) λ(x5:Q00×Bool)=> .br (x0==1) (.an (Qce x5.1 [] 87) (.lv (Qmt x5.1 [] 87) λ(x6:Q00×List Q03×Int×Int)=> .lf (Sum.inr x6.1))) (.lf (Sum.inr x5.1))))))))) (.an (Qnl l) (.lv (Z6t l) λ(x7:List Int)=> .cn (decide (4*(0+x7.length)<=140737488355328)) (.br (decide ((x7.length:Int)>(256:Int))) (.cn (bS 1 1&&bT 0 1&&decide ((0:Int)<=(0:Int)/\(0:Int)<=(256:Int)/\256<=(x7.length:Int))) (let E2:=cY (cZ 256-cZ 0) (dA (cZ 0) x7); .an (Qa9 8 4 E2) (.lv (Qs8 8 4 E2) λ(x8:Q00×Bool)=> .br (x0==1) (.an (Qce x8.1 [] 87) (.lv (Qmt x8.1 [] 87) λ(x9:Q00×List Q03×Int×Int)=> .lf x9.1)) (.lf x8.1)))) (.an (Qa9 8 4 x7) (.lv (Qs8 8 4 x7) λ(x10:Q00×Bool)=> .br (x0==1) (.an (Qce x10.1 [] 87) (.lv (Qmt x10.1 [] 87) λ(x11:Q00×List Q03×Int×Int)=> .lf x11.1)) (.lf x10.1)))))))
def Z0n kind l:=(Qcr kind l).m
abbrev Qow kind l:=(Qcr kind l).p
def Z2r:LInv:={
 α:=(List Int)
 F:=λst a=>([(0,(lk st 0)),(1,(lk st 1)),(4, .ptr 0 0 0),(5, .all 1)],[⟨true,43,49, .gen [mB (cT st 4)]⟩,⟨false,25,1, .ints u32 a⟩])
 a0:=λst=>(Q3u st.rows (rN st 5))
 ex0:=λst=>[]++[(rX st 4 0),(rX st 5 1)]}
def Qxm:List (Nat×LInv):=[(5,Z2r)]
def Z8g:Q0f:=mT 41 [] true [.one (.int .i64), .one (.ints .i64)] [] (λa r=>Qcr (argI a 0) (argL .i64 a 1)) (λX=> .agg (Q00.cellsW X (.all 0))) (λX=>[⟨false,25,1, .ints .u32 X.Mem⟩])
theorem Z2p:Q06 pG Z8g:=oT (.cons Qia (.cons Z0v (.cons Zi3 (.cons Z30 (.cons Zdz (.nil)))))) Tryz.func41 Tryz.call41 [.row 25 1 (.ints .u32)] Qxm 3
end
noncomputable section
def Qz5(l acts:List Int):Tree Bool:=
.br (decide ((l.length:Int)<=(40:Int))) (.lf (decide ((acts.length:Int)<=(30:Int)))) (.lf false)
def Qvv l acts:=(Qz5 l acts).m
def Zqq:Q0f:=mS 15 [] true [.one (.ints .i64), .one (.ints .i64)] [] (λa r=>Qz5 (argL .i64 a 0) (argL .i64 a 1)) (λX=> .bool X) (λX=>[])
theorem Zn6:Q06 pG Zqq:=oS (.nil) Tryz.func15 Tryz.call15 [] [] 2
def Qpt(t:Q0j):Tree (Q0j×Bool):=
.br (!t.D4) (.lf (t,false)) (.lf ({D4:=false,C8:=t.C8,D3:=true},true))
def Qn7 t:=(Qpt t).m
def Zg8:Q0f:=mS 130 [] true [.agg Q0j.sig] [] (λa r=>Qpt (Q0j.of (aC a 0))) (λX=> .tup [.agg (Q0j.cells (X.1)), .bool (X.2)]) (λX=>[])
theorem Zd1:Q06 pG Zg8:=oS (.nil) Tryz.func130 Tryz.call130 [] [] 2
def Qcn(c:Q0e)(b:Int):Tree (Q0e×Bool):=
.br (decide ((c.D2.length:Int)>=(16:Int))) (.lf (c,false)) (.cn (decide (c.D2.length+1<=maxLen)) (.lf ({D2:=c.D2++[(λ(n:Int)=>eS n.toNat) b]},true)))
def Qpm c b:=(Qcn c b).m
abbrev Qpb c b:=(Qcn c b).p
def Z8u:Q0f:=mT 131 [] true [.agg Q0e.sig, .one (.int .u8)] [] (λa r=>Qcn (Q0e.of (aC a 0)) (argI a 1)) (λX=> .tup [.agg (Q0e.cells (X.1)), .bool (X.2)]) (λX=>[])
theorem Z5n:Q06 pG Z8u:=oT (.nil) Tryz.func131 Tryz.call131 [] [] 2
def Q8a(d0:Q0h)(m:List Int)(e:Q0b):Tree (Q0h×(List Int)×Bool):=
let T2:Tree ((Q0h×(List Int)×Bool)):= .an (Q09 m) (.lv (Q04 m) λ(x0:List Int)=> .lf (d0,x0,false)); .br (d0.C4 !=1) T2 (.br (e.B7 !=4) T2 (.br (decide (e.N>1)) T2 (.an (Q09 m) (.lv (Q04 m) λ(x3:List Int)=>let E3:=({Blocks:=d0.Blocks,C3:=d0.C3,Frame:=d0.Frame,C4:=2,D8:=0,B9:=0,B4:=0,C6:=[]}:Q0h);let E4:=({Blocks:=d0.Blocks,C3:=d0.C3,Frame:=d0.Frame,C4:=3,D8:=0,B9:=0,B4:=0,C6:=[]}:Q0h);let T1:Tree ((Q0h×(List Int)×Bool)):= .br (!decide (e.D0=[])) (.lf (d0,x3,false)) (.br (e.N==1) (.lf (E3,x3,true)) (.lf (E4,x3,true))); .br (e.N==1) (.br (d0.D8==1) (.lv (Qap m d0.B4) λ(x4:Bool)=> .br (!x4) (.lf (d0,x3,false)) (.an (Q9l m (wrap i64 d0.B4) e.D0) (.lv (Q2y m (wrap i64 d0.B4) e.D0) λ(x5:List Int×Bool)=> .br (!x5.2) (.lf (d0,x5.1,false)) (.br (e.N==1) (.lf (E3,x5.1,true)) (.lf (E4,x5.1,true)))))) T1) T1))))
def Qis d0 m e:=(Q8a d0 m e).m
abbrev Qn3 d0 m e:=(Q8a d0 m e).p
def Z6b:Q0f:=mT 132 [] true [.agg Q0h.sig, .one (.ints .u32), .agg Q0b.sig] [] (λa r=>Q8a (Q0h.of (aC a 0)) (argL .u32 a 1) (Q0b.of (aC a 2))) (λX=> .tup [.agg (Q0h.cells (X.1)), .all 0, .bool (X.2.2)]) (λX=>[⟨false,25,1, .ints .u32 (X.2.1)⟩])
theorem Z22:Q06 pG Z6b:=oT (.cons Q0w (.cons Qt2 (.cons Qfn (.nil)))) Tryz.func132 Tryz.call132 [.row 25 1 (.ints .u32)] [] 2
def Qbj(n:Q0q)(m:List Int)(frame:List UInt8):Tree (Q0q×(List Int)×Bool):=
let T1:Tree ((Q0q×(List Int)×Bool)):= .an (Q09 m) (.lv (Q04 m) λ(x0:List Int)=> .lf (n,x0,false)); .br (!n.C7) T1 (.br (decide ((frame.length:Int)<(1:Int))) T1 (.br (decide ((frame.length:Int)>(128:Int))) T1 (.lv (Qbg m n.C1) λ(x3:Bool)=> .br (!x3) T1 (.an (Qfe m (wrap i64 n.C1)) (.lv (Q5z m (wrap i64 n.C1)) λ(x5:List UInt8×Bool)=> .cn (decide (0<=(frame.length:Int)/\(frame.length:Int)<=(x5.1.length:Int)/\(x5.1.length:Int)<=(x5.1.length:Int))) (let E2:=cZ (x5.1.length:Int)-cZ (frame.length:Int);let E3:=dA (cZ (frame.length:Int)) x5.1; .cn (decide (frame.length+dF (cY E2 E3)<=maxLen)) (.an (Q9l m (wrap i64 n.C1) (frame++cY E2 E3)) (.lv (Q2y m (wrap i64 n.C1) (frame++cY E2 E3)) λ(x6:List Int×Bool)=> .lf ({Frame:=n.Frame,E0:=n.E0,C7:=false,C1:=0,C0:=true,F1:=wrap u32 (frame.length:Int)},x6.1,true)))))))))
def Qo4 n m frame:=(Qbj n m frame).m
abbrev Qqy n m frame:=(Qbj n m frame).p
def Zeb:Q0f:=mT 133 [] true [.agg Q0q.sig, .one (.ints .u32), .one (.str)] [] (λa r=>Qbj (Q0q.of (aC a 0)) (argL .u32 a 1) (argS a 2)) (λX=> .tup [.agg (Q0q.cells (X.1)), .all 0, .bool (X.2.2)]) (λX=>[⟨false,25,1, .ints .u32 (X.2.1)⟩])
theorem Z7c:Q06 pG Zeb:=oT (.cons Qo (.cons Q0w (.cons Qm2 (.cons Qfn (.nil))))) Tryz.func133 Tryz.call133 [.row 25 1 (.ints .u32)] [] 2
def Q4q(m:Q00)(e:Q0b):Tree (Q00×Bool):=
.an (Q09 m.Mem) (.lv (Q04 m.Mem) λ(x0:List Int)=>let E2:=({B2:=m.B2,Mem:=x0,A3:=m.A3,B0:=m.B0,B1:=m.B1,C2:=m.C2,A1:=m.A1,A2:=m.A2,A4:=m.A4,A6:=m.A6}:Q00); .an (Q7u E2) (.lv (Q18 E2) λ(x1:Bool)=>let T1:Tree ((Q00×Bool)):= .lf (E2,false); .br (!x1) T1 (.br m.A6 T1 (.br (e.B7==2) (.br (e.N==0) (.br (decide (e.D0=[])) (.lv (Qn7 m.B0) λ(x2:Q0j×Bool)=> .lf ({B2:=m.B2,Mem:=x0,A3:=m.A3,B0:=x2.1,B1:=m.B1,C2:=m.C2,A1:=m.A1,A2:=m.A2,A4:=m.A4,A6:=m.A6},x2.2)) T1) T1) (.br (e.B7==3) (.br (decide (e.N<=255)) (.br (decide (e.D0=[])) (.an (Qpb m.A3 (wrap u8 e.N)) (.lv (Qpm m.A3 (wrap u8 e.N)) λ(x3:Q0e×Bool)=> .lf ({B2:=m.B2,Mem:=x0,A3:=x3.1,B0:=m.B0,B1:=m.B1,C2:=m.C2,A1:=m.A1,A2:=m.A2,A4:=m.A4,A6:=m.A6},x3.2))) T1) T1) (.br (e.B7==4) (.an (Qn3 m.B1 x0 e) (.lv (Qis m.B1 x0 e) λ(x4:Q0h×List Int×Bool)=> .lf ({B2:=m.B2,Mem:=x4.2.1,A3:=m.A3,B0:=m.B0,B1:=x4.1,C2:=m.C2,A1:=m.A1,A2:=m.A2,A4:=m.A4,A6:=m.A6},x4.2.2))) (.br (e.B7==5) (.br (e.N==0) (.an (Qqy m.C2 x0 e.D0) (.lv (Qo4 m.C2 x0 e.D0) λ(x5:Q0q×List Int×Bool)=> .lf ({B2:=m.B2,Mem:=x5.2.1,A3:=m.A3,B0:=m.B0,B1:=m.B1,C2:=x5.1,A1:=m.A1,A2:=m.A2,A4:=m.A4,A6:=m.A6},x5.2.2))) T1) (.br (e.B7==6) (.br (decide (e.D0=[])) (.lf ({B2:=m.B2,Mem:=x0,A3:=m.A3,B0:=m.B0,B1:=m.B1,C2:=m.C2,A1:={C9:=e.N,C5:=m.A1.C5},A2:=m.A2,A4:=m.A4,A6:=m.A6},true)) T1) T1))))))))
def Q70 m e:=(Q4q m e).m
abbrev Qax m e:=(Q4q m e).p
def Z5b:Q0f:=mT 38 [] true [.agg Q00.sig, .agg Q0b.sig] [] (λa r=>Q4q (Q00.of (aC a 0)) (Q0b.of (aC a 1))) (λX=> .tup [.agg (Q00.cellsW (X.1) (.all 0)), .bool (X.2)]) (λX=>[⟨false,25,1, .ints .u32 (X.1).Mem⟩])
theorem Qi1:Q06 pG Z5b:=oT (.cons Q0w (.cons Qca (.cons Zd1 (.cons Z5n (.cons Z22 (.cons Z7c (.nil))))))) Tryz.func38 Tryz.call38 [.row 25 1 (.ints .u32)] [] 2
end
noncomputable section
instance sumInhRa {α β:Type} [Inhabited β]:Inhabited (α⊕β):=⟨.inr default⟩
def Q14(s:List Q0a):(List Q0a):=
s
def Q0y(s:List Q0a):Prop:=
s.length<=3518437208883
def Q2o(s:List Q0a):List D:=[.sl 4 (.recs .apiEntry s) false]
def Q21(s:List Q0a):List Row:=[]
def Q1c(X:List Q0a):D:= .all 0
def Q1f(X:List Q0a):List Row:=[⟨false,126,4, .recs .apiEntry X⟩]
def Qbt:List Dir:=[.row 126 4 (.recs .apiEntry)]
def Q5q:List PT:=[.one (.recs .apiEntry)]
def Q5c:List RT:=[]
def Qcp(args:List D)(rows:List Row):(List Q0a):=Q14 (argR .apiEntry args 0)
def Qcf(args:List D)(rows:List Row):Prop:=Q0y (argR .apiEntry args 0)
def Qea:Q0f:=mkP 210 [] true Q5q Q5c Qcf Qcp Q1c Q1f
def Q3c(s:List Q0a)(Leaf:(List Q0a)->Prop):Prop:=
(s=[]->Leaf [])/\cand (decide ((40:Nat)*((0:Nat)+s.length)<=(140737488355328:Nat))) (Leaf s)
set_option maxRecDepth 100000 in
theorem Qdp(s:List Q0a)(Q:D->List Row->Prop):(fnVC tab [] (LL tab [] Tryz.f210.ntmps 0 [] 2) Tryz.f210 (Q2o s) (Q21 s) λd R=>Qat (Q21 s).length Qbt d R Q)=Q3c s (λX=>Q (Q1c X) (Q1f X)):=by kernel_rfl
theorem Qc3(s:List Q0a)(Leaf:(List Q0a)->Prop)(hw:Q0y s)(h:Leaf (Q14 s)):
Q3c s Leaf:=by
 delta Q3c
 refine⟨λe=>by rw[e]at h;exact h,?_⟩
 rw[Q08]
 refine⟨dY ?_,h⟩
 have:s.length<=3518437208883:=hw
 omega
set_option maxRecDepth 100000 in
theorem Qb2(s:List Q0a)(hw:Q0y s):Q4b pG 210 (Q2o s) (Q21 s) (Q1c (Q14 s)) (Q1f (Q14 s)):=
 have hG:Q7l pG []:= .nil
 FnOK.calls drawn Q0k hG Tryz.func210 (rf:=none) (λ_ _=>trivial) (Zrr drawn Q0k hG (.inl rfl) 2 (invs:=[])) (FnOK.of (Qdp s _) (Qc3 s (λX=>Q1c X=Q1c (Q14 s)/\Q1f X=Q1f (Q14 s)) hw ⟨rfl,rfl⟩))
set_option maxRecDepth 100000 in
theorem Qbx(args:List D)(rows:List Row):Qh2 Q5q args 0=Q2o (argR .apiEntry args 0):=by kernel_rfl
set_option maxRecDepth 100000 in
theorem Qay(args:List D)(rows:List Row):Q6j Q5c rows 0=Q21 (argR .apiEntry args 0):=by kernel_rfl
set_option maxRecDepth 100000 in
theorem Qdb(X:List Q0a):(ffB (Q1c X)&&ffBR (Q1f X))=true:=by kernel_rfl
theorem Q66:Q06 pG Qea:=Qzx Tryz.call210 (λargs rows hp=>by rw[Qbx args rows,Qay args rows];exact Qb2 (argR .apiEntry args 0) hp) (λ_ X=>Qdb X)
def Q1b(s:List Q0b):(List Q0b):=
s
def Q13(s:List Q0b):Prop:=
s.length<=3518437208883
def Q2r(s:List Q0b):List D:=[.sl 3 (.recs .apiEvent s) false]
def Q2(s:List Q0b):List Row:=[]
def Q1d(X:List Q0b):D:= .all 0
def Q1e(X:List Q0b):List Row:=[⟨false,66,3, .recs .apiEvent X⟩]
def Qby:List Dir:=[.row 66 3 (.recs .apiEvent)]
def Q5t:List PT:=[.one (.recs .apiEvent)]
def Q5d:List RT:=[]
def Qck(args:List D)(rows:List Row):(List Q0b):=Q1b (argR .apiEvent args 0)
def Qct(args:List D)(rows:List Row):Prop:=Q13 (argR .apiEvent args 0)
def Qe9:Q0f:=mkP 211 [] true Q5t Q5d Qct Qck Q1d Q1e
def Q3d(s:List Q0b)(Leaf:(List Q0b)->Prop):Prop:=
(s=[]->Leaf [])/\cand (decide ((32:Nat)*((0:Nat)+s.length)<=(140737488355328:Nat))) (Leaf s)
set_option maxRecDepth 100000 in
theorem Qdf(s:List Q0b)(Q:D->List Row->Prop):(fnVC tab [] (LL tab [] Tryz.f211.ntmps 0 [] 2) Tryz.f211 (Q2r s) (Q2 s) λd R=>Qat (Q2 s).length Qby d R Q)=Q3d s (λX=>Q (Q1d X) (Q1e X)):=by kernel_rfl
theorem Qc1(s:List Q0b)(Leaf:(List Q0b)->Prop)(hw:Q13 s)(h:Leaf (Q1b s)):
Q3d s Leaf:=by
 delta Q3d
 refine⟨λe=>by rw[e]at h;exact h,?_⟩
 rw[Q08]
 refine⟨dY ?_,h⟩
 have:s.length<=3518437208883:=hw
 omega
set_option maxRecDepth 100000 in
theorem Qbl(s:List Q0b)(hw:Q13 s):Q4b pG 211 (Q2r s) (Q2 s) (Q1d (Q1b s)) (Q1e (Q1b s)):=
 have hG:Q7l pG []:= .nil
 FnOK.calls drawn Q0k hG Tryz.func211 (rf:=none) (λ_ _=>trivial) (Zrr drawn Q0k hG (.inl rfl) 2 (invs:=[])) (FnOK.of (Qdf s _) (Qc1 s (λX=>Q1d X=Q1d (Q1b s)/\Q1e X=Q1e (Q1b s)) hw ⟨rfl,rfl⟩))
set_option maxRecDepth 100000 in
theorem Qbu(args:List D)(rows:List Row):Qh2 Q5t args 0=Q2r (argR .apiEvent args 0):=by kernel_rfl
set_option maxRecDepth 100000 in
theorem Qau(args:List D)(rows:List Row):Q6j Q5d rows 0=Q2 (argR .apiEvent args 0):=by kernel_rfl
set_option maxRecDepth 100000 in
theorem Qdn(X:List Q0b):(ffB (Q1d X)&&ffBR (Q1e X))=true:=by kernel_rfl
theorem Qd8:Q06 pG Qe9:=Qzx Tryz.call211 (λargs rows hp=>by rw[Qbu args rows,Qau args rows];exact Qbl (argR .apiEvent args 0) hp) (λ_ X=>Qdn X)
def Q6f(r:Q02):Tree Q02:=
.an (Q09 r.A0.Mem) (.lv (Q04 r.A0.Mem) λ(x0:List Int)=> .an (Q0y r.B3) (.lv (Q14 r.B3) λ(x1:List Q0a)=> .an (Q13 r.A9) (.lv (Q1b r.A9) λ(x2:List Q0b)=> .lf ({A0:={B2:=r.A0.B2,Mem:=x0,A3:=r.A0.A3,B0:=r.A0.B0,B1:=r.A0.B1,C2:=r.A0.C2,A1:=r.A0.A1,A2:=r.A0.A2,A4:=r.A0.A4,A6:=r.A0.A6},A7:=r.A7,B3:=x1,A9:=x2}))))
def Qnw r:=(Q6f r).m
abbrev Qbc r:=(Q6f r).p
def Z6v:Q0f:=mT 145 [] true [.agg Q02.sig] [] (λa r=>Q6f (Q02.of (aC a 0))) (λX=> .agg (Q02.cellsW X (.all 0) (.all 1) (.all 2))) (λX=>[⟨false,25,1, .ints .u32 X.A0.Mem⟩,⟨false,126,4, .recs .apiEntry X.B3⟩,⟨false,66,3, .recs .apiEvent X.A9⟩])
theorem Z0y:Q06 pG Z6v:=oT (.cons Q0w (.cons Q66 (.cons Qd8 (.nil)))) Tryz.func145 Tryz.call145 [.row 25 1 (.ints .u32), .row 126 4 (.recs .apiEntry), .row 66 3 (.recs .apiEvent)] [] 2
def Q9z(m:Q00):Tree Q02:=
.an (Qbc {A0:=m,A7:=0,B3:=[],A9:=[]}) (.lv (Qnw {A0:=m,A7:=0,B3:=[],A9:=[]}) λ(x0:Q02)=> .lf x0)
def Zb6 m:=(Q9z m).m
abbrev Qmi m:=(Q9z m).p
def Zhq:Q0f:=mT 54 [] true [.agg Q00.sig] [] (λa r=>Q9z (Q00.of (aC a 0))) (λX=> .agg (Q02.cellsW X (.all 0) (.all 1) (.all 2))) (λX=>[⟨false,25,1, .ints .u32 X.A0.Mem⟩,⟨false,126,4, .recs .apiEntry X.B3⟩,⟨false,66,3, .recs .apiEvent X.A9⟩])
theorem Zbt:Q06 pG Zhq:=oT (.cons Z0y (.nil)) Tryz.func54 Tryz.call54 [.row 25 1 (.ints .u32), .row 126 4 (.recs .apiEntry), .row 66 3 (.recs .apiEvent)] [] 2
def Qhz(e:Q0b):Tree Bool:=
.br (e.B7==1) (.lf (decide (e.D0=[]))) (.br (e.B7==6) (.lf (decide (e.D0=[]))) (.br (e.B7==2) (.br (e.N==0) (.lf (decide (e.D0=[]))) (.lf false)) (.br (e.B7==3) (.br (decide (e.N<=255)) (.lf (decide (e.D0=[]))) (.lf false)) (.br (e.B7==4) (.br (e.N==1) (.br (decide (e.D0=[])) (.lf true) (.lf ((e.D0.length:Int)==(128:Int)))) (.br (e.N==0) (.lf (decide (e.D0=[]))) (.lf false))) (.br (e.B7==5) (.br (e.N==0) (.br (decide ((e.D0.length:Int)>=(1:Int))) (.lf (decide ((e.D0.length:Int)<=(128:Int)))) (.lf false)) (.lf false)) (.lf false))))))
def Qge e:=(Qhz e).m
def Z1q:Q0f:=mS 150 [] true [.agg Q0b.sig] [] (λa r=>Qhz (Q0b.of (aC a 0))) (λX=> .bool X) (λX=>[])
theorem Qy3:Q06 pG Z1q:=oS (.nil) Tryz.func150 Tryz.call150 [] [] 2
end
noncomputable section
instance sumInhRc {α β:Type} [Inhabited β]:Inhabited (α⊕β):=⟨.inr default⟩
def Qgv(a b:List Q03)(z:(Int)):Prop:=0<=z/\z<=a.length/\a.length=b.length
def Q6i(a b:List Q03)(z:(Int)):Nat:=(a.length-z).toNat
def Q4x(a b:List Q03):Tree Bool:=
.br ((a.length:Int) !=(b.length:Int)) (.lf false) (.lp inferInstance (Q6i a b 0+1) ((nR RK.apiOutput 4 a/\nR RK.apiOutput 4 b/\rE (0:Int)/\True)/\True) 0 λ(v0:Int)=> .br (decide (v0<(a.length:Int))) (.cn (bS 4 4&&bT 0 4&&decide (0<=v0/\v0<(a.length:Int))) (.cn (bS 4 4&&bT 0 4&&decide (0<=v0/\v0<(b.length:Int))) (let E1:=a.getD v0.toNat (RK.dflt RK.apiOutput);let E2:=b.getD v0.toNat (RK.dflt RK.apiOutput); .br (!eqs [D.int i64 E1.B7,D.int u64 E1.At,D.int u32 E1.C3,D.str E1.D0] [D.int i64 E2.B7,D.int u64 E2.At,D.int u32 E2.C3,D.str E2.D0]) (.lf (Sum.inr false)) (.nx ((nR RK.apiOutput 4 a/\nR RK.apiOutput 4 b/\rE ((wrap i64 (v0+1)):Int)/\True)/\True) (Sum.inl (wrap i64 (v0+1))))))) (.lf (Sum.inr true)))
def Q30 a b:=(Q4x a b).m
def Q20(a b:List Q03):Prop:=
a.length<=1000000000000
theorem Qsl(a b:List Q03)(hw:Q20 a b):(Q4x a b).p:=by
 simp only[Q20]at hw
 unfold Tree.p Q4x
 repeat'(first|refine w_lp (inv:=Qgv a b) (μ:=Q6i a b) ?_ (cK _) (λ_ _=> ?_)|exact trivial|refine w_br (λ_=> ?_) (λ_=> ?_)|refine w_cn ?_ ?_|refine w_an ?_ ?_|refine w_lv (λ_ _=> ?_)|refine w_nx ?_|refine w_lf ?_|refine And.intro ?_ ?_)
 all_goals((try simp only[Qgv,Q6i]at*);exact fin0)
def Qtx:LInv:={
 α:=(Int)
 F:=λst a=>([(0,(lk st 0)),(1,(lk st 1)),(5, .int i64 a)],[])
 a0:=λst=>(lk st 5).toInt
 ex0:=λst=>[]++[]}
def Qq0:List (Nat×LInv):=[(4,Qtx)]
def Qvf:Q0f:=mkP 70 [] true [.one (.recs .apiOutput), .one (.recs .apiOutput)] [] (λa r=>Q20 (argR .apiOutput a 0) (argR .apiOutput a 1)) (λa r=>Q30 (argR .apiOutput a 0) (argR .apiOutput a 1)) (λX=> .bool X) (λX=>[])
theorem Qub:Q06 pG Qvf:=Q0m drawn Q0k (.nil) Tryz.func70 Tryz.call70 (λa r=>Q4x (argR .apiOutput a 0) (argR .apiOutput a 1)) [] Qq0 3 (hp:=λa r h=>Qsl (argR .apiOutput a 0) (argR .apiOutput a 1) h)
def Qfi(a b:List Q0a)(z:(Int)):Nat:=(a.length-z).toNat
def Q78(a b:List Q0a):Tree Bool:=
.br ((a.length:Int) !=(b.length:Int)) (.lf false) (.lp inferInstance (Qfi a b 0+1) ((nR RK.apiEntry 4 a/\nR RK.apiEntry 4 b/\rE (0:Int)/\True)/\True) 0 λ(v0:Int)=> .br (decide (v0<(a.length:Int))) (.cn (bS 4 4&&bT 0 4&&decide (0<=v0/\v0<(a.length:Int))) (.cn (bS 4 4&&bT 0 4&&decide (0<=v0/\v0<(b.length:Int))) (let E1:=a.getD v0.toNat (RK.dflt RK.apiEntry);let E2:=b.getD v0.toNat (RK.dflt RK.apiEntry); .br (!eqs [D.int u64 E1.At,D.int i64 E1.B6.B7,D.int u32 E1.B6.N,D.str E1.B6.D0] [D.int u64 E2.At,D.int i64 E2.B6.B7,D.int u32 E2.B6.N,D.str E2.B6.D0]) (.lf (Sum.inr false)) (.nx ((nR RK.apiEntry 4 a/\nR RK.apiEntry 4 b/\rE ((wrap i64 (v0+1)):Int)/\True)/\True) (Sum.inl (wrap i64 (v0+1))))))) (.lf (Sum.inr true)))
def Qi5 a b:=(Q78 a b).m
abbrev Qc2 a b:=(Q78 a b).p
def Qug:LInv:={
 α:=(Int)
 F:=λst a=>([(0,(lk st 0)),(1,(lk st 1)),(5, .int i64 a)],[])
 a0:=λst=>(lk st 5).toInt
 ex0:=λst=>[]++[]}
def Qpz:List (Nat×LInv):=[(4,Qug)]
def Qwl:Q0f:=mT 58 [] true [.one (.recs .apiEntry), .one (.recs .apiEntry)] [] (λa r=>Q78 (argR .apiEntry a 0) (argR .apiEntry a 1)) (λX=> .bool X) (λX=>[])
theorem Qje:Q06 pG Qwl:=oT (.nil) Tryz.func58 Tryz.call58 [] Qpz 3
def Qdy(a b:Q02)(z:(Int)):Nat:=(a.A9.length-z).toNat
def Q5e(a b:Q02):Tree Bool:=
.an (Qom a.A0 b.A0) (.lv (Z5r a.A0 b.A0) λ(x0:Bool)=> .br (!x0) (.lf false) (.br (a.A7 !=b.A7) (.lf false) (.an (Qc2 a.B3 b.B3) (.lv (Qi5 a.B3 b.B3) λ(x1:Bool)=> .br (!x1) (.lf false) (.br ((a.A9.length:Int) !=(b.A9.length:Int)) (.lf false) (.lp inferInstance (Qdy a b 0+1) ((rZ/\rZ/\rE (0:Int)/\True)/\(mE a.A0 (((Els.Nil (Els.ints u32 a.A0.Mem)\/rE (1:Nat))/\rE a.A0.Mem)) (rE a.A7/\((Els.Nil (Els.recs RK.apiEntry a.B3)\/rE (4:Nat))/\rE a.B3)/\((Els.Nil (Els.recs RK.apiEvent a.A9)\/rE (3:Nat))/\rE a.A9)/\True))/\(mE b.A0 (((Els.Nil (Els.ints u32 b.A0.Mem)\/rE (1:Nat))/\rE b.A0.Mem)) (rE b.A7/\((Els.Nil (Els.recs RK.apiEntry b.B3)\/rE (4:Nat))/\rE b.B3)/\((Els.Nil (Els.recs RK.apiEvent b.A9)\/rE (3:Nat))/\rE b.A9)/\True))/\True) 0 λ(v0:Int)=> .br (decide (v0<(a.A9.length:Int))) (.cn (bS 3 3&&bT 0 3&&decide (0<=v0/\v0<(a.A9.length:Int))) (.cn (bS 3 3&&bT 0 3&&decide (0<=v0/\v0<(b.A9.length:Int))) (let E1:=a.A9.getD v0.toNat (RK.dflt RK.apiEvent);let E2:=b.A9.getD v0.toNat (RK.dflt RK.apiEvent); .br (!eqs [D.int i64 E1.B7,D.int u32 E1.N,D.str E1.D0] [D.int i64 E2.B7,D.int u32 E2.N,D.str E2.D0]) (.lf (Sum.inr false)) (.nx ((rZ/\rZ/\rE ((wrap i64 (v0+1)):Int)/\True)/\(mE a.A0 (((Els.Nil (Els.ints u32 a.A0.Mem)\/rE (1:Nat))/\rE a.A0.Mem)) (rE a.A7/\((Els.Nil (Els.recs RK.apiEntry a.B3)\/rE (4:Nat))/\rE a.B3)/\((Els.Nil (Els.recs RK.apiEvent a.A9)\/rE (3:Nat))/\rE a.A9)/\True))/\(mE b.A0 (((Els.Nil (Els.ints u32 b.A0.Mem)\/rE (1:Nat))/\rE b.A0.Mem)) (rE b.A7/\((Els.Nil (Els.recs RK.apiEntry b.B3)\/rE (4:Nat))/\rE b.B3)/\((Els.Nil (Els.recs RK.apiEvent b.A9)\/rE (3:Nat))/\rE b.A9)/\True))/\True) (Sum.inl (wrap i64 (v0+1))))))) (.lf (Sum.inr true))))))))
def Q9t a b:=(Q5e a b).m
abbrev Q6h a b:=(Q5e a b).p
def Qqm:LInv:={
 α:=(Int)
 F:=λst a=>([(2, .ptr 0 0 0),(3, .ptr 1 0 0),(5, .int i64 a)],[⟨true,96,52, .gen [[(cT st 2 0),(cT st 2 1),(cT st 2 2),(cT st 2 3),(cT st 2 4),(cT st 2 5),(cT st 2 6),(cT st 2 7),(cT st 2 8),(cT st 2 9),(cT st 2 10),(cT st 2 11),(cT st 2 12),(cT st 2 13),(cT st 2 14),(cT st 2 15),(cT st 2 16),(cT st 2 17),(cT st 2 18),(cT st 2 19),(cT st 2 20),(cT st 2 21),(cT st 2 22),(cT st 2 23),(cT st 2 24),(cT st 2 25),(cT st 2 26),(cT st 2 27),(cT st 2 28),(cT st 2 29),(cT st 2 30),(cT st 2 31),(cT st 2 32),(cT st 2 33),(cT st 2 34),(cT st 2 35),(cT st 2 36),(cT st 2 37),(cT st 2 38),(cT st 2 39),(cT st 2 40),(cT st 2 41),(cT st 2 42),(cT st 2 43),(cT st 2 44),(cT st 2 45),(cT st 2 46),(cT st 2 47),(cT st 2 48),(cT st 2 49),(cT st 2 50),(cT st 2 51)]]⟩,⟨true,96,52, .gen [[(cT st 3 0),(cT st 3 1),(cT st 3 2),(cT st 3 3),(cT st 3 4),(cT st 3 5),(cT st 3 6),(cT st 3 7),(cT st 3 8),(cT st 3 9),(cT st 3 10),(cT st 3 11),(cT st 3 12),(cT st 3 13),(cT st 3 14),(cT st 3 15),(cT st 3 16),(cT st 3 17),(cT st 3 18),(cT st 3 19),(cT st 3 20),(cT st 3 21),(cT st 3 22),(cT st 3 23),(cT st 3 24),(cT st 3 25),(cT st 3 26),(cT st 3 27),(cT st 3 28),(cT st 3 29),(cT st 3 30),(cT st 3 31),(cT st 3 32),(cT st 3 33),(cT st 3 34),(cT st 3 35),(cT st 3 36),(cT st 3 37),(cT st 3 38),(cT st 3 39),(cT st 3 40),(cT st 3 41),(cT st 3 42),(cT st 3 43),(cT st 3 44),(cT st 3 45),(cT st 3 46),(cT st 3 47),(cT st 3 48),(cT st 3 49),(cT st 3 50),(cT st 3 51)]]⟩])
 a0:=λst=>(lk st 5).toInt
 ex0:=λst=>[]++[(rX st 2 0),(rX st 3 1)]}
def Qnx:List (Nat×LInv):=[(4,Qqm)]
def Qsy:Q0f:=mT 73 [] true [.agg Q02.sig, .agg Q02.sig] [] (λa r=>Q5e (Q02.of (aC a 0)) (Q02.of (aC a 1))) (λX=> .bool X) (λX=>[])
theorem Qqa:Q06 pG Qsy:=oT (.cons Z02 (.cons Qje (.nil))) Tryz.func73 Tryz.call73 [] Qnx 3
end
noncomputable section
def Q6b(p:Q01):Tree Q01:=
.an (Q09 p.A0.Mem) (.lv (Q04 p.A0.Mem) λ(x0:List Int)=> .an (Q0y p.B3) (.lv (Q14 p.B3) λ(x1:List Q0a)=> .lf ({A0:={B2:=p.A0.B2,Mem:=x0,A3:=p.A0.A3,B0:=p.A0.B0,B1:=p.A0.B1,C2:=p.A0.C2,A1:=p.A0.A1,A2:=p.A0.A2,A4:=p.A0.A4,A6:=p.A0.A6},B3:=x1,B5:=p.B5,A7:=p.A7})))
def Qez p:=(Q6b p).m
abbrev Q5y p:=(Q6b p).p
def Z58:Q0f:=mT 149 [] true [.agg Q01.sig] [] (λa r=>Q6b (Q01.of (aC a 0))) (λX=> .agg (Q01.cellsW X (.all 0) (.sl 4 (.recs .apiEntry X.B3) true))) (λX=>[⟨false,25,1, .ints .u32 X.A0.Mem⟩])
theorem Q8z:Q06 pG Z58:=oT (.cons Q0w (.cons Q66 (.nil))) Tryz.func149 Tryz.call149 [.row 25 1 (.ints .u32), .sl (.recs .apiEntry) true] [] 2
def Qh1(m:Q00):Tree Q01:=
.an (Q5y {A0:=m,B3:=[],B5:=m.A2,A7:=0}) (.lv (Qez {A0:=m,B3:=[],B5:=m.A2,A7:=0}) λ(x0:Q01)=> .lf x0)
def Zaf m:=(Qh1 m).m
abbrev Qm9 m:=(Qh1 m).p
def Zg7:Q0f:=Q0f.fz<|mkP 74 [] false [.agg Q00.sig] [] (λa r=>Qm9 (Q00.of (aC a 0))) (λa r=>Zaf (Q00.of (aC a 0))) (λX=> .agg (Q01.cells X)) (λX=>[])
theorem Zbn:Q06 pG Zg7:=Zn<|Q0m drawn Q0k (.cons Q8z (.nil)) Tryz.func74 Tryz.call74 (λa r=>Qh1 (Q00.of (aC a 0))) [.sl (.ints .u32) false, .sl (.recs .apiEntry) false] [] 2 (λ_ _ _=>by kernel_rfl) (λ_ _=>rfl) (λ_ _ h=>h) (λh=>by cases h)
def Qpw(p:Q01):Tree Int:=
.br (decide (p.A0.A2>p.B5)) (.lf 0) (.lf (wrap u64 (p.B5-p.A0.A2)))
def Qdx p:=(Qpw p).m
def Zhk:Q0f:=mS 66 [] true [.agg Q01.sig] [] (λa r=>Qpw (Q01.of (aC a 0))) (λX=> .int .u64 X) (λX=>[])
theorem Qx6:Q06 pG Zhk:=oS (.nil) Tryz.func66 Tryz.call66 [] [] 2
def Q7d(p:Q01):Tree (Int×Bool×Bool):=
.br (decide ((p.B3.length:Int)>(0:Int))) (.cn (bS 4 4&&bT 0 4&&decide ((0:Int)<=(0:Int)/\0<(p.B3.length:Int))) (let E1:=p.B3.getD (cZ 0) (RK.dflt RK.apiEntry); .br (E1.B6.B7==1) (.an (Q2v p.A0) (.lv (Q3n p.A0) λ(x0:Bool)=> .br (!x0) (.lf (0,false,!decide (E1.At<=p.A0.A2))) (.br (decide (E1.At<=p.A0.A2)) (.lf (E1.B6.N,true,E1.At==p.A0.A2)) (.lf (E1.B6.N,true,false))))) (.an (Q2v p.A0) (.lv (Q3n p.A0) λ(x1:Bool)=> .br (!x1) (.lf (0,false,true)) (.lf (E1.B6.N,true,false)))))) (.an (Q2v p.A0) (.lv (Q3n p.A0) λ(x2:Bool)=> .br (!x2) (.lf (0,false,true)) (.lf (0,true,false))))
def Qzz p:=(Q7d p).m
abbrev Qi4 p:=(Q7d p).p
def Z7u:Q0f:=mT 157 [] true [.agg Q01.sig] [] (λa r=>Q7d (Q01.of (aC a 0))) (λX=> .tup [.int .u32 (X.1), .bool (X.2.1), .bool (X.2.2)]) (λX=>[])
theorem Qqp:Q06 pG Z7u:=oT (.cons Qpl (.nil)) Tryz.func157 Tryz.call157 [] [] 2
def Qk4(p:Q01)(z:(Int)×Q00):Nat:=(p.B3.length-z.1).toNat
def Q62(p:Q01):Tree (Q02×Bool):=
.an (Q7u p.A0) (.lv (Q18 p.A0) λ(x0:Bool)=>let T1:Tree ((Q02×Bool)):= .lf ({A0:={B2:={X:={a0:=0,a1:=0,a2:=0,a3:=0,a4:=0,a5:=0,a6:=0,a7:=0,a8:=0,a9:=0,a10:=0,a11:=0,a12:=0,a13:=0,a14:=0,a15:=0},Pc:=0,B8:={a0:=0,a1:=0,a2:=0,a3:=0,a4:=0,a5:=0,a6:=0,a7:=0}},Mem:=[],A3:={D2:=[]},B0:={D4:=false,C8:=0,D3:=false},B1:={Blocks:=0,C3:=0,Frame:=0,C4:=0,D8:=0,B9:=0,B4:=0,C6:=[]},C2:={Frame:=0,E0:=0,C7:=false,C1:=0,C0:=false,F1:=0},A1:={C9:=0,C5:=0},A2:=0,A4:=false,A6:=false},A7:=0,B3:=[],A9:=[]},false); .br (!x0) T1 (.br (p.A0.A2 !=p.B5) T1 (.lp inferInstance (Qk4 p (0,p.A0)+1) ((rZ/\rZ/\rZ/\((Els.Nil (Els.recs RK.apiEntry p.B3)\/rE (4:Nat))/\rE p.B3)/\rE ((p.B3.length:Int):Int)/\rE (0:Int)/\True)/\(mE p.A0 (((Els.Nil (Els.ints u32 p.A0.Mem)\/rE (1:Nat))/\rE p.A0.Mem)) (((Els.Nil (Els.recs RK.apiEntry p.B3)\/rE (4:Nat))/\rE p.B3)/\rE p.B5/\rE p.A7/\True))/\(mE zM True (rE (0:Int)/\True/\True/\True))/\(mE p.A0 (((Els.Nil (Els.ints u32 p.A0.Mem)\/rE (1:Nat))/\rE p.A0.Mem)) True)/\True) (0,p.A0) λ(v0:Int×Q00)=> .br (decide (v0.1<(p.B3.length:Int))) (.cn (bS 4 4&&bT 0 4&&decide (0<=v0.1/\v0.1<(p.B3.length:Int))) (let E2:=p.B3.getD v0.1.toNat (RK.dflt RK.apiEntry); .an (Qax v0.2 E2.B6) (.lv (Q70 v0.2 E2.B6) λ(x1:Q00×Bool)=> .nx ((rZ/\rZ/\rZ/\((Els.Nil (Els.recs RK.apiEntry p.B3)\/rE (4:Nat))/\rE p.B3)/\rE ((p.B3.length:Int):Int)/\rE ((wrap i64 (v0.1+1)):Int)/\True)/\(mE p.A0 (((Els.Nil (Els.ints u32 p.A0.Mem)\/rE (1:Nat))/\rE p.A0.Mem)) (((Els.Nil (Els.recs RK.apiEntry p.B3)\/rE (4:Nat))/\rE p.B3)/\rE p.B5/\rE p.A7/\True))/\(mE zM True (rE (0:Int)/\True/\True/\True))/\(mE x1.1 (rE x1.1.Mem) True)/\True) (Sum.inl (wrap i64 (v0.1+1),x1.1))))) (.an (Qmi v0.2) (.lv (Zb6 v0.2) λ(x2:Q02)=> .lf (Sum.inr ({A0:=x2.A0,A7:=p.A7,B3:=x2.B3,A9:=x2.A9},true)))))))
def Qaw p:=(Q62 p).m
abbrev Q44 p:=(Q62 p).p
def Z16:LInv:={
 α:=(Int)×Q00
 F:=λst a=>([(1, .ptr 0 0 0),(2, .ptr 1 0 0),(4, .ptr 2 0 0),(24,(lk st 24)),(25,(lk st 25)),(26, .int i64 a.1)],[⟨true,106,52, .gen [[(cT st 1 0),(cT st 1 1),(cT st 1 2),(cT st 1 3),(cT st 1 4),(cT st 1 5),(cT st 1 6),(cT st 1 7),(cT st 1 8),(cT st 1 9),(cT st 1 10),(cT st 1 11),(cT st 1 12),(cT st 1 13),(cT st 1 14),(cT st 1 15),(cT st 1 16),(cT st 1 17),(cT st 1 18),(cT st 1 19),(cT st 1 20),(cT st 1 21),(cT st 1 22),(cT st 1 23),(cT st 1 24),(cT st 1 25),(cT st 1 26),(cT st 1 27),(cT st 1 28),(cT st 1 29),(cT st 1 30),(cT st 1 31),(cT st 1 32),(cT st 1 33),(cT st 1 34),(cT st 1 35),(cT st 1 36),(cT st 1 37),(cT st 1 38),(cT st 1 39),(cT st 1 40),(cT st 1 41),(cT st 1 42),(cT st 1 43),(cT st 1 44),(cT st 1 45),(cT st 1 46),(cT st 1 47),(cT st 1 48),(cT st 1 49),(cT st 1 50),(cT st 1 51)]]⟩,⟨true,96,52, .gen [[(cT st 2 0),(cT st 2 1),(cT st 2 2),(cT st 2 3),(cT st 2 4),(cT st 2 5),(cT st 2 6),(cT st 2 7),(cT st 2 8),(cT st 2 9),(cT st 2 10),(cT st 2 11),(cT st 2 12),(cT st 2 13),(cT st 2 14),(cT st 2 15),(cT st 2 16),(cT st 2 17),(cT st 2 18),(cT st 2 19),(cT st 2 20),(cT st 2 21),(cT st 2 22),(cT st 2 23),(cT st 2 24),(cT st 2 25),(cT st 2 26),(cT st 2 27),(cT st 2 28),(cT st 2 29),(cT st 2 30),(cT st 2 31),(cT st 2 32),(cT st 2 33),(cT st 2 34),(cT st 2 35),(cT st 2 36),(cT st 2 37),(cT st 2 38),(cT st 2 39),(cT st 2 40),(cT st 2 41),(cT st 2 42),(cT st 2 43),(cT st 2 44),(cT st 2 45),(cT st 2 46),(cT st 2 47),(cT st 2 48),(cT st 2 49),(cT st 2 50),(cT st 2 51)]]⟩,⟨true,43,49, .gen [mD a.2 (.sl 1 (.ints u32 a.2.Mem) false)]⟩])
 a0:=λst=>((lk st 26).toInt,(mR (cT st 4) (frzI u32 st.rows (cT st 4 25))))
 ex0:=λst=>[]++[(rX st 1 0),(rX st 2 1),(rX st 4 2)]}
def Qx3:List (Nat×LInv):=[(5,Z16)]
def Z71:Q0f:=Q0f.fz<|mkP 71 [] true [.agg Q01.sig] [] (λa r=>Q44 (Q01.of (aC a 0))) (λa r=>Qaw (Q01.of (aC a 0))) (λX=> .tup [.agg (Q02.cellsW (X.1) (.all 0) (.all 1) (.all 2)), .bool (X.2)]) (λX=>[⟨false,25,1, .ints .u32 (X.1).A0.Mem⟩,⟨false,126,4, .recs .apiEntry (X.1).B3⟩,⟨false,66,3, .recs .apiEvent (X.1).A9⟩])
theorem Qos:Q06 pG Z71:=Zn<|Q0m drawn Q0k (.cons Qca (.cons Qi1 (.cons Zbt (.nil)))) Tryz.func71 Tryz.call71 (λa r=>Q62 (Q01.of (aC a 0))) [.row 25 1 (.ints .u32), .row 126 4 (.recs .apiEntry), .row 66 3 (.recs .apiEvent)] Qx3 3
def Q67(m:Q00):Tree Q01:=
.an (Qaj m) (.lv (Qio m) λ(x0:Q00)=> .lf ({A0:=x0,B3:=[],B5:=m.A2,A7:=0}))
def Q85 m:=(Q67 m).m
abbrev Q4m m:=(Q67 m).p
def Que:Q0f:=mT 61 [] true [.agg Q00.sig] [] (λa r=>Q67 (Q00.of (aC a 0))) (λX=> .agg (Q01.cellsW X (.all 0) (.sl 4 (.recs .apiEntry X.B3) true))) (λX=>[⟨false,25,1, .ints .u32 X.A0.Mem⟩])
theorem Qsx:Q06 pG Que:=oT (.cons Qky (.nil)) Tryz.func61 Tryz.call61 [.row 25 1 (.ints .u32), .sl (.recs .apiEntry) true] [] 2
def Qha(p:Q01):Tree Q01:=
.an (Qaj p.A0) (.lv (Qio p.A0) λ(x0:Q00)=> .cn (decide (40*(0+p.B3.length)<=140737488355328)) (.lf ({A0:=x0,B3:=p.B3,B5:=p.B5,A7:=p.A7})))
def Qsa p:=(Qha p).m
abbrev Qgo p:=(Qha p).p
def Zk5:Q0f:=mT 153 [] true [.agg Q01.sig] [] (λa r=>Qha (Q01.of (aC a 0))) (λX=> .agg (Q01.cellsW X (.all 0) (.sl 4 (.recs .apiEntry X.B3) true))) (λX=>[⟨false,25,1, .ints .u32 X.A0.Mem⟩])
theorem Qnv:Q06 pG Zk5:=oT (.cons Qky (.nil)) Tryz.func153 Tryz.call153 [.row 25 1 (.ints .u32), .sl (.recs .apiEntry) true] [] 2
def Qu5(p:Q01):Tree Int:=
.br (decide (p.B5<p.A0.A2)) (.lf 0) (.lf (wrap u64 (p.B5-p.A0.A2)))
def Qmp p:=(Qu5 p).m
def Zll:Q0f:=mS 67 [] true [.agg Q01.sig] [] (λa r=>Qu5 (Q01.of (aC a 0))) (λX=> .int .u64 X) (λX=>[])
theorem Zg:Q06 pG Zll:=oS (.nil) Tryz.func67 Tryz.call67 [] [] 2
def Q3r(a b:Q01):Tree Bool:=
.an (Qom a.A0 b.A0) (.lv (Z5r a.A0 b.A0) λ(x0:Bool)=> .br x0 (.an (Qc2 a.B3 b.B3) (.lv (Qi5 a.B3 b.B3) λ(x1:Bool)=> .br x1 (.br (a.B5==b.B5) (.lf (a.A7==b.A7)) (.lf false)) (.lf false))) (.lf false))
def Q1k a b:=(Q3r a b).m
abbrev Q12 a b:=(Q3r a b).p
def Qsr:Q0f:=mT 65 [] true [.agg Q01.sig, .agg Q01.sig] [] (λa r=>Q3r (Q01.of (aC a 0)) (Q01.of (aC a 1))) (λX=> .bool X) (λX=>[])
theorem Qq8:Q06 pG Qsr:=oT (.cons Z02 (.cons Qje (.nil))) Tryz.func65 Tryz.call65 [] [] 2
def Qd5(p:Q01)(l:List Q0a)(known:Int)(z:(Int)):Nat:=(l.length-z).toNat
def Qgw(p:Q01)(l:List Q0a)(known:Int):Tree (Q01×Bool):=
.an (Qgo p) (.lv (Qsa p) λ(x0:Q01)=> .br (decide (known<x0.B5)) (.lf (x0,false)) (.br (decide ((l.length:Int)>(400:Int))) (.lf (x0,false)) (.br (decide ((x0.B3.length:Int)>wrap i64 (4096-(l.length:Int)))) (.lf (x0,false)) (.lp inferInstance (Qd5 p l known 0+1) ((nR RK.apiEntry 4 l/\rE (known:Int)/\rZ/\rZ/\rE (0:Int)/\True)/\(mE x0.A0 True (((Els.Nil (Els.recs RK.apiEntry x0.B3)\/rE (4:Nat))/\rE x0.B3)/\rE x0.B5/\rE x0.A7/\True))/\rE x0.A0.Mem/\(mE zM True (True/\rE (0:Int)/\rE (0:Int)/\True))/\True) 0 λ(v0:Int)=> .br (decide (v0<(l.length:Int))) (let E3:=bS 4 4&&bT 0 4&&decide (0<=v0/\v0<(l.length:Int)); .cn E3 (let E2:=l.getD v0.toNat (RK.dflt RK.apiEntry); .br (decide (E2.At<x0.B5)) (.lf (Sum.inr (x0,false))) (.br (decide (E2.At>known)) (.lf (Sum.inr (x0,false))) (let T1:Tree ((Int)⊕((Q01×Bool))):= .cn E3 (.lv (Q34 E2.B6) λ(x1:Bool)=> .br (!x1) (.lf (Sum.inr (x0,false))) (.nx ((nR RK.apiEntry 4 l/\rE (known:Int)/\rZ/\rZ/\rE ((wrap i64 (v0+1)):Int)/\True)/\(mE x0.A0 True (((Els.Nil (Els.recs RK.apiEntry x0.B3)\/rE (4:Nat))/\rE x0.B3)/\rE x0.B5/\rE x0.A7/\True))/\rE x0.A0.Mem/\(mE zM True (True/\rE (0:Int)/\rE (0:Int)/\True))/\True) (Sum.inl (wrap i64 (v0+1))))); .br (E2.At==known) (.cn E3 (.br (E2.B6.B7==1) (.lf (Sum.inr (x0,false))) T1)) T1)))) (.cn (decide (40*(0+x0.B3.length)<=140737488355328)) (.cn (decide (40*(x0.B3.length+l.length)<=140737488355328)) (.an (Q6r (x0.B3++l)) (.lv (Qhp (x0.B3++l)) λ(x3:Bool)=> .br (!x3) (.lf (Sum.inr (x0,false))) (.lf (Sum.inr ({A0:=x0.A0,B3:=x0.B3++l,B5:=known,A7:=x0.A7},true)))))))))))
def Qry p l known:=(Qgw p l known).m
abbrev Qgd p l known:=(Qgw p l known).p
def Zc0:LInv:={
 α:=(Int)
 F:=λst a=>([(1,(lk st 1)),(2,(lk st 2)),(3, .ptr 0 0 0),(6, .ptr 2 0 0),(8, .int i64 a)],[⟨true,106,52, .gen [[(cT st 3 0),(cT st 3 1),(cT st 3 2),(cT st 3 3),(cT st 3 4),(cT st 3 5),(cT st 3 6),(cT st 3 7),(cT st 3 8),(cT st 3 9),(cT st 3 10),(cT st 3 11),(cT st 3 12),(cT st 3 13),(cT st 3 14),(cT st 3 15),(cT st 3 16),(cT st 3 17),(cT st 3 18),(cT st 3 19),(cT st 3 20),(cT st 3 21),(cT st 3 22),(cT st 3 23),(cT st 3 24), .all 1,(cT st 3 26),(cT st 3 27),(cT st 3 28),(cT st 3 29),(cT st 3 30),(cT st 3 31),(cT st 3 32),(cT st 3 33),(cT st 3 34),(cT st 3 35),(cT st 3 36),(cT st 3 37),(cT st 3 38),(cT st 3 39),(cT st 3 40),(cT st 3 41),(cT st 3 42),(cT st 3 43),(cT st 3 44),(cT st 3 45),(cT st 3 46),(cT st 3 47),(cT st 3 48),(cT st 3 49),(cT st 3 50),(cT st 3 51)]]⟩,⟨false,25,1,esOf st.rows (Q0p (cT st 3 25) 1000000)⟩,⟨true,106,52, .gen [[(cT st 6 0),(cT st 6 1),(cT st 6 2),(cT st 6 3),(cT st 6 4),(cT st 6 5),(cT st 6 6),(cT st 6 7),(cT st 6 8),(cT st 6 9),(cT st 6 10),(cT st 6 11),(cT st 6 12),(cT st 6 13),(cT st 6 14),(cT st 6 15),(cT st 6 16),(cT st 6 17),(cT st 6 18),(cT st 6 19),(cT st 6 20),(cT st 6 21),(cT st 6 22),(cT st 6 23),(cT st 6 24),(cT st 6 25),(cT st 6 26),(cT st 6 27),(cT st 6 28),(cT st 6 29),(cT st 6 30),(cT st 6 31),(cT st 6 32),(cT st 6 33),(cT st 6 34),(cT st 6 35),(cT st 6 36),(cT st 6 37),(cT st 6 38),(cT st 6 39),(cT st 6 40),(cT st 6 41),(cT st 6 42),(cT st 6 43),(cT st 6 44),(cT st 6 45),(cT st 6 46),(cT st 6 47),(cT st 6 48),(cT st 6 49),(cT st 6 50),(cT st 6 51)]]⟩])
 a0:=λst=>(lk st 8).toInt
 ex0:=λst=>[]++[(rX st 3 0),(Q0p (cT st 3 25) (st.rows.length+1)),(rX st 6 2)]}
def Z5:List (Nat×LInv):=[(5,Zc0)]
def Zjr:Q0f:=mT 64 [] true [.agg Q01.sig, .one (.recs .apiEntry), .one (.int .u64)] [] (λa r=>Qgw (Q01.of (aC a 0)) (argR .apiEntry a 1) (argI a 2)) (λX=> .tup [.agg (Q01.cellsW (X.1) (.all 0) (.sl 4 (.recs .apiEntry X.1.B3) true)), .bool (X.2)]) (λX=>[⟨false,25,1, .ints .u32 (X.1).A0.Mem⟩])
theorem Zeh:Q06 pG Zjr:=oT (.cons Qnv (.cons Qtg (.cons Qq5 (.nil)))) Tryz.func64 Tryz.call64 [.row 25 1 (.ints .u32), .sl (.recs .apiEntry) true] Z5 3
end
noncomputable section
def Qmo(script:List Q0a)(z:(Int)):Prop:=1<=z/\(z<=script.length\/z=1)
def Q50(script:List Q0a)(z:(Int)):Nat:=(script.length-z).toNat
def Q9h(script:List Q0a):Tree Bool:=
.lp inferInstance (Q50 script 1+1) ((nR RK.apiEntry 4 script/\rE (1:Int)/\True)/\True) 1 λ(v0:Int)=> .br (decide (v0<(script.length:Int))) (.cn (bS 4 4&&bT 0 4&&decide (0<=wrap i64 (v0-1)/\wrap i64 (v0-1)<(script.length:Int))) (.cn (bS 4 4&&bT 0 4&&decide (0<=v0/\v0<(script.length:Int))) (let E2:=script.getD (cZ (wrap i64 (v0-1))) (RK.dflt RK.apiEntry);let E3:=script.getD v0.toNat (RK.dflt RK.apiEntry); .br (decide (E3.At<E2.At)) (.lf (Sum.inr false)) (let T1:Tree ((Int)⊕(Bool)):= .nx ((nR RK.apiEntry 4 script/\rE ((wrap i64 (v0+1)):Int)/\True)/\True) (Sum.inl (wrap i64 (v0+1))); .br (E3.At==E2.At) (.br (E2.B6.B7==1) (.lf (Sum.inr false)) T1) T1)))) (.lf (Sum.inr true))
def Q5m script:=(Q9h script).m
def Q53(script:List Q0a):Prop:=
script.length<=1000000000000
theorem Z13(script:List Q0a)(hw:Q53 script):(Q9h script).p:=by
 simp only[Q53]at hw
 unfold Tree.p Q9h
 repeat'(first|refine w_lp (inv:=Qmo script) (μ:=Q50 script) ?_ (cK _) (λ_ _=> ?_)|exact trivial|refine w_br (λ_=> ?_) (λ_=> ?_)|refine w_cn ?_ ?_|refine w_an ?_ ?_|refine w_lv (λ_ _=> ?_)|refine w_nx ?_|refine w_lf ?_|refine And.intro ?_ ?_)
 all_goals((try simp only[Qmo,Q50]at*);exact fin0)
def Z5j:LInv:={
 α:=(Int)
 F:=λst a=>([(0,(lk st 0)),(3, .int i64 a)],[])
 a0:=λst=>(lk st 3).toInt
 ex0:=λst=>[]++[]}
def Qyf:List (Nat×LInv):=[(2,Z5j)]
def Z78:Q0f:=mkP 152 [] true [.one (.recs .apiEntry)] [] (λa r=>Q53 (argR .apiEntry a 0)) (λa r=>Q5m (argR .apiEntry a 0)) (λX=> .bool X) (λX=>[])
theorem Z4c:Q06 pG Z78:=Q0m drawn Q0k (.nil) Tryz.func152 Tryz.call152 (λa r=>Q9h (argR .apiEntry a 0)) [] Qyf 3 (hp:=λa r h=>Z13 (argR .apiEntry a 0) h)
def Q2k(s:List Q0a)(n:Int):(List Q0a):=
[]
def Q1i(s:List Q0a)(n:Int):Prop:=
0<=n/\n<=1000000000000
def Q5u(s:List Q0a)(n:Int):List D:=[.nils, .int .i64 n]
def Q5s(s:List Q0a)(n:Int):List Row:=[]
def Q36(X:List Q0a):D:= .all 0
def Q32(X:List Q0a):List Row:=[⟨false,126,4, .recs .apiEntry X⟩]
def Q61:List PT:=[.one .nil0, .one (.int .i64)]
def Q5o:List RT:=[]
def Qdd(args:List D)(rows:List Row):(List Q0a):=Q2k (argR .apiEntry args 0) (argI args 1)
def Qdm(args:List D)(rows:List Row):Prop:=Q1i (argR .apiEntry args 0) (argI args 1)
def Qeu:Q0f:=mkP 215 [true,false] true Q61 Q5o Qdm Qdd Q36 Q32
theorem Qbw(s:List Q0a)(n:Int)(hw:Q1i s n):Q4b pG 215 (Q5u s n) (Q5s s n) (Q36 (Q2k s n)) (Q32 (Q2k s n)):=by
 exact yG Tryz.lays8 Q0k rfl rfl (by decide) (by decide) hw.1 (by have:=hw.2;omega)
set_option maxRecDepth 100000 in
theorem Qcu(args:List D)(rows:List Row):Qh2 Q61 args 0=Q5u (argR .apiEntry args 0) (argI args 1):=by kernel_rfl
set_option maxRecDepth 100000 in
theorem Qbz(args:List D)(rows:List Row):Q6j Q5o rows 0=Q5s (argR .apiEntry args 0) (argI args 1):=by kernel_rfl
set_option maxRecDepth 100000 in
theorem Qec(X:List Q0a):(ffB (Q36 X)&&ffBR (Q32 X))=true:=by kernel_rfl
theorem Qeb:Q06 pG Qeu:=Qzx Tryz.call215 (λargs rows hp=>by rw[Qcu args rows,Qbz args rows];exact Qbw (argR .apiEntry args 0) (argI args 1) hp) (λ_ X=>Qec X)
def Q4j(slices:(List (List Q0a)))(z:(Int)×(Int)):Nat:=(slices.length-z.2).toNat
def Q4r(slices:(List (List Q0a)))(z:(Int)×(List Q0a)):Nat:=(slices.length-z.1).toNat
def Q15(slices:(List (List Q0a))):Tree (List Q0a):=
.lp inferInstance (Q4j slices (0,0)+1) ((nR RK.lapiEntry 1 slices/\rE (0:Int)/\nR RK.lapiEntry 1 slices/\rE ((slices.length:Int):Int)/\rE (0:Int)/\True)/\True) (0,0) λ(v0:Int×Int)=> .br (decide (v0.2<(slices.length:Int))) (.cn (bS 1 1&&bT 0 1&&decide (0<=v0.2/\v0.2<(slices.length:Int))) (let E1:=(↑(dF (slices.getD v0.2.toNat (RK.dflt RK.lapiEntry))):Int); .fl (decide (wrap i64 (v0.1+E1)<0)) (.nx ((nR RK.lapiEntry 1 slices/\rE ((wrap i64 (v0.1+(↑(dF (slices.getD v0.2.toNat (RK.dflt RK.lapiEntry))):Int))):Int)/\nR RK.lapiEntry 1 slices/\rE ((slices.length:Int):Int)/\rE ((wrap i64 (v0.2+1)):Int)/\True)/\True) (Sum.inl (wrap i64 (v0.1+E1),wrap i64 (v0.2+1)))))) (.an (Q1i [] v0.1) (.lv (Q2k [] v0.1) λ(x0:List Q0a)=> .lp inferInstance (Q4r slices (0,x0)+1) ((True/\nR RK.lapiEntry 1 slices/\rE ((slices.length:Int):Int)/\rE (0:Int)/\True)/\rE (x0:List (RK.T RK.apiEntry))/\True) (0,x0) λ(v1:Int×List Q0a)=> .br (decide (v1.1<(slices.length:Int))) (.cn (bS 1 1&&bT 0 1&&decide (0<=v1.1/\v1.1<(slices.length:Int))) (.cn (decide (40*(v1.2.length+dF (slices.getD v1.1.toNat (RK.dflt RK.lapiEntry)))<=140737488355328)) (.nx ((True/\nR RK.lapiEntry 1 slices/\rE ((slices.length:Int):Int)/\rE ((wrap i64 (v1.1+1)):Int)/\True)/\rE ((v1.2++slices.getD v1.1.toNat (RK.dflt RK.lapiEntry)):List (RK.T RK.apiEntry))/\True) (Sum.inl (wrap i64 (v1.1+1),v1.2++slices.getD v1.1.toNat (RK.dflt RK.lapiEntry)))))) (.lf (Sum.inr (Sum.inr v1.2)))))
def Q7b slices:=(Q15 slices).m
abbrev Q2s slices:=(Q15 slices).p
def Qc5:LInv:={
 α:=(Int)×(Int)
 F:=λst a=>([(0,(lk st 0)),(3, .int i64 a.1),(9,(lk st 9)),(10,(lk st 10)),(11, .int i64 a.2)],[])
 a0:=λst=>((lk st 3).toInt,(lk st 11).toInt)
 ex0:=λst=>[]++[]}
def Qcq:LInv:={
 α:=(Int)×(List Q0a)
 F:=λst a=>([(6, .all 0),(25,(lk st 25)),(26,(lk st 26)),(27, .int i64 a.1)],[⟨false,126,4, .recs RK.apiEntry a.2⟩])
 a0:=λst=>((lk st 27).toInt,(Q5 RK.apiEntry st.rows (rN st 6)))
 ex0:=λst=>[]++[(rX st 6 0)]}
def Qbf:List (Nat×LInv):=[(3,Qc5),(11,Qcq)]
def Qdc:Q0f:=mT 151 [] true [.one (.recs .lapiEntry)] [] (λa r=>Q15 (argR .lapiEntry a 0)) (λX=> .all 0) (λX=>[⟨false,126,4, .recs .apiEntry X⟩])
theorem Qcd:Q06 pG Qdc:=oT (.cons Qeb (.nil)) Tryz.func151 Tryz.call151 [.row 126 4 (.recs .apiEntry)] Qbf 3
def Qbe(p:Q01)(l:List Q0a)(known:Int)(z:(Int)):Nat:=(l.length-z).toNat
def Q8u(p:Q01)(l:List Q0a)(known:Int):Tree (Q01×Bool):=
.an (Q5y p) (.lv (Qez p) λ(x0:Q01)=> .br (decide (known<x0.B5)) (.lf (x0,false)) (.br (decide ((l.length:Int)>(400:Int))) (.lf (x0,false)) (.br (decide (wrap i64 ((x0.B3.length:Int)+(l.length:Int))>4096)) (.lf (x0,false)) (.lp inferInstance (Qbe p l known 0+1) ((nR RK.apiEntry 4 l/\rE (known:Int)/\rZ/\rZ/\nR RK.apiEntry 4 l/\rE ((l.length:Int):Int)/\rE (0:Int)/\True)/\(mE x0.A0 True (((Els.Nil (Els.recs RK.apiEntry x0.B3)\/rE (4:Nat))/\rE x0.B3)/\rE x0.B5/\rE x0.A7/\True))/\rE x0.A0.Mem/\(mE zM True (True/\rE (0:Int)/\rE (0:Int)/\True))/\True) 0 λ(v0:Int)=> .br (decide (v0<(l.length:Int))) (.cn (bS 4 4&&bT 0 4&&decide (0<=v0/\v0<(l.length:Int))) (let E2:=l.getD v0.toNat (RK.dflt RK.apiEntry); .br (decide (E2.At<x0.B5)) (.lf (Sum.inr (x0,false))) (.br (decide (E2.At>known)) (.lf (Sum.inr (x0,false))) (let T1:Tree ((Int)⊕((Q01×Bool))):= .lv (Qge E2.B6) λ(x1:Bool)=> .br (!x1) (.lf (Sum.inr (x0,false))) (.nx ((nR RK.apiEntry 4 l/\rE (known:Int)/\rZ/\rZ/\nR RK.apiEntry 4 l/\rE ((l.length:Int):Int)/\rE ((wrap i64 (v0+1)):Int)/\True)/\(mE x0.A0 True (((Els.Nil (Els.recs RK.apiEntry x0.B3)\/rE (4:Nat))/\rE x0.B3)/\rE x0.B5/\rE x0.A7/\True))/\rE x0.A0.Mem/\(mE zM True (True/\rE (0:Int)/\rE (0:Int)/\True))/\True) (Sum.inl (wrap i64 (v0+1)))); .br (E2.At==known) (.br (E2.B6.B7==1) (.lf (Sum.inr (x0,false))) T1) T1)))) (.an (Q2s [x0.B3,l]) (.lv (Q7b [x0.B3,l]) λ(x3:List Q0a)=> .an (Q53 x3) (.lv (Q5m x3) λ(x4:Bool)=> .br (!x4) (.lf (Sum.inr (x0,false))) (.lf (Sum.inr ({A0:=x0.A0,B3:=x3,B5:=known,A7:=x0.A7},true))))))))))
def Qjf p l known:=(Q8u p l known).m
abbrev Q7z p l known:=(Q8u p l known).p
def Z8v:LInv:={
 α:=(Int)
 F:=λst a=>([(1,(lk st 1)),(2,(lk st 2)),(3, .ptr 0 0 0),(6, .ptr 2 0 0),(32,(lk st 32)),(33,(lk st 33)),(34, .int i64 a)],[⟨true,106,52, .gen [[(cT st 3 0),(cT st 3 1),(cT st 3 2),(cT st 3 3),(cT st 3 4),(cT st 3 5),(cT st 3 6),(cT st 3 7),(cT st 3 8),(cT st 3 9),(cT st 3 10),(cT st 3 11),(cT st 3 12),(cT st 3 13),(cT st 3 14),(cT st 3 15),(cT st 3 16),(cT st 3 17),(cT st 3 18),(cT st 3 19),(cT st 3 20),(cT st 3 21),(cT st 3 22),(cT st 3 23),(cT st 3 24), .all 1,(cT st 3 26),(cT st 3 27),(cT st 3 28),(cT st 3 29),(cT st 3 30),(cT st 3 31),(cT st 3 32),(cT st 3 33),(cT st 3 34),(cT st 3 35),(cT st 3 36),(cT st 3 37),(cT st 3 38),(cT st 3 39),(cT st 3 40),(cT st 3 41),(cT st 3 42),(cT st 3 43),(cT st 3 44),(cT st 3 45),(cT st 3 46),(cT st 3 47),(cT st 3 48),(cT st 3 49),(cT st 3 50),(cT st 3 51)]]⟩,⟨false,25,1,esOf st.rows (Q0p (cT st 3 25) 1000000)⟩,⟨true,106,52, .gen [[(cT st 6 0),(cT st 6 1),(cT st 6 2),(cT st 6 3),(cT st 6 4),(cT st 6 5),(cT st 6 6),(cT st 6 7),(cT st 6 8),(cT st 6 9),(cT st 6 10),(cT st 6 11),(cT st 6 12),(cT st 6 13),(cT st 6 14),(cT st 6 15),(cT st 6 16),(cT st 6 17),(cT st 6 18),(cT st 6 19),(cT st 6 20),(cT st 6 21),(cT st 6 22),(cT st 6 23),(cT st 6 24),(cT st 6 25),(cT st 6 26),(cT st 6 27),(cT st 6 28),(cT st 6 29),(cT st 6 30),(cT st 6 31),(cT st 6 32),(cT st 6 33),(cT st 6 34),(cT st 6 35),(cT st 6 36),(cT st 6 37),(cT st 6 38),(cT st 6 39),(cT st 6 40),(cT st 6 41),(cT st 6 42),(cT st 6 43),(cT st 6 44),(cT st 6 45),(cT st 6 46),(cT st 6 47),(cT st 6 48),(cT st 6 49),(cT st 6 50),(cT st 6 51)]]⟩])
 a0:=λst=>(lk st 34).toInt
 ex0:=λst=>[]++[(rX st 3 0),(Q0p (cT st 3 25) (st.rows.length+1)),(rX st 6 2)]}
def Z1e:List (Nat×LInv):=[(5,Z8v)]
def Zf2:Q0f:=mT 63 [] true [.agg Q01.sig, .one (.recs .apiEntry), .one (.int .u64)] [] (λa r=>Q8u (Q01.of (aC a 0)) (argR .apiEntry a 1) (argI a 2)) (λX=> .tup [.agg (Q01.cellsW (X.1) (.all 0) (.sl 4 (.recs .apiEntry X.1.B3) true)), .bool (X.2)]) (λX=>[⟨false,25,1, .ints .u32 (X.1).A0.Mem⟩])
theorem Qtp:Q06 pG Zf2:=oT (.cons Q8z (.cons Qy3 (.cons Qcd (.cons Z4c (.nil))))) Tryz.func63 Tryz.call63 [.row 25 1 (.ints .u32), .sl (.recs .apiEntry) true] Z1e 3
end
noncomputable section
def Qhd:Q0f:=⟨156,[true],false,λargs rows=>match args,rows with|[.ptr r i o, .int .u64 n],[⟨true,ty,sz, .gen [e]⟩]=>(match bS r 0&&(bS i 0&&(bS o 49&&e.all D.stayB)) with|true=> .abs Unit () (λ_=> .clo 216 [.ptr 1 0 0, .ptr 2 0 0]) (λ_=>[⟨true,ty,sz, .gen [e]⟩,⟨true,219,1, .gen [[.ptr 0 0 49]]⟩,⟨true,41,1, .gen [[.int .u64 n]]⟩])|false=> .no)|_,_=> .no,none,false⟩
theorem Qvi:Q06 pG Qhd:=by
  refine⟨λ_=>Tryz.call156,λ_=>by decide,λ_ args rows r r' hm=> ?_,λ_ args rows p r r' hm=> ?_,λ_ args rows α v res rows' hm=> ?_,λ_ args rows p α v res rows' hm=> ?_,λk hk=>(by cases hk),λk hk=>(by cases hk)⟩
  . simp only[Qhd]at hm;split at hm<;>(try split at hm)<;>cases hm
  . simp only[Qhd]at hm;split at hm<;>(try split at hm)<;>cases hm
  . simp only[Qhd]at hm
    split at hm
    . rename_i r i o n ty sz e
      split at hm
      . rename_i hc
        cases hm
        simp only[aE]at hc
        obtain⟨h1,h2,h3,he⟩:=hc
        have h1:=bE h1;have h2:=bE h2;have h3:=bE h3
        subst h1;subst h2;subst h3
        refine⟨?_,λh=>by cases h⟩
        have e1: ∀Q0:D->GD.Rows->Prop,(fnVC tab [] (λ_ _ _=>False) Tryz.f156 [.ptr 0 0 49, .int .u64 n] [⟨true,ty,sz, .gen [e]⟩] λd R=>Q0 d R)=Q0 (.clo 216 [.ptr 1 0 0, .ptr 2 0 0]) [some ⟨true,ty,sz, .gen [e]⟩,some ⟨true,219,1, .gen [[.ptr 0 0 49]]⟩,some ⟨true,41,1, .gen [[.int .u64 n]]⟩]:=λ_=>by kernel_rfl
        refine z7 drawn Q0k Q7l.nil Tryz.func156 (rf:=none) (L:=λ_ _ _=>False) (λ_ _=>trivial) (λ_ _ _ _ h=>h.elim) (Q0:=λd R=>d= .clo 216 [.ptr 1 0 0, .ptr 2 0 0]/\R=[some ⟨true,ty,sz, .gen [e]⟩,some ⟨true,219,1, .gen [[.ptr 0 0 49]]⟩,some ⟨true,41,1, .gen [[.int .u64 n]]⟩]) (λd R h=> ?_) ((e1 _).symm▸⟨rfl,rfl⟩)
        obtain⟨rfl,rfl⟩:=h
        refine⟨[0,1,2],rfl,?_,?_⟩
        . simp [retD,retV,retC,cand,capX,inEx]
        . simp [Q3x,Z5v,retC,cand,inEx,Zaw he]
      . cases hm
    . cases hm
  . simp only[Qhd]at hm;split at hm<;>(try split at hm)<;>cases hm
def Q4s(p0:Q0b)(fr0:Q01):Tree (Bool×Q01):=
.an (Qax fr0.A0 p0) (.lv (Q70 fr0.A0 p0) λ(x0:Q00×Bool)=> .lf (true,{A0:=x0.1,B3:=fr0.B3,B5:=fr0.B5,A7:=fr0.A7}))
def Qj9 p0 fr0:=(Q4s p0 fr0).m
abbrev Qeq p0 fr0:=(Q4s p0 fr0).p
def Qre:Q0f:=mkKP 1 1000000068 [false,true] [.agg Q0b.sig, .ptr 0] [.box 106 52 Q01.sig] (λa r=>Qeq (Q0b.of (aC a 0)) (Q01.of (r.getD 0 default).cs)) (λa r=>Qj9 (Q0b.of (aC a 0)) (Q01.of (r.getD 0 default).cs)) (λX=> .bool (X.1)) (λX=>[⟨true,106,52, .gen [(Q01.cellsW (X.2) (.all 1) (.sl 4 (.recs .apiEntry X.2.B3) false))]⟩,⟨false,25,1, .ints .u32 (X.2).A0.Mem⟩])
theorem Qph:Q06 pG Qre:=Zoi none (λ_ _=>trivial) drawn Q0k (.cons Q8z (.cons Qca (.cons Qvi (.cons Qi1 (.cons Qkt (.cons Qqp (.cons Qpu (.nil)))))))) (Tryz.func1000000068 ⟨λ_ _=>by kernel_rfl,rfl⟩) (λh=>absurd h (by decide)) (λa r=>Q4s (Q0b.of (aC a 0)) (Q01.of (r.getD 0 default).cs)) [.row 25 1 (.ints .u32), .sl (.recs .apiEntry) false] [] 2 (λ_ _ _=>by kernel_rfl) (λ_ _=>rfl) (λ_ _ h=>h)
def Qlw(p:Q01)(fr1:Int)(z:Q01):Nat:=z.B3.length
def Q7g(p:Q01)(fr1:Int):Tree (Q01×Int):=
.lp inferInstance (Qlw p fr1 p+1) ((True/\rZ/\rZ/\True)/\(mE p.A0 (((Els.Nil (Els.ints u32 p.A0.Mem)\/rE (1:Nat))/\rE p.A0.Mem)) (((Els.Nil (Els.recs RK.apiEntry p.B3)\/rE (4:Nat))/\rE p.B3)/\rE p.B5/\rE p.A7/\True))/\(True/\True)/\(rE (fr1:Int)/\True)/\True) p λ(v0:Q01)=> .br (decide ((v0.B3.length:Int)>(0:Int))) (let E1:=bS 4 4&&bT 0 4&&decide ((0:Int)<=(0:Int)/\0<(v0.B3.length:Int)); .cn E1 (let E2:=v0.B3.getD (cZ 0) (RK.dflt RK.apiEntry); .br (decide (E2.At<=fr1)) (.cn E1 (.br (E2.B6.B7 !=1) (.cn E1 (.cn (bS 4 4&&bT 0 4&&decide ((0:Int)<=(1:Int)/\1<=(v0.B3.length:Int)/\(v0.B3.length:Int)<=(v0.B3.length:Int))) (let E3:=cZ (v0.B3.length:Int)-cZ 1; .an (Qeq E2.B6 {A0:=v0.A0,B3:=cY E3 (dA (cZ 1) v0.B3),B5:=v0.B5,A7:=v0.A7}) (.lv (Qj9 E2.B6 {A0:=v0.A0,B3:=cY E3 (dA (cZ 1) v0.B3),B5:=v0.B5,A7:=v0.A7}) λ(x0:Bool×Q01)=> .br (!x0.1) (.lf (Sum.inr (x0.2,fr1))) (.nx ((True/\rZ/\rZ/\True)/\(mE x0.2.A0 (rE x0.2.A0.Mem) (((Els.Nil (Els.recs RK.apiEntry x0.2.B3)\/rE (4:Nat))/\rE x0.2.B3)/\rE x0.2.B5/\rE x0.2.A7/\True))/\(True/\True)/\(rE (fr1:Int)/\True)/\True) (Sum.inl x0.2)))))) (.lf (Sum.inr (v0,fr1))))) (.lf (Sum.inr (v0,fr1))))) (.lf (Sum.inr (v0,fr1)))
def Z0h p fr1:=(Q7g p fr1).m
abbrev Qi p fr1:=(Q7g p fr1).p
def Z4j:LInv:={
 α:=Q01
 F:=λst a=>([(0, .clo 1000000068 [.ptr 0 0 0]),(1, .ptr 1 0 0),(2, .ptr 2 0 0)],[⟨true,106,52, .gen [[.int u32 a.A0.B2.X.a0, .int u32 a.A0.B2.X.a1, .int u32 a.A0.B2.X.a2, .int u32 a.A0.B2.X.a3, .int u32 a.A0.B2.X.a4, .int u32 a.A0.B2.X.a5, .int u32 a.A0.B2.X.a6, .int u32 a.A0.B2.X.a7, .int u32 a.A0.B2.X.a8, .int u32 a.A0.B2.X.a9, .int u32 a.A0.B2.X.a10, .int u32 a.A0.B2.X.a11, .int u32 a.A0.B2.X.a12, .int u32 a.A0.B2.X.a13, .int u32 a.A0.B2.X.a14, .int u32 a.A0.B2.X.a15, .int u32 a.A0.B2.Pc, .int u32 a.A0.B2.B8.a0, .int u32 a.A0.B2.B8.a1, .int u32 a.A0.B2.B8.a2, .int u32 a.A0.B2.B8.a3, .int u32 a.A0.B2.B8.a4, .int u32 a.A0.B2.B8.a5, .int u32 a.A0.B2.B8.a6, .int u32 a.A0.B2.B8.a7, .sl 1 (.ints u32 a.A0.Mem) false, .str a.A0.A3.D2, .bool a.A0.B0.D4, .int u32 a.A0.B0.C8, .bool a.A0.B0.D3, .int u32 a.A0.B1.Blocks, .int u32 a.A0.B1.C3, .int u32 a.A0.B1.Frame, .int i64 a.A0.B1.C4, .int i64 a.A0.B1.D8, .int u32 a.A0.B1.B9, .int u32 a.A0.B1.B4, .str a.A0.B1.C6, .int u32 a.A0.C2.Frame, .int u32 a.A0.C2.E0, .bool a.A0.C2.C7, .int u32 a.A0.C2.C1, .bool a.A0.C2.C0, .int u32 a.A0.C2.F1, .int u32 a.A0.A1.C9, .int u32 a.A0.A1.C5, .int u64 a.A0.A2, .bool a.A0.A4, .bool a.A0.A6, .sl 4 (.recs RK.apiEntry a.B3) false, .int u64 a.B5, .int u32 a.A7]]⟩,⟨true,219,1, .gen [[.ptr 0 0 49]]⟩,⟨true,41,1, .gen [[(Q0v st.rows 2 0)]]⟩])
 a0:=λst=>(⟨(⟨(⟨(⟨(Q0v st.rows 0 0).toInt,(Q0v st.rows 0 1).toInt,(Q0v st.rows 0 2).toInt,(Q0v st.rows 0 3).toInt,(Q0v st.rows 0 4).toInt,(Q0v st.rows 0 5).toInt,(Q0v st.rows 0 6).toInt,(Q0v st.rows 0 7).toInt,(Q0v st.rows 0 8).toInt,(Q0v st.rows 0 9).toInt,(Q0v st.rows 0 10).toInt,(Q0v st.rows 0 11).toInt,(Q0v st.rows 0 12).toInt,(Q0v st.rows 0 13).toInt,(Q0v st.rows 0 14).toInt,(Q0v st.rows 0 15).toInt⟩:(A16 Int)),(Q0v st.rows 0 16).toInt,(⟨(Q0v st.rows 0 17).toInt,(Q0v st.rows 0 18).toInt,(Q0v st.rows 0 19).toInt,(Q0v st.rows 0 20).toInt,(Q0v st.rows 0 21).toInt,(Q0v st.rows 0 22).toInt,(Q0v st.rows 0 23).toInt,(Q0v st.rows 0 24).toInt⟩:(A8 Int))⟩:Q05),(frzI u32 st.rows (Q0v st.rows 0 25)),(⟨(Q0v st.rows 0 26).toStr⟩:Q0e),(⟨(Q0v st.rows 0 27).toBool,(Q0v st.rows 0 28).toInt,(Q0v st.rows 0 29).toBool⟩:Q0j),(⟨(Q0v st.rows 0 30).toInt,(Q0v st.rows 0 31).toInt,(Q0v st.rows 0 32).toInt,(Q0v st.rows 0 33).toInt,(Q0v st.rows 0 34).toInt,(Q0v st.rows 0 35).toInt,(Q0v st.rows 0 36).toInt,(Q0v st.rows 0 37).toStr⟩:Q0h),(⟨(Q0v st.rows 0 38).toInt,(Q0v st.rows 0 39).toInt,(Q0v st.rows 0 40).toBool,(Q0v st.rows 0 41).toInt,(Q0v st.rows 0 42).toBool,(Q0v st.rows 0 43).toInt⟩:Q0q),(⟨(Q0v st.rows 0 44).toInt,(Q0v st.rows 0 45).toInt⟩:Q07),(Q0v st.rows 0 46).toInt,(Q0v st.rows 0 47).toBool,(Q0v st.rows 0 48).toBool⟩:Q00),(slR RK.apiEntry (Q0v st.rows 0 49)),(Q0v st.rows 0 50).toInt,(Q0v st.rows 0 51).toInt⟩:Q01)
 ex0:=λst=>[0,1,2]++[]}
def Qxy:List (Nat×LInv):=[(0,Z4j)]
def Z92:Q0f:=mkKP 3 216 [true,true,true] [.clo 1000000068 [.ptr 0 0 0], .ptr 1, .ptr 2] [.box 106 52 Q01.sig, .box 219 1 [.pt 0 0 49], .box 41 1 [.int .u64]] (λa r=>Qi (Q01.of (r.getD 0 default).cs) (rcell r 2 0).toInt) (λa r=>Z0h (Q01.of (r.getD 0 default).cs) (rcell r 2 0).toInt) (λX=> .tup []) (λX=>[⟨true,106,52, .gen [(Q01.cells (X.1))]⟩,⟨true,219,1, .gen [[.ptr 0 0 49]]⟩,⟨true,41,1, .gen [[.int .u64 X.2]]⟩])
theorem Z3f:Q06 pG Z92:=qA drawn Q0k (.cons Qph (.nil)) Tryz.func216 Tryz.call216 (λa r=>Q7g (Q01.of (r.getD 0 default).cs) (rcell r 2 0).toInt) [.sl (.ints .u32) false, .sl (.recs .apiEntry) false] Qxy 3 (λ_ _ _=>by kernel_rfl) (λ_ _=>rfl) (λ_ _ h=>h)
def Q7r(p:Q01)(steps:Int)(z:(Int)×Q01×(List Q03)):Nat:=(4000-z.1).toNat
def Q3(p:Q01)(steps:Int):Tree (Q01×(List Q03)):=
.an (Q5y p) (.lv (Qez p) λ(x0:Q01)=> .an (Q7u x0.A0) (.lv (Q18 x0.A0) λ(x1:Bool)=> .br (!x1) (.lf (x0,[])) (.lp inferInstance (Q7r p steps (0,x0,[])+1) ((rZ/\rZ/\True/\rE ((if 4000<if 0>steps then 0 else steps then 4000 else if 0>steps then 0 else steps):Int)/\rE (0:Int)/\True)/\(mE x0.A0 (rE x0.A0.Mem) (((Els.Nil (Els.recs RK.apiEntry x0.B3)\/rE (4:Nat))/\rE x0.B3)/\rE x0.B5/\rE x0.A7/\True))/\(mE zM True (True/\rE (0:Int)/\rE (0:Int)/\True))/\rE ([]:List (RK.T RK.apiOutput))/\True) (0,x0,[]) λ(v0:Int×Q01×List Q03)=> .br (decide (v0.1<if 4000<if 0>steps then 0 else steps then 4000 else if 0>steps then 0 else steps)) (.br (decide (v0.2.1.A0.A2>=v0.2.1.B5)) (.lf (Sum.inr (v0.2.1,v0.2.2))) (.lv () λ(x2:Unit)=> .an (Qi v0.2.1 v0.2.1.A0.A2) (.lv (Z0h v0.2.1 v0.2.1.A0.A2) λ(x3:Q01×Int)=> .br x3.1.A0.A6 (.lf (Sum.inr (x3.1,v0.2.2))) (.an (Q9 x3.1.A0) (.lv (Q4l x3.1.A0) λ(x4:Bool)=> .br x4 (.lf (Sum.inr (x3.1,v0.2.2))) (.br (x3.1.A0.A2==1152921504606846976) (.lf (Sum.inr (x3.1,v0.2.2))) (.an (Qi4 x3.1) (.lv (Qzz x3.1) λ(x5:Int×Bool×Bool)=> .br (!x5.2.2) (.lf (Sum.inr (x3.1,v0.2.2))) (.br x5.2.1 (.cn (bS 4 4&&bT 0 4&&decide ((0:Int)<=(1:Int)/\1<=(x3.1.B3.length:Int)/\(x3.1.B3.length:Int)<=(x3.1.B3.length:Int))) (.an (Q6o x3.1.A0 x5.1) (.lv (Q3t x3.1.A0 x5.1) λ(x6:Q00×List Q03)=> .cn (decide (40*(v0.2.2.length+x6.2.length)<=140737488355328)) (.nx ((rZ/\rZ/\True/\rE ((if 4000<if 0>steps then 0 else steps then 4000 else if 0>steps then 0 else steps):Int)/\rE ((wrap i64 (v0.1+1)):Int)/\True)/\(mE x6.1 (((Els.Nil (Els.ints u32 x6.1.Mem)\/rE (1:Nat))/\rE x6.1.Mem)) (((Els.Nil (Els.take (Els.drop (Els.recs RK.apiEntry x3.1.B3) (cZ 1)) (cZ (↑(Els.len (Els.recs RK.apiEntry x3.1.B3)):Int)-cZ 1))\/rE (4:Nat))/\rE ((cY (cZ (x3.1.B3.length:Int)-cZ 1) (dA (cZ 1) x3.1.B3)):List (RK.T RK.apiEntry)))/\rE x3.1.B5/\rE ((wrap u32 (x5.1+1)):Int)/\True))/\(mE zM True (True/\rE (0:Int)/\rE (0:Int)/\True))/\rE ((v0.2.2++x6.2):List (RK.T RK.apiOutput))/\True) (Sum.inl (wrap i64 (v0.1+1),{A0:=x6.1,B3:=cY (cZ (x3.1.B3.length:Int)-cZ 1) (dA (cZ 1) x3.1.B3),B5:=x3.1.B5,A7:=wrap u32 (x5.1+1)},v0.2.2++x6.2)))))) (.an (Q6o x3.1.A0 x5.1) (.lv (Q3t x3.1.A0 x5.1) λ(x7:Q00×List Q03)=> .cn (decide (40*(v0.2.2.length+x7.2.length)<=140737488355328)) (.nx ((rZ/\rZ/\True/\rE ((if 4000<if 0>steps then 0 else steps then 4000 else if 0>steps then 0 else steps):Int)/\rE ((wrap i64 (v0.1+1)):Int)/\True)/\(mE x7.1 (((Els.Nil (Els.ints u32 x7.1.Mem)\/rE (1:Nat))/\rE x7.1.Mem)) (((Els.Nil (Els.recs RK.apiEntry x3.1.B3)\/rE (4:Nat))/\rE x3.1.B3)/\rE x3.1.B5/\rE x3.1.A7/\True))/\(mE zM True (True/\rE (0:Int)/\rE (0:Int)/\True))/\rE ((v0.2.2++x7.2):List (RK.T RK.apiOutput))/\True) (Sum.inl (wrap i64 (v0.1+1),{A0:=x7.1,B3:=x3.1.B3,B5:=x3.1.B5,A7:=x3.1.A7},v0.2.2++x7.2)))))))))))))) (.lf (Sum.inr (v0.2.1,v0.2.2))))))
def Q5r p steps:=(Q3 p steps).m
abbrev Q2d p steps:=(Q3 p steps).p
def Qyb:LInv:={
 α:=(Int)×Q01×(List Q03)
 F:=λst a=>([(2, .ptr 0 0 0),(4, .ptr 1 0 0),(6, .all 2),(21,(lk st 21)),(22, .int i64 a.1)],[⟨true,106,52, .gen [[.int u32 a.2.1.A0.B2.X.a0, .int u32 a.2.1.A0.B2.X.a1, .int u32 a.2.1.A0.B2.X.a2, .int u32 a.2.1.A0.B2.X.a3, .int u32 a.2.1.A0.B2.X.a4, .int u32 a.2.1.A0.B2.X.a5, .int u32 a.2.1.A0.B2.X.a6, .int u32 a.2.1.A0.B2.X.a7, .int u32 a.2.1.A0.B2.X.a8, .int u32 a.2.1.A0.B2.X.a9, .int u32 a.2.1.A0.B2.X.a10, .int u32 a.2.1.A0.B2.X.a11, .int u32 a.2.1.A0.B2.X.a12, .int u32 a.2.1.A0.B2.X.a13, .int u32 a.2.1.A0.B2.X.a14, .int u32 a.2.1.A0.B2.X.a15, .int u32 a.2.1.A0.B2.Pc, .int u32 a.2.1.A0.B2.B8.a0, .int u32 a.2.1.A0.B2.B8.a1, .int u32 a.2.1.A0.B2.B8.a2, .int u32 a.2.1.A0.B2.B8.a3, .int u32 a.2.1.A0.B2.B8.a4, .int u32 a.2.1.A0.B2.B8.a5, .int u32 a.2.1.A0.B2.B8.a6, .int u32 a.2.1.A0.B2.B8.a7, .sl 1 (.ints u32 a.2.1.A0.Mem) false, .str a.2.1.A0.A3.D2, .bool a.2.1.A0.B0.D4, .int u32 a.2.1.A0.B0.C8, .bool a.2.1.A0.B0.D3, .int u32 a.2.1.A0.B1.Blocks, .int u32 a.2.1.A0.B1.C3, .int u32 a.2.1.A0.B1.Frame, .int i64 a.2.1.A0.B1.C4, .int i64 a.2.1.A0.B1.D8, .int u32 a.2.1.A0.B1.B9, .int u32 a.2.1.A0.B1.B4, .str a.2.1.A0.B1.C6, .int u32 a.2.1.A0.C2.Frame, .int u32 a.2.1.A0.C2.E0, .bool a.2.1.A0.C2.C7, .int u32 a.2.1.A0.C2.C1, .bool a.2.1.A0.C2.C0, .int u32 a.2.1.A0.C2.F1, .int u32 a.2.1.A0.A1.C9, .int u32 a.2.1.A0.A1.C5, .int u64 a.2.1.A0.A2, .bool a.2.1.A0.A4, .bool a.2.1.A0.A6, .sl 4 (.recs RK.apiEntry a.2.1.B3) false, .int u64 a.2.1.B5, .int u32 a.2.1.A7]]⟩,⟨true,106,52, .gen [[(cT st 4 0),(cT st 4 1),(cT st 4 2),(cT st 4 3),(cT st 4 4),(cT st 4 5),(cT st 4 6),(cT st 4 7),(cT st 4 8),(cT st 4 9),(cT st 4 10),(cT st 4 11),(cT st 4 12),(cT st 4 13),(cT st 4 14),(cT st 4 15),(cT st 4 16),(cT st 4 17),(cT st 4 18),(cT st 4 19),(cT st 4 20),(cT st 4 21),(cT st 4 22),(cT st 4 23),(cT st 4 24),(cT st 4 25),(cT st 4 26),(cT st 4 27),(cT st 4 28),(cT st 4 29),(cT st 4 30),(cT st 4 31),(cT st 4 32),(cT st 4 33),(cT st 4 34),(cT st 4 35),(cT st 4 36),(cT st 4 37),(cT st 4 38),(cT st 4 39),(cT st 4 40),(cT st 4 41),(cT st 4 42),(cT st 4 43),(cT st 4 44),(cT st 4 45),(cT st 4 46),(cT st 4 47),(cT st 4 48),(cT st 4 49),(cT st 4 50),(cT st 4 51)]]⟩,⟨false,71,4, .recs RK.apiOutput a.2.2⟩])
 a0:=λst=>((lk st 22).toInt,(⟨(mR (cT st 2) (frzI u32 st.rows (cT st 2 25))),(slR RK.apiEntry (cT st 2 49)),(cT st 2 50).toInt,(cT st 2 51).toInt⟩:Q01),(Q5 RK.apiOutput st.rows (rN st 6)))
 ex0:=λst=>[]++[(rX st 2 0),(rX st 4 1),(rX st 6 2)]}
def Qty:List (Nat×LInv):=[(6,Qyb)]
def Z1u:Q0f:=Q0f.fz<|mkP 68 [] false [.agg Q01.sig, .one (.int .i64)] [] (λa r=>Q2d (Q01.of (aC a 0)) (argI a 1)) (λa r=>Q5r (Q01.of (aC a 0)) (argI a 1)) (λX=> .tup [.agg (Q01.cells (X.1)), .all 0]) (λX=>[⟨false,71,4, .recs .apiOutput (X.2)⟩])
theorem Qna:Q06 pG Z1u:=Zn<|yz (some 1000000068) (rf_of (by kernel_rfl) rfl) drawn Q0k (.cons Q8z (.cons Qca (.cons Qvi (.cons Qi1 (.cons Qkt (.cons Qqp (.cons Qpu (.cons Z3f (.nil))))))))) Tryz.func68 Tryz.call68 (λa r=>Q3 (Q01.of (aC a 0)) (argI a 1)) [.sl (.ints .u32) false, .sl (.recs .apiEntry) false, .row 71 4 (.recs .apiOutput)] Qty 3 (λ_ _ _=>by kernel_rfl) (λ_ _=>rfl) (λ_ _ h=>h) (λh=>by cases h)
end
noncomputable section
def Qej:Tree Bool:=
.an (Qa9 1 0 []) (.lv (Qs8 1 0 []) λ(x0:Q00×Bool)=> .an (Qm9 x0.1) (.lv (Zaf x0.1) λ(x1:Q01)=> .an (Q7z x1 [] 3) (.lv (Qjf x1 [] 3) λ(x2:Q01×Bool)=> .an (Q2d x2.1 10) (.lv (Q5r x2.1 10) λ(x3:Q01×List Q03)=> .an (Q44 x3.1) (.lv (Qaw x3.1) λ(x4:Q02×Bool)=> .an (Q44 x2.1) (.lv (Qaw x2.1) λ(x5:Q02×Bool)=> .br x2.2 (.lv (Qdx x2.1) λ(x6:Int)=> .br (x6==3) (.br (x3.1.A0.A2==3) (.br ((x3.2.length:Int)==(0:Int)) (.lv (Qdx x3.1) λ(x7:Int)=> .br (x7==0) (.br x4.2 (.lf (!x5.2)) (.lf false)) (.lf false)) (.lf false)) (.lf false)) (.lf false)) (.lf false)))))))
def Q35:Bool:=(Qej).m
abbrev Q1s:Prop:=(Qej).p
def Zda:Q0f:=mT 60 [] true [] [] (λa r=>Qej) (λX=> .bool X) (λX=>[])
theorem Z7k:Q06 pG Zda:=oT (.cons Z30 (.cons Qtp (.cons Zbn (.cons Qna (.cons Qos (.cons Qx6 (.nil))))))) Tryz.func60 Tryz.call60 [] [] 2
end
noncomputable section
def Q9j(m:Q01)(e:Q0b):Tree (Bool×Q01):=
.br m.A0.A6 (.lf (false,m)) (let T1:Tree ((Bool×Q01)):= .br (e.B7==4) (.an (Qf5 m.A0.B1 m.A0.Mem e) (.lv (Qa1 m.A0.B1 m.A0.Mem e) λ(x2:Q0h×Bool×List Int)=> .lf (x2.2.1,{A0:={B2:=m.A0.B2,Mem:=x2.2.2,A3:=m.A0.A3,B0:=m.A0.B0,B1:=x2.1,C2:=m.A0.C2,A1:=m.A0.A1,A2:=m.A0.A2,A4:=m.A0.A4,A6:=m.A0.A6},B3:=m.B3,B5:=m.B5,A7:=m.A7}))) (let T3:Tree ((Bool×Q01)):= .br (e.B7==6) (.br (decide (e.D0=[])) (.lf (true,{A0:={B2:=m.A0.B2,Mem:=m.A0.Mem,A3:=m.A0.A3,B0:=m.A0.B0,B1:=m.A0.B1,C2:=m.A0.C2,A1:={C9:=e.N,C5:=m.A0.A1.C5},A2:=m.A0.A2,A4:=m.A0.A4,A6:=m.A0.A6},B3:=m.B3,B5:=m.B5,A7:=m.A7})) (.lf (false,m))) (.lf (false,m)); .br (e.B7==5) (.br (e.N==0) (.an (Qer m.A0.C2 m.A0.Mem e.D0) (.lv (Qao m.A0.C2 m.A0.Mem e.D0) λ(x3:Q0q×Bool×List Int)=> .lf (x3.2.1,{A0:={B2:=m.A0.B2,Mem:=x3.2.2,A3:=m.A0.A3,B0:=m.A0.B0,B1:=m.A0.B1,C2:=x3.1,A1:=m.A0.A1,A2:=m.A0.A2,A4:=m.A0.A4,A6:=m.A0.A6},B3:=m.B3,B5:=m.B5,A7:=m.A7}))) T3) T3);let T2:Tree ((Bool×Q01)):= .br (e.B7==3) (.br (decide (e.N<=255)) (.br (decide (e.D0=[])) (.an (Qie m.A0.A3 (wrap u8 e.N)) (.lv (Qr6 m.A0.A3 (wrap u8 e.N)) λ(x1:Q0e×Bool)=> .lf (x1.2,{A0:={B2:=m.A0.B2,Mem:=m.A0.Mem,A3:=x1.1,B0:=m.A0.B0,B1:=m.A0.B1,C2:=m.A0.C2,A1:=m.A0.A1,A2:=m.A0.A2,A4:=m.A0.A4,A6:=m.A0.A6},B3:=m.B3,B5:=m.B5,A7:=m.A7}))) T1) T1) T1; .br (e.B7==2) (.br (e.N==0) (.br (decide (e.D0=[])) (.lv (Qr8 m.A0.B0) λ(x0:Q0j×Bool)=> .lf (x0.2,{A0:={B2:=m.A0.B2,Mem:=m.A0.Mem,A3:=m.A0.A3,B0:=x0.1,B1:=m.A0.B1,C2:=m.A0.C2,A1:=m.A0.A1,A2:=m.A0.A2,A4:=m.A0.A4,A6:=m.A0.A6},B3:=m.B3,B5:=m.B5,A7:=m.A7})) T2) T2) T2)
def Qlk m e:=(Q9j m e).m
abbrev Qp1 m e:=(Q9j m e).p
def Z79:Q0f:=mT 161 [true,false] false [.ptr 0, .agg Q0b.sig] [.box 106 52 (Q01.sigW (.row 1) (.recs .apiEntry)), .arr 25 1 (.ints .u32)] (λa r=>Q9j (Q01.ofW (r.getD 0 default).cs (rowL .u32 r 1) (slR .apiEntry (((r.getD 0 default).cs).getD 49 .dead))) (Q0b.of (aC a 1))) (λX=> .bool (X.1)) (λX=>[⟨true,106,52, .gen [(Q01.cellsW (X.2) (.all 1) (.sl 4 (.recs .apiEntry X.2.B3) false))]⟩,⟨false,25,1, .ints .u32 (X.2).A0.Mem⟩])
theorem Z4w:Q06 pG Z79:=oT (.cons Qq7 (.cons Qqh (.cons Qm5 (.cons Qmh (.nil))))) Tryz.func161 Tryz.call161 [.row 25 1 (.ints .u32), .sl (.recs .apiEntry) false] [] 2 (hff:=nofun)
def Q7w(m:Q01)(e:Q0b):Tree (Bool×Q01):=
.an (Qp1 m e) (.lv (Qlk m e) λ(x0:Bool×Q01)=> .lf (x0.1,x0.2))
def Qeh m e:=(Q7w m e).m
abbrev Qbm m e:=(Q7w m e).p
def Z5c:Q0f:=mT 159 [true,false] false [.ptr 0, .agg Q0b.sig] [.box 106 52 (Q01.sigW (.row 1) (.recs .apiEntry)), .arr 25 1 (.ints .u32)] (λa r=>Q7w (Q01.ofW (r.getD 0 default).cs (rowL .u32 r 1) (slR .apiEntry (((r.getD 0 default).cs).getD 49 .dead))) (Q0b.of (aC a 1))) (λX=> .bool (X.1)) (λX=>[⟨true,106,52, .gen [(Q01.cellsW (X.2) (.all 1) (.sl 4 (.recs .apiEntry X.2.B3) false))]⟩,⟨false,25,1, .ints .u32 (X.2).A0.Mem⟩])
theorem Qp8:Q06 pG Z5c:=oT (.cons Z4w (.nil)) Tryz.func159 Tryz.call159 [.row 25 1 (.ints .u32), .sl (.recs .apiEntry) false] [] 2 (hff:=nofun)
def Qjr(m:Q01)(port clock:Int):Tree (Int×Q01):=
.br (decide (port<=1)) (.lv (Q4h m.A0.A3 port) λ(x0:Q0e×Int)=> .lf (x0.2,{A0:={B2:=m.A0.B2,Mem:=m.A0.Mem,A3:=x0.1,B0:=m.A0.B0,B1:=m.A0.B1,C2:=m.A0.C2,A1:=m.A0.A1,A2:=m.A0.A2,A4:=m.A0.A4,A6:=m.A0.A6},B3:=m.B3,B5:=m.B5,A7:=m.A7})) (.br (port==2) (.lf (clock,m)) (.br (port==3) (.lv (Qe4 m.A0.B0) λ(x1:Int)=> .lf (x1,m)) (.br (decide (port<=6)) (.lv (Qg9 m.A0.B1 port) λ(x2:Int)=> .lf (x2,m)) (.br (decide (port<=9)) (.lv (Qfp m.A0.C2 port) λ(x3:Int)=> .lf (x3,m)) (.lv (Q4f m.A0.A1 port) λ(x4:Int)=> .lf (x4,m))))))
def Qwf m port clock:=(Qjr m port clock).m
def Zl8:Q0f:=mS 218 [true,false,false] false [.ptr 0, .one (.int .i64), .one (.int .u32)] [.box 106 52 (Q01.sigW (.row 1) (.recs .apiEntry)), .arr 25 1 (.ints .u32)] (λa r=>Qjr (Q01.ofW (r.getD 0 default).cs (rowL .u32 r 1) (slR .apiEntry (((r.getD 0 default).cs).getD 49 .dead))) (argI a 1) (argI a 2)) (λX=> .int .u32 (X.1)) (λX=>[⟨true,106,52, .gen [(Q01.cellsW (X.2) (.all 1) (.sl 4 (.recs .apiEntry X.2.B3) false))]⟩,⟨false,25,1, .ints .u32 (X.2).A0.Mem⟩])
theorem Zfp:Q06 pG Zl8:=oS (.cons Qfs (.cons Qja (.cons Qm7 (.cons Qo6 (.cons Qg7 (.nil)))))) Tryz.func218 Tryz.call218 [.row 25 1 (.ints .u32), .sl (.recs .apiEntry) false] [] 2 (λ_ _ _=>by kernel_rfl) (λ_ _=>Tree.free_ok (by kernel_rfl)) (λh=>by cases h)
def Qe6(m:Q01)(port v:Int):Tree ((List Q03)×Q01):=
.br (port==0) (.lf ([{B7:=1,At:=m.A0.A2,C3:=0,D0:=[(λ(n:Int)=>eS n.toNat) (wrap u8 v)]}],m)) (.br (decide (port<=2)) (.lf ([],m)) (.br (port==3) (.lv (Qse v) λ(x0:Q0j)=> .lf ([],{A0:={B2:=m.A0.B2,Mem:=m.A0.Mem,A3:=m.A0.A3,B0:=x0,B1:=m.A0.B1,C2:=m.A0.C2,A1:=m.A0.A1,A2:=m.A0.A2,A4:=m.A0.A4,A6:=m.A0.A6},B3:=m.B3,B5:=m.B5,A7:=m.A7})) (.br (decide (port<=6)) (.an (Qd3 m.A0.B1 m.A0.Mem port v m.A0.A2) (.lv (Qe5 m.A0.B1 m.A0.Mem port v m.A0.A2) λ(x1:Q0h×List Q03)=> .lf (x1.2,{A0:={B2:=m.A0.B2,Mem:=m.A0.Mem,A3:=m.A0.A3,B0:=m.A0.B0,B1:=x1.1,C2:=m.A0.C2,A1:=m.A0.A1,A2:=m.A0.A2,A4:=m.A0.A4,A6:=m.A0.A6},B3:=m.B3,B5:=m.B5,A7:=m.A7}))) (.br (decide (port<=9)) (.an (Qeg m.A0.C2 m.A0.Mem port v m.A0.A2) (.lv (Qg3 m.A0.C2 m.A0.Mem port v m.A0.A2) λ(x2:Q0q×List Q03)=> .lf (x2.2,{A0:={B2:=m.A0.B2,Mem:=m.A0.Mem,A3:=m.A0.A3,B0:=m.A0.B0,B1:=m.A0.B1,C2:=x2.1,A1:=m.A0.A1,A2:=m.A0.A2,A4:=m.A0.A4,A6:=m.A0.A6},B3:=m.B3,B5:=m.B5,A7:=m.A7}))) (.an (Qif m.A0.A1 m.A0.Mem port v) (.lv (Q60 m.A0.A1 m.A0.Mem port v) λ(x3:Q07×List Int)=> .lf ([],{A0:={B2:=m.A0.B2,Mem:=x3.2,A3:=m.A0.A3,B0:=m.A0.B0,B1:=m.A0.B1,C2:=m.A0.C2,A1:=x3.1,A2:=m.A0.A2,A4:=m.A0.A4,A6:=m.A0.A6},B3:=m.B3,B5:=m.B5,A7:=m.A7})))))))
def Qrw m port v:=(Qe6 m port v).m
abbrev Qt6 m port v:=(Qe6 m port v).p
def Zh1:Q0f:=mT 220 [true,false,false] false [.ptr 0, .one (.int .i64), .one (.int .u32)] [.box 106 52 (Q01.sigW (.row 1) (.recs .apiEntry)), .arr 25 1 (.ints .u32)] (λa r=>Qe6 (Q01.ofW (r.getD 0 default).cs (rowL .u32 r 1) (slR .apiEntry (((r.getD 0 default).cs).getD 49 .dead))) (argI a 1) (argI a 2)) (λX=> .sl 4 (.recs .apiOutput (X.1)) true) (λX=>[⟨true,106,52, .gen [(Q01.cellsW (X.2) (.all 1) (.sl 4 (.recs .apiEntry X.2.B3) false))]⟩,⟨false,25,1, .ints .u32 (X.2).A0.Mem⟩])
theorem Zd3:Q06 pG Zh1:=oT (.cons Qtw (.cons Qks (.cons Qm4 (.cons Qq6 (.nil))))) Tryz.func220 Tryz.call220 [.sl (.recs .apiOutput) true, .row 25 1 (.ints .u32), .sl (.recs .apiEntry) false] [] 2 (hff:=nofun)
def Q6q(m:Q01)(clock:Int):Tree ((List Q03)×Q01):=
.an (Q5a m.A0) (.lv (Q0n m.A0) λ(x0:Q05)=> .an (Qok x0 m.A0.Mem) (.lv (Q5f x0 m.A0.Mem) λ(x1:Q05×Q16×List Int)=>let E1:=({B2:=x1.1,Mem:=x1.2.2,A3:=m.A0.A3,B0:=m.A0.B0,B1:=m.A0.B1,C2:=m.A0.C2,A1:=m.A0.A1,A2:=m.A0.A2,A4:=false,A6:=m.A0.A6}:Q00); .br (x1.2.1.B7==1) (.lv (Qwf {A0:=E1,B3:=m.B3,B5:=m.B5,A7:=m.A7} x1.2.1.D1 clock) λ(x2:Int×Q01)=> .an (Q2t x2.2.A0.B2 x1.2.1.D9 x2.1) (.lv (Q1z x2.2.A0.B2 x1.2.1.D9 x2.1) λ(x3:Q05)=> .lf ([],{A0:={B2:=x3,Mem:=x2.2.A0.Mem,A3:=x2.2.A0.A3,B0:=x2.2.A0.B0,B1:=x2.2.A0.B1,C2:=x2.2.A0.C2,A1:=x2.2.A0.A1,A2:=wrap u64 (x2.2.A0.A2+1),A4:=x2.2.A0.A4,A6:=x2.2.A0.A6},B3:=x2.2.B3,B5:=x2.2.B5,A7:=x2.2.A7}))) (.br (x1.2.1.B7==2) (.an (Qt6 {A0:=E1,B3:=m.B3,B5:=m.B5,A7:=m.A7} x1.2.1.D1 x1.2.1.Value) (.lv (Qrw {A0:=E1,B3:=m.B3,B5:=m.B5,A7:=m.A7} x1.2.1.D1 x1.2.1.Value) λ(x4:List Q03×Q01)=> .lf (x4.1,{A0:={B2:=x4.2.A0.B2,Mem:=x4.2.A0.Mem,A3:=x4.2.A0.A3,B0:=x4.2.A0.B0,B1:=x4.2.A0.B1,C2:=x4.2.A0.C2,A1:=x4.2.A0.A1,A2:=wrap u64 (x4.2.A0.A2+1),A4:=x4.2.A0.A4,A6:=x4.2.A0.A6},B3:=x4.2.B3,B5:=x4.2.B5,A7:=x4.2.A7}))) (.br (x1.2.1.B7==3) (.lf ([],{A0:={B2:=x1.1,Mem:=x1.2.2,A3:=m.A0.A3,B0:=m.A0.B0,B1:=m.A0.B1,C2:=m.A0.C2,A1:=m.A0.A1,A2:=wrap u64 (m.A0.A2+1),A4:=true,A6:=m.A0.A6},B3:=m.B3,B5:=m.B5,A7:=m.A7})) (.br (x1.2.1.B7==4) (.lf ([],{A0:={B2:=x1.1,Mem:=x1.2.2,A3:=m.A0.A3,B0:=m.A0.B0,B1:=m.A0.B1,C2:=m.A0.C2,A1:=m.A0.A1,A2:=wrap u64 (m.A0.A2+1),A4:=false,A6:=true},B3:=m.B3,B5:=m.B5,A7:=m.A7})) (.lf ([],{A0:={B2:=x1.1,Mem:=x1.2.2,A3:=m.A0.A3,B0:=m.A0.B0,B1:=m.A0.B1,C2:=m.A0.C2,A1:=m.A0.A1,A2:=wrap u64 (m.A0.A2+1),A4:=false,A6:=m.A0.A6},B3:=m.B3,B5:=m.B5,A7:=m.A7})))))))
def Q7h m clock:=(Q6q m clock).m
abbrev Q9n m clock:=(Q6q m clock).p
def Z1g:Q0f:=mT 160 [true,false] false [.ptr 0, .one (.int .u32)] [.box 106 52 (Q01.sigW (.row 1) (.recs .apiEntry)), .arr 25 1 (.ints .u32)] (λa r=>Q6q (Q01.ofW (r.getD 0 default).cs (rowL .u32 r 1) (slR .apiEntry (((r.getD 0 default).cs).getD 49 .dead))) (argI a 1)) (λX=> .sl 4 (.recs .apiOutput (X.1)) true) (λX=>[⟨true,106,52, .gen [(Q01.cellsW (X.2) (.all 1) (.sl 4 (.recs .apiEntry X.2.B3) false))]⟩,⟨false,25,1, .ints .u32 (X.2).A0.Mem⟩])
theorem Qy1:Q06 pG Z1g:=oT (.cons Q8o (.cons Qy (.cons Zfp (.cons Qda (.cons Zd3 (.nil)))))) Tryz.func160 Tryz.call160 [.sl (.recs .apiOutput) true, .row 25 1 (.ints .u32), .sl (.recs .apiEntry) false] [] 2 (hff:=nofun)
def Q9o(p:Q01)(steps:Int)(z:(Int)×Q01×(List Q03)):Nat:=(4000-z.1).toNat
def Qli(p:Q01)(steps:Int)(z:Q01):Nat:=z.B3.length
def Q7f(p:Q01)(steps:Int):Tree (Q01×(List Q03)):=
.an (Qgo p) (.lv (Qsa p) λ(x0:Q01)=> .lv (Q25 x0.A0) λ(x1:Bool)=> .br (!x1) (.lf (x0,[])) (.lp inferInstance (Q9o p steps (0,x0,[])+1) ((rE (steps:Int)/\rZ/\rZ/\True/\rE (0:Int)/\True)/\(mE x0.A0 True (((Els.Nil (Els.recs RK.apiEntry x0.B3)\/rE (4:Nat))/\rE x0.B3)/\rE x0.B5/\rE x0.A7/\True))/\rE x0.A0.Mem/\(mE zM True (True/\rE (0:Int)/\rE (0:Int)/\True))/\rE ([]:List (RK.T RK.apiOutput))/\True) (0,x0,[]) λ(v0:Int×Q01×List Q03)=> .lv (Q0i steps) λ(x2:Int)=> .br (decide (v0.1<x2)) (.br (decide (v0.2.1.A0.A2<v0.2.1.B5)) (.lp inferInstance (Qli p steps v0.2.1+1) ((rE (steps:Int)/\rZ/\rZ/\True/\rE v0.1/\rZ/\(rE (0:Nat)/\rE (46:Nat))/\rE v0.2.1.A0.A2/\(rE (0:Nat)/\rE (50:Nat))/\rE v0.2.1.B5/\rE ((decide (v0.2.1.A0.A2<v0.2.1.B5)):Bool)/\True)/\(mE v0.2.1.A0 True (((Els.Nil (Els.recs RK.apiEntry v0.2.1.B3)\/eqAt Nat 4 4)/\rE v0.2.1.B3)/\rE v0.2.1.B5/\rE v0.2.1.A7/\True))/\rE v0.2.1.A0.Mem/\(mE zM True (True/\rE (0:Int)/\rE (0:Int)/\True))/\rE v0.2.2/\True) v0.2.1 λ(v1:Q01)=>let E4:=v1.B3.getD (cZ 0) (RK.dflt RK.apiEntry);let E5:=bS 4 4&&bT 0 4&&decide ((0:Int)<=(0:Int)/\0<(v1.B3.length:Int));let E6:=decide (E4.At<=v1.A0.A2);let E8:=decide ((v1.B3.length:Int)>(0:Int));let T1:Tree ((Q01)⊕((Int×Q01×List Q03)⊕((Q01×(List Q03))))):= .an (Qcs v1.A0) (.lv (Q0z v1.A0) λ(x4:Bool)=> .br x4 (.lf (Sum.inr (Sum.inr (v1,v0.2.2)))) (let T3:Tree ((Q01)⊕((Int×Q01×List Q03)⊕((Q01×(List Q03))))):= .an (Q9n v1 0) (.lv (Q7h v1 0) λ(x7:List Q03×Q01)=> .cn (decide (40*(v0.2.2.length+x7.1.length)<=140737488355328)) (.nx ((rE (steps:Int)/\rZ/\rZ/\True/\rE ((wrap i64 (v0.1+1)):Int)/\True)/\(mE x7.2.A0 True (((Els.Nil (Els.recs RK.apiEntry x7.2.B3)\/rE (4:Nat))/\rE x7.2.B3)/\rE x7.2.B5/\rE x7.2.A7/\True))/\rE x7.2.A0.Mem/\(mE zM True (True/\rE (0:Int)/\rE (0:Int)/\True))/\rE ((v0.2.2++x7.1):List (RK.T RK.apiOutput))/\True) (Sum.inr (Sum.inl (wrap i64 (v0.1+1),x7.2,v0.2.2++x7.1))))); .br E8 (.cn E5 (let T2:Tree ((Q01)⊕((Int×Q01×List Q03)⊕((Q01×(List Q03))))):= .an (Q41 v1.A0) (.lv (Q0g v1.A0) λ(x5:Bool)=> .br (!decide (E4.At<=v1.A0.A2)==x5) (.lf (Sum.inr (Sum.inr (v1,v0.2.2)))) (.br E6 (.cn E5 (.cn (bS 4 4&&bT 0 4&&decide ((0:Int)<=(1:Int)/\1<=(v1.B3.length:Int)/\(v1.B3.length:Int)<=(v1.B3.length:Int))) (let E7:=cZ (v1.B3.length:Int)-cZ 1; .an (Q9n {A0:=v1.A0,B3:=cY E7 (dA (cZ 1) v1.B3),B5:=v1.B5,A7:=wrap u32 (E4.B6.N+1)} E4.B6.N) (.lv (Q7h {A0:=v1.A0,B3:=cY E7 (dA (cZ 1) v1.B3),B5:=v1.B5,A7:=wrap u32 (E4.B6.N+1)} E4.B6.N) λ(x6:List Q03×Q01)=> .cn (decide (40*(v0.2.2.length+x6.1.length)<=140737488355328)) (.nx ((rE (steps:Int)/\rZ/\rZ/\True/\rE ((wrap i64 (v0.1+1)):Int)/\True)/\(mE x6.2.A0 True (((Els.Nil (Els.recs RK.apiEntry x6.2.B3)\/rE (4:Nat))/\rE x6.2.B3)/\rE x6.2.B5/\rE x6.2.A7/\True))/\rE x6.2.A0.Mem/\(mE zM True (True/\rE (0:Int)/\rE (0:Int)/\True))/\rE ((v0.2.2++x6.1):List (RK.T RK.apiOutput))/\True) (Sum.inr (Sum.inl (wrap i64 (v0.1+1),x6.2,v0.2.2++x6.1)))))))) T3)); .br E6 (.cn E5 (.br (decide (E4.At<v1.A0.A2)) (.lf (Sum.inr (Sum.inr (v1,v0.2.2)))) T2)) T2)) (.an (Q41 v1.A0) (.lv (Q0g v1.A0) λ(x11:Bool)=> .br (!false==x11) (.lf (Sum.inr (Sum.inr (v1,v0.2.2)))) T3)))); .br E8 (.cn E5 (.br E6 (.cn E5 (.br (E4.B6.B7 !=1) (.cn E5 (.an (Qbm v1 E4.B6) (.lv (Qeh v1 E4.B6) λ(x3:Bool×Q01)=> .cn (bS 4 4&&bT 0 4&&decide ((0:Int)<=(1:Int)/\1<=(x3.2.B3.length:Int)/\(x3.2.B3.length:Int)<=(x3.2.B3.length:Int))) (.nx ((rE (steps:Int)/\rZ/\rZ/\True/\rE v0.1/\rZ/\(rE (0:Nat)/\rE (46:Nat))/\rE v0.2.1.A0.A2/\(rE (0:Nat)/\rE (50:Nat))/\rE v0.2.1.B5/\rE ((decide (v0.2.1.A0.A2<v0.2.1.B5)):Bool)/\True)/\(mE x3.2.A0 True (((Els.Nil (Els.take (Els.drop (Els.recs RK.apiEntry x3.2.B3) (cZ 1)) (cZ (↑(Els.len (Els.recs RK.apiEntry x3.2.B3)):Int)-cZ 1))\/rE (4:Nat))/\rE ((cY (cZ (x3.2.B3.length:Int)-cZ 1) (dA (cZ 1) x3.2.B3)):List (RK.T RK.apiEntry)))/\rE x3.2.B5/\rE x3.2.A7/\True))/\rE x3.2.A0.Mem/\(mE zM True (True/\rE (0:Int)/\rE (0:Int)/\True))/\rE v0.2.2/\True) (Sum.inl {A0:=x3.2.A0,B3:=cY (cZ (x3.2.B3.length:Int)-cZ 1) (dA (cZ 1) x3.2.B3),B5:=x3.2.B5,A7:=x3.2.A7}))))) T1)) T1)) T1) (.lf (Sum.inr (v0.2.1,v0.2.2)))) (.lf (Sum.inr (v0.2.1,v0.2.2)))))
def Qad p steps:=(Q7f p steps).m
abbrev Q57 p steps:=(Q7f p steps).p
def Z39:LInv:={
 α:=(Int)×Q01×(List Q03)
 F:=λst a=>([(1,(lk st 1)),(2, .ptr 0 0 0),(4, .ptr 2 0 0),(6, .all 3),(7, .int i64 a.1)],[⟨true,106,52, .gen [[.int u32 a.2.1.A0.B2.X.a0, .int u32 a.2.1.A0.B2.X.a1, .int u32 a.2.1.A0.B2.X.a2, .int u32 a.2.1.A0.B2.X.a3, .int u32 a.2.1.A0.B2.X.a4, .int u32 a.2.1.A0.B2.X.a5, .int u32 a.2.1.A0.B2.X.a6, .int u32 a.2.1.A0.B2.X.a7, .int u32 a.2.1.A0.B2.X.a8, .int u32 a.2.1.A0.B2.X.a9, .int u32 a.2.1.A0.B2.X.a10, .int u32 a.2.1.A0.B2.X.a11, .int u32 a.2.1.A0.B2.X.a12, .int u32 a.2.1.A0.B2.X.a13, .int u32 a.2.1.A0.B2.X.a14, .int u32 a.2.1.A0.B2.X.a15, .int u32 a.2.1.A0.B2.Pc, .int u32 a.2.1.A0.B2.B8.a0, .int u32 a.2.1.A0.B2.B8.a1, .int u32 a.2.1.A0.B2.B8.a2, .int u32 a.2.1.A0.B2.B8.a3, .int u32 a.2.1.A0.B2.B8.a4, .int u32 a.2.1.A0.B2.B8.a5, .int u32 a.2.1.A0.B2.B8.a6, .int u32 a.2.1.A0.B2.B8.a7, .all 1, .str a.2.1.A0.A3.D2, .bool a.2.1.A0.B0.D4, .int u32 a.2.1.A0.B0.C8, .bool a.2.1.A0.B0.D3, .int u32 a.2.1.A0.B1.Blocks, .int u32 a.2.1.A0.B1.C3, .int u32 a.2.1.A0.B1.Frame, .int i64 a.2.1.A0.B1.C4, .int i64 a.2.1.A0.B1.D8, .int u32 a.2.1.A0.B1.B9, .int u32 a.2.1.A0.B1.B4, .str a.2.1.A0.B1.C6, .int u32 a.2.1.A0.C2.Frame, .int u32 a.2.1.A0.C2.E0, .bool a.2.1.A0.C2.C7, .int u32 a.2.1.A0.C2.C1, .bool a.2.1.A0.C2.C0, .int u32 a.2.1.A0.C2.F1, .int u32 a.2.1.A0.A1.C9, .int u32 a.2.1.A0.A1.C5, .int u64 a.2.1.A0.A2, .bool a.2.1.A0.A4, .bool a.2.1.A0.A6, .sl 4 (.recs RK.apiEntry a.2.1.B3) false, .int u64 a.2.1.B5, .int u32 a.2.1.A7]]⟩,⟨false,25,1, .ints u32 a.2.1.A0.Mem⟩,⟨true,106,52, .gen [[(cT st 4 0),(cT st 4 1),(cT st 4 2),(cT st 4 3),(cT st 4 4),(cT st 4 5),(cT st 4 6),(cT st 4 7),(cT st 4 8),(cT st 4 9),(cT st 4 10),(cT st 4 11),(cT st 4 12),(cT st 4 13),(cT st 4 14),(cT st 4 15),(cT st 4 16),(cT st 4 17),(cT st 4 18),(cT st 4 19),(cT st 4 20),(cT st 4 21),(cT st 4 22),(cT st 4 23),(cT st 4 24),(cT st 4 25),(cT st 4 26),(cT st 4 27),(cT st 4 28),(cT st 4 29),(cT st 4 30),(cT st 4 31),(cT st 4 32),(cT st 4 33),(cT st 4 34),(cT st 4 35),(cT st 4 36),(cT st 4 37),(cT st 4 38),(cT st 4 39),(cT st 4 40),(cT st 4 41),(cT st 4 42),(cT st 4 43),(cT st 4 44),(cT st 4 45),(cT st 4 46),(cT st 4 47),(cT st 4 48),(cT st 4 49),(cT st 4 50),(cT st 4 51)]]⟩,⟨false,71,4, .recs RK.apiOutput a.2.2⟩])
 a0:=λst=>((lk st 7).toInt,(⟨(mR (cT st 2) (Q3u st.rows (Q0p (cT st 2 25) 1000000))),(slR RK.apiEntry (cT st 2 49)),(cT st 2 50).toInt,(cT st 2 51).toInt⟩:Q01),(Q5 RK.apiOutput st.rows (rN st 6)))
 ex0:=λst=>[]++[(rX st 2 0),(Q0p (cT st 2 25) (st.rows.length+1)),(rX st 4 2),(rX st 6 3)]}
def Z42:LInv:={
 α:=Q01
 F:=λst a=>([(1,(lk st 1)),(2, .ptr 0 0 0),(4, .ptr 2 0 0),(6, .all 3),(7,(lk st 7)),(22, .ptr 0 0 0),(23, .ptr 0 0 46),(24,(lk st 24)),(25, .ptr 0 0 50),(26,(lk st 26)),(27,(lk st 27))],[⟨true,106,52, .gen [[.int u32 a.A0.B2.X.a0, .int u32 a.A0.B2.X.a1, .int u32 a.A0.B2.X.a2, .int u32 a.A0.B2.X.a3, .int u32 a.A0.B2.X.a4, .int u32 a.A0.B2.X.a5, .int u32 a.A0.B2.X.a6, .int u32 a.A0.B2.X.a7, .int u32 a.A0.B2.X.a8, .int u32 a.A0.B2.X.a9, .int u32 a.A0.B2.X.a10, .int u32 a.A0.B2.X.a11, .int u32 a.A0.B2.X.a12, .int u32 a.A0.B2.X.a13, .int u32 a.A0.B2.X.a14, .int u32 a.A0.B2.X.a15, .int u32 a.A0.B2.Pc, .int u32 a.A0.B2.B8.a0, .int u32 a.A0.B2.B8.a1, .int u32 a.A0.B2.B8.a2, .int u32 a.A0.B2.B8.a3, .int u32 a.A0.B2.B8.a4, .int u32 a.A0.B2.B8.a5, .int u32 a.A0.B2.B8.a6, .int u32 a.A0.B2.B8.a7, .all 1, .str a.A0.A3.D2, .bool a.A0.B0.D4, .int u32 a.A0.B0.C8, .bool a.A0.B0.D3, .int u32 a.A0.B1.Blocks, .int u32 a.A0.B1.C3, .int u32 a.A0.B1.Frame, .int i64 a.A0.B1.C4, .int i64 a.A0.B1.D8, .int u32 a.A0.B1.B9, .int u32 a.A0.B1.B4, .str a.A0.B1.C6, .int u32 a.A0.C2.Frame, .int u32 a.A0.C2.E0, .bool a.A0.C2.C7, .int u32 a.A0.C2.C1, .bool a.A0.C2.C0, .int u32 a.A0.C2.F1, .int u32 a.A0.A1.C9, .int u32 a.A0.A1.C5, .int u64 a.A0.A2, .bool a.A0.A4, .bool a.A0.A6, .sl 4 (.recs RK.apiEntry a.B3) false, .int u64 a.B5, .int u32 a.A7]]⟩,⟨false,25,1, .ints u32 a.A0.Mem⟩,⟨true,106,52, .gen [[(cT st 4 0),(cT st 4 1),(cT st 4 2),(cT st 4 3),(cT st 4 4),(cT st 4 5),(cT st 4 6),(cT st 4 7),(cT st 4 8),(cT st 4 9),(cT st 4 10),(cT st 4 11),(cT st 4 12),(cT st 4 13),(cT st 4 14),(cT st 4 15),(cT st 4 16),(cT st 4 17),(cT st 4 18),(cT st 4 19),(cT st 4 20),(cT st 4 21),(cT st 4 22),(cT st 4 23),(cT st 4 24),(cT st 4 25),(cT st 4 26),(cT st 4 27),(cT st 4 28),(cT st 4 29),(cT st 4 30),(cT st 4 31),(cT st 4 32),(cT st 4 33),(cT st 4 34),(cT st 4 35),(cT st 4 36),(cT st 4 37),(cT st 4 38),(cT st 4 39),(cT st 4 40),(cT st 4 41),(cT st 4 42),(cT st 4 43),(cT st 4 44),(cT st 4 45),(cT st 4 46),(cT st 4 47),(cT st 4 48),(cT st 4 49),(cT st 4 50),(cT st 4 51)]]⟩,⟨false,71,4,esOf st.rows (rN st 6)⟩])
 a0:=λst=>(⟨(mR (cT st 2) (Q3u st.rows (Q0p (cT st 2 25) 1000000))),(slR RK.apiEntry (cT st 2 49)),(cT st 2 50).toInt,(cT st 2 51).toInt⟩:Q01)
 ex0:=λst=>[]++[(rX st 2 0),(Q0p (cT st 2 25) (st.rows.length+1)),(rX st 4 2),(rX st 6 3)]}
def Qxe:List (Nat×LInv):=[(6,Z39),(8,Z42)]
def Z7n:Q0f:=mT 69 [] false [.agg Q01.sig, .one (.int .i64)] [] (λa r=>Q7f (Q01.of (aC a 0)) (argI a 1)) (λX=> .tup [.agg (Q01.cellsW (X.1) (.all 0) (.sl 4 (.recs .apiEntry X.1.B3) false)), .all 1]) (λX=>[⟨false,25,1, .ints .u32 (X.1).A0.Mem⟩,⟨false,71,4, .recs .apiOutput (X.2)⟩])
theorem Z75:Q06 pG Z7n:=oT (.cons Qnv (.cons Qjo (.cons Qox (.cons Qp8 (.cons Qoc (.cons Qlh (.cons Qy1 (.nil)))))))) Tryz.func69 Tryz.call69 [.row 25 1 (.ints .u32), .sl (.recs .apiEntry) false, .row 71 4 (.recs .apiOutput)] Qxe 3 (hff:=nofun)
def Q9r(p:Q01)(z:(Int)×Q01):Nat:=(p.B3.length-z.1).toNat
def Qcv(p:Q01):Tree (Q02×Bool):=
.an (Qgo p) (.lv (Qsa p) λ(x0:Q01)=> .lv (Q25 x0.A0) λ(x1:Bool)=>let T1:Tree ((Q02×Bool)):= .lf ({A0:={B2:={X:={a0:=0,a1:=0,a2:=0,a3:=0,a4:=0,a5:=0,a6:=0,a7:=0,a8:=0,a9:=0,a10:=0,a11:=0,a12:=0,a13:=0,a14:=0,a15:=0},Pc:=0,B8:={a0:=0,a1:=0,a2:=0,a3:=0,a4:=0,a5:=0,a6:=0,a7:=0}},Mem:=[],A3:={D2:=[]},B0:={D4:=false,C8:=0,D3:=false},B1:={Blocks:=0,C3:=0,Frame:=0,C4:=0,D8:=0,B9:=0,B4:=0,C6:=[]},C2:={Frame:=0,E0:=0,C7:=false,C1:=0,C0:=false,F1:=0},A1:={C9:=0,C5:=0},A2:=0,A4:=false,A6:=false},A7:=0,B3:=[],A9:=[]},false); .br (!x1) T1 (.br (x0.A0.A2 !=x0.B5) T1 (.lp inferInstance (Q9r p (0,x0)+1) ((rZ/\rZ/\rE (0:Int)/\True)/\(mE x0.A0 True (((Els.Nil (Els.recs RK.apiEntry x0.B3)\/rE (4:Nat))/\rE x0.B3)/\rE x0.B5/\rE x0.A7/\True))/\rE x0.A0.Mem/\(mE zM True (rE (0:Int)/\True/\True/\True))/\True) (0,x0) λ(v0:Int×Q01)=> .br (decide (v0.1<(v0.2.B3.length:Int))) (.cn (bS 4 4&&bT 0 4&&decide (0<=v0.1/\v0.1<(v0.2.B3.length:Int))) (let E2:=v0.2.B3.getD v0.1.toNat (RK.dflt RK.apiEntry); .an (Qbm v0.2 E2.B6) (.lv (Qeh v0.2 E2.B6) λ(x2:Bool×Q01)=> .nx ((rZ/\rZ/\rE ((wrap i64 (v0.1+1)):Int)/\True)/\(mE x2.2.A0 True (((Els.Nil (Els.recs RK.apiEntry x2.2.B3)\/rE (4:Nat))/\rE x2.2.B3)/\rE x2.2.B5/\rE x2.2.A7/\True))/\rE x2.2.A0.Mem/\(mE zM True (rE (0:Int)/\True/\True/\True))/\True) (Sum.inl (wrap i64 (v0.1+1),x2.2))))) (.lf (Sum.inr ({A0:=v0.2.A0,A7:=v0.2.A7,B3:=[],A9:=[]},true))))))
def Qla p:=(Qcv p).m
abbrev Qd1 p:=(Qcv p).p
def Z67:LInv:={
 α:=(Int)×Q01
 F:=λst a=>([(1, .ptr 0 0 0),(2, .ptr 2 0 0),(4, .int i64 a.1)],[⟨true,106,52, .gen [[.int u32 a.2.A0.B2.X.a0, .int u32 a.2.A0.B2.X.a1, .int u32 a.2.A0.B2.X.a2, .int u32 a.2.A0.B2.X.a3, .int u32 a.2.A0.B2.X.a4, .int u32 a.2.A0.B2.X.a5, .int u32 a.2.A0.B2.X.a6, .int u32 a.2.A0.B2.X.a7, .int u32 a.2.A0.B2.X.a8, .int u32 a.2.A0.B2.X.a9, .int u32 a.2.A0.B2.X.a10, .int u32 a.2.A0.B2.X.a11, .int u32 a.2.A0.B2.X.a12, .int u32 a.2.A0.B2.X.a13, .int u32 a.2.A0.B2.X.a14, .int u32 a.2.A0.B2.X.a15, .int u32 a.2.A0.B2.Pc, .int u32 a.2.A0.B2.B8.a0, .int u32 a.2.A0.B2.B8.a1, .int u32 a.2.A0.B2.B8.a2, .int u32 a.2.A0.B2.B8.a3, .int u32 a.2.A0.B2.B8.a4, .int u32 a.2.A0.B2.B8.a5, .int u32 a.2.A0.B2.B8.a6, .int u32 a.2.A0.B2.B8.a7, .all 1, .str a.2.A0.A3.D2, .bool a.2.A0.B0.D4, .int u32 a.2.A0.B0.C8, .bool a.2.A0.B0.D3, .int u32 a.2.A0.B1.Blocks, .int u32 a.2.A0.B1.C3, .int u32 a.2.A0.B1.Frame, .int i64 a.2.A0.B1.C4, .int i64 a.2.A0.B1.D8, .int u32 a.2.A0.B1.B9, .int u32 a.2.A0.B1.B4, .str a.2.A0.B1.C6, .int u32 a.2.A0.C2.Frame, .int u32 a.2.A0.C2.E0, .bool a.2.A0.C2.C7, .int u32 a.2.A0.C2.C1, .bool a.2.A0.C2.C0, .int u32 a.2.A0.C2.F1, .int u32 a.2.A0.A1.C9, .int u32 a.2.A0.A1.C5, .int u64 a.2.A0.A2, .bool a.2.A0.A4, .bool a.2.A0.A6, .sl 4 (.recs RK.apiEntry a.2.B3) false, .int u64 a.2.B5, .int u32 a.2.A7]]⟩,⟨false,25,1, .ints u32 a.2.A0.Mem⟩,⟨true,96,52, .gen [[(cT st 2 0),(cT st 2 1),(cT st 2 2),(cT st 2 3),(cT st 2 4),(cT st 2 5),(cT st 2 6),(cT st 2 7),(cT st 2 8),(cT st 2 9),(cT st 2 10),(cT st 2 11),(cT st 2 12),(cT st 2 13),(cT st 2 14),(cT st 2 15),(cT st 2 16),(cT st 2 17),(cT st 2 18),(cT st 2 19),(cT st 2 20),(cT st 2 21),(cT st 2 22),(cT st 2 23),(cT st 2 24),(cT st 2 25),(cT st 2 26),(cT st 2 27),(cT st 2 28),(cT st 2 29),(cT st 2 30),(cT st 2 31),(cT st 2 32),(cT st 2 33),(cT st 2 34),(cT st 2 35),(cT st 2 36),(cT st 2 37),(cT st 2 38),(cT st 2 39),(cT st 2 40),(cT st 2 41),(cT st 2 42),(cT st 2 43),(cT st 2 44),(cT st 2 45),(cT st 2 46),(cT st 2 47),(cT st 2 48),(cT st 2 49),(cT st 2 50),(cT st 2 51)]]⟩])
 a0:=λst=>((lk st 4).toInt,(⟨(mR (cT st 1) (Q3u st.rows (Q0p (cT st 1 25) 1000000))),(slR RK.apiEntry (cT st 1 49)),(cT st 1 50).toInt,(cT st 1 51).toInt⟩:Q01))
 ex0:=λst=>[]++[(rX st 1 0),(Q0p (cT st 1 25) (st.rows.length+1)),(rX st 2 2)]}
def Qyq:List (Nat×LInv):=[(5,Z67)]
def Z87:Q0f:=mT 72 [] true [.agg Q01.sig] [] (λa r=>Qcv (Q01.of (aC a 0))) (λX=> .tup [.agg (Q02.cellsW (X.1) (.all 0) (.sl 4 (.recs .apiEntry X.1.B3) true) (.sl 3 (.recs .apiEvent X.1.A9) true)), .bool (X.2)]) (λX=>[⟨false,25,1, .ints .u32 (X.1).A0.Mem⟩])
theorem Z6h:Q06 pG Z87:=oT (.cons Qnv (.cons Qjo (.cons Qp8 (.nil)))) Tryz.func72 Tryz.call72 [.row 25 1 (.ints .u32), .sl (.recs .apiEntry) true, .sl (.recs .apiEvent) true] Qyq 3
end
noncomputable section
def Qcg(l:List Q0a)(how at0:Int):Tree (List Q0a):=
.br ((l.length:Int)==(0:Int)) (.lf l) (.cn (decide (40*(0+l.length)<=140737488355328)) (.an (Q2z at0 (l.length:Int)) (.lv (Q3q at0 (l.length:Int)) λ(x0:Int)=> .an (Q2z how 6) (.lv (Q3q how 6) λ(x1:Int)=>let E1:=bS 4 4&&bT 0 4&&decide (0<=x0/\x0<(l.length:Int));let E2:=l.getD x0.toNat (RK.dflt RK.apiEntry); .br (x1==0) (.cn E1 (.cn E1 (.lf (List.set l x0.toNat {At:=wrap u64 (E2.At+1),B6:=E2.B6})))) (.br (x1==1) (.cn (bS 4 4&&bT 0 4&&decide ((0:Int)<=(0:Int)/\0<=x0/\x0<=(l.length:Int))) (.cn (bS 4 4&&bT 0 4&&decide (0<=wrap i64 (x0+1)/\wrap i64 (x0+1)<=(l.length:Int)/\(l.length:Int)<=(l.length:Int))) (let E3:=cZ (l.length:Int)-cZ (wrap i64 (x0+1));let E5:=dA (cZ (wrap i64 (x0+1))) l; .cn (decide (40*(dF (cY (cZ x0-cZ 0) l)+dF (cY E3 E5))<=140737488355328)) (.lf (cY (cZ x0-cZ 0) l++cY E3 E5))))) (.br (x1==2) (.cn (bS 4 4&&bT 0 4&&decide ((0:Int)<=(0:Int)/\0<=wrap i64 (x0+1)/\wrap i64 (x0+1)<=(l.length:Int))) (.cn (bS 4 4&&bT 0 4&&decide (0<=x0/\x0<=(l.length:Int)/\(l.length:Int)<=(l.length:Int))) (let E4:=cZ (l.length:Int)-cZ x0;let E6:=cZ (wrap i64 (x0+1))-cZ 0; .cn (decide (40*(dF (cY E6 l)+dF (cY E4 (dA x0.toNat l)))<=140737488355328)) (.lf (cY E6 l++cY E4 (dA x0.toNat l)))))) (.br (x1==3) (.an (Qmb at0) (.lv (Qfm at0) λ(x2:Q0b)=> .cn E1 (.lf (List.set l x0.toNat {At:=E2.At,B6:=x2})))) (.lf l))))))))
def Z0c l how at0:=(Qcg l how at0).m
abbrev Qp4 l how at0:=(Qcg l how at0).p
def Z7a:Q0f:=mT 62 [] false [.one (.recs .apiEntry), .one (.int .i64), .one (.int .i64)] [] (λa r=>Qcg (argR .apiEntry a 0) (argI a 1) (argI a 2)) (λX=> .sl 4 (.recs .apiEntry X) false) (λX=>[])
theorem Z3u:Q06 pG Z7a:=oT (.cons Qia (.cons Qv9 (.nil))) Tryz.func62 Tryz.call62 [.sl (.recs .apiEntry) false] [] 2 (hff:=nofun)
end
noncomputable section
def Qcl(m:Q00):Tree Q01:=
.an (Q5y {A0:=m,B3:=[],B5:=m.A2,A7:=0}) (.lv (Qez {A0:=m,B3:=[],B5:=m.A2,A7:=0}) λ(x0:Q01)=> .lf x0)
def Qlo m:=(Qcl m).m
abbrev Qcy m:=(Qcl m).p
def Z8r:Q0f:=mT 74 [] false [.agg Q00.sig] [] (λa r=>Qcl (Q00.of (aC a 0))) (λX=> .agg (Q01.cells X)) (λX=>[])
theorem Z4v:Q06 pG Z8r:=oT (.cons Q8z (.nil)) Tryz.func74 Tryz.call74 [.sl (.ints .u32) false, .sl (.recs .apiEntry) false] [] 2 (hff:=nofun)
def Qnh(l:List Q0a)(z:(Int)):Nat:=(l.length-z).toNat
def Qff(l:List Q0a):Tree Bool:=
.lp inferInstance (Qnh l 0+1) ((nR RK.apiEntry 4 l/\rE (0:Int)/\True)/\True) 0 λ(v0:Int)=>let E1:=decide ((l.length:Int)<=(60:Int)); .br (decide (v0<(l.length:Int))) (.br (decide (v0<70)) (.cn (bS 4 4&&bT 0 4&&decide (0<=v0/\v0<(l.length:Int))) (.br (decide ((↑(dF (l.getD v0.toNat (RK.dflt RK.apiEntry)).B6.D0):Int)>(300:Int))) (.lf (Sum.inr false)) (.nx ((nR RK.apiEntry 4 l/\rE ((wrap i64 (v0+1)):Int)/\True)/\True) (Sum.inl (wrap i64 (v0+1)))))) (.lf (Sum.inr E1))) (.lf (Sum.inr E1))
def Qu3 l:=(Qff l).m
abbrev Qjm l:=(Qff l).p
def Z7z:LInv:={
 α:=(Int)
 F:=λst a=>([(0,(lk st 0)),(3, .int i64 a)],[])
 a0:=λst=>(lk st 3).toInt
 ex0:=λst=>[]++[]}
def Z1x:List (Nat×LInv):=[(2,Z7z)]
def Zdo:Q0f:=mT 59 [] true [.one (.recs .apiEntry)] [] (λa r=>Qff (argR .apiEntry a 0)) (λX=> .bool X) (λX=>[])
theorem Z7t:Q06 pG Zdo:=oT (.nil) Tryz.func59 Tryz.call59 [] Z1x 3
def Q8h(kind:Int)(l acts:List Int)(how at0:Int)(p:Q01)(raw:Bool)(s:List Q0a)(known steps more:Int):Tree Bool:=
.lv (Qvv l acts) λ(x0:Bool)=> .br (!x0) (.an Q1s (.lv Q35 λ(x1:Bool)=> .lf x1)) (.an (Qjm s) (.lv (Qu3 s) λ(x2:Bool)=> .br (!x2) (.an Q1s (.lv Q35 λ(x3:Bool)=> .lf x3)) (.an (Qjm p.B3) (.lv (Qu3 p.B3) λ(x4:Bool)=> .br (!x4) (.an Q1s (.lv Q35 λ(x5:Bool)=> .lf x5)) (.br (decide ((p.A0.Mem.length:Int)>(300:Int))) (.an Q1s (.lv Q35 λ(x6:Bool)=> .lf x6)) (.br (decide ((p.A0.A3.D2.length:Int)>(40:Int))) (.an Q1s (.lv Q35 λ(x7:Bool)=> .lf x7)) (.br (decide (steps>100)) (.an Q1s (.lv Q35 λ(x8:Bool)=> .lf x8)) (.br (decide (more>100)) (.an Q1s (.lv Q35 λ(x9:Bool)=> .lf x9)) (.br (!raw) (.an (Qow kind l) (.lv (Z0n kind l) λ(x10:Q00)=> .an (Qvm x10 acts) (.lv (Z5q x10 acts) λ(x11:Q02×List Q03)=> .an (Q4m x10) (.lv (Q85 x10) λ(x12:Q01)=> .an (Qp4 x11.1.B3 how at0) (.lv (Z0c x11.1.B3 how at0) λ(x13:List Q0a)=>let E1:=wrap u64 (x11.1.A0.A2+Int.tmod known 3); .an (Q7z x12 x13 E1) (.lv (Qjf x12 x13 E1) λ(x14:Q01×Bool)=> .an (Qgd x12 x13 E1) (.lv (Qry x12 x13 E1) λ(x15:Q01×Bool)=> .an (Q12 x14.1 x15.1) (.lv (Q1k x14.1 x15.1) λ(x16:Bool)=> .br (!x16) (.lf false) (.br (!x14.2==x15.2) (.lf false) (.lv (Qdx x15.1) λ(x17:Int)=> .lv (Qmp x15.1) λ(x18:Int)=> .br (x17 !=x18) (.lf false) (.an (Q2d x15.1 steps) (.lv (Q5r x15.1 steps) λ(x19:Q01×List Q03)=> .an (Q57 x15.1 steps) (.lv (Qad x15.1 steps) λ(x20:Q01×List Q03)=> .an (Q12 x19.1 x20.1) (.lv (Q1k x19.1 x20.1) λ(x21:Bool)=> .br (!x21) (.lf false) (.an (Q20 x19.2 x20.2) (.lv (Q30 x19.2 x20.2) λ(x22:Bool)=> .br (!x22) (.lf false) (.an (Q2d x20.1 more) (.lv (Q5r x20.1 more) λ(x23:Q01×List Q03)=> .an (Q57 x20.1 more) (.lv (Qad x20.1 more) λ(x24:Q01×List Q03)=> .an (Q12 x23.1 x24.1) (.lv (Q1k x23.1 x24.1) λ(x25:Bool)=> .br (!x25) (.lf false) (.an (Q20 x23.2 x24.2) (.lv (Q30 x23.2 x24.2) λ(x26:Bool)=> .br (!x26) (.lf false) (.an (Q44 x24.1) (.lv (Qaw x24.1) λ(x27:Q02×Bool)=> .an (Qd1 x24.1) (.lv (Qla x24.1) λ(x28:Q02×Bool)=> .an (Q6h x27.1 x28.1) (.lv (Q9t x27.1 x28.1) λ(x29:Bool)=> .br x29 (.br (x27.2==x28.2) (.an (Qcy x12.A0) (.lv (Qlo x12.A0) λ(x30:Q01)=> .an (Q4m x12.A0) (.lv (Q85 x12.A0) λ(x31:Q01)=> .an (Q12 x30 x31) (.lv (Q1k x30 x31) λ(x32:Bool)=> .br x32 (.an Q1s (.lv Q35 λ(x33:Bool)=> .lf x33)) (.lf false))))) (.lf false)) (.lf false))))))))))))))))))))))))))) (.an (Q7z p s known) (.lv (Qjf p s known) λ(x34:Q01×Bool)=> .an (Qgd p s known) (.lv (Qry p s known) λ(x35:Q01×Bool)=> .an (Q12 x34.1 x35.1) (.lv (Q1k x34.1 x35.1) λ(x36:Bool)=> .br (!x36) (.lf false) (.br (!x34.2==x35.2) (.lf false) (.lv (Qdx x35.1) λ(x37:Int)=> .lv (Qmp x35.1) λ(x38:Int)=> .br (x37 !=x38) (.lf false) (.an (Q2d x35.1 steps) (.lv (Q5r x35.1 steps) λ(x39:Q01×List Q03)=> .an (Q57 x35.1 steps) (.lv (Qad x35.1 steps) λ(x40:Q01×List Q03)=> .an (Q12 x39.1 x40.1) (.lv (Q1k x39.1 x40.1) λ(x41:Bool)=> .br (!x41) (.lf false) (.an (Q20 x39.2 x40.2) (.lv (Q30 x39.2 x40.2) λ(x42:Bool)=> .br (!x42) (.lf false) (.an (Q2d x40.1 more) (.lv (Q5r x40.1 more) λ(x43:Q01×List Q03)=> .an (Q57 x40.1 more) (.lv (Qad x40.1 more) λ(x44:Q01×List Q03)=> .an (Q12 x43.1 x44.1) (.lv (Q1k x43.1 x44.1) λ(x45:Bool)=> .br (!x45) (.lf false) (.an (Q20 x43.2 x44.2) (.lv (Q30 x43.2 x44.2) λ(x46:Bool)=> .br (!x46) (.lf false) (.an (Q44 x44.1) (.lv (Qaw x44.1) λ(x47:Q02×Bool)=> .an (Qd1 x44.1) (.lv (Qla x44.1) λ(x48:Q02×Bool)=> .an (Q6h x47.1 x48.1) (.lv (Q9t x47.1 x48.1) λ(x49:Bool)=> .br x49 (.br (x47.2==x48.2) (.an (Qcy p.A0) (.lv (Qlo p.A0) λ(x50:Q01)=> .an (Q4m p.A0) (.lv (Q85 p.A0) λ(x51:Q01)=> .an (Q12 x50 x51) (.lv (Q1k x50 x51) λ(x52:Bool)=> .br x52 (.an Q1s (.lv Q35 λ(x53:Bool)=> .lf x53)) (.lf false))))) (.lf false)) (.lf false))))))))))))))))))))))))))))))))
def Qg0 kind l acts how at0 p raw s known steps more:=(Q8h kind l acts how at0 p raw s known steps more).m
abbrev Qh5 kind l acts how at0 p raw s known steps more:=(Q8h kind l acts how at0 p raw s known steps more).p
def Qun:Q0f:=mT 8 [] true [.one (.int .i64), .one (.ints .i64), .one (.ints .i64), .one (.int .i64), .one (.int .i64), .agg Q01.sig, .one (.bool), .one (.recs .apiEntry), .one (.int .u64), .one (.int .i64), .one (.int .i64)] [] (λa r=>Q8h (argI a 0) (argL .i64 a 1) (argL .i64 a 2) (argI a 3) (argI a 4) (Q01.of (aC a 5)) (argB a 6) (argR .apiEntry a 7) (argI a 8) (argI a 9) (argI a 10)) (λX=> .bool X) (λX=>[])
theorem Qsw:Q06 pG Qun:=oT (.cons Zn6 (.cons Z7t (.cons Z7k (.cons Z2p (.cons Zja (.cons Qsx (.cons Z3u (.cons Qtp (.cons Zeh (.cons Qq8 (.cons Qx6 (.cons Zg (.cons Qna (.cons Z75 (.cons Qub (.cons Qos (.cons Z6h (.cons Qqa (.cons Z4v (.nil)))))))))))))))))))) Tryz.func8 Tryz.call8 [] [] 2

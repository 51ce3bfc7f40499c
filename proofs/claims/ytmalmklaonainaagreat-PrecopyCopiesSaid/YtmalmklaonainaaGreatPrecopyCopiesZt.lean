/-
  A part of the proof.
-/
import Derived.Test.YtmalmklaonainaaGreatPrecopyCopiesBase
import Derived.Test.YtmalmklaonainaaGreatPrecopyCopiesZd
import Derived.Test.YtmalmklaonainaaGreatPrecopyCopiesYe
import Derived.Test.YtmalmklaonainaaGreatPrecopyCopiesZa
import Derived.Test.YtmalmklaonainaaGreatPrecopyCopiesZg
import Derived.Test.YtmalmklaonainaaGreatPrecopyCopiesZc
import Derived.Test.YtmalmklaonainaaGreatPrecopyCopiesYa
import Derived.Test.YtmalmklaonainaaGreatPrecopyCopiesYd
import Derived.Test.YtmalmklaonainaaGreatPrecopyCopiesYc
set_option maxRecDepth 100000
set_option linter.unusedVariables false
set_option linter.unusedSimpArgs false
namespace Go.Proofs.YtmalmklaonainaaGreat
open Go Go.GD Go.IntKind
noncomputable section
instance sumInhZi {α β:Type} [Inhabited β]:Inhabited (α⊕β):=⟨.inr default⟩
def Qm8(src:(List UInt8))(z:(Int)×(List Int)):Nat:=((Qyg src).2.1.length-z.1).toNat
def Qmh(src:(List UInt8))(v0:Int×List Int)(z:(Int)×(List Int)):Nat:=(1024-z.1).toNat
def Q5a(src:(List UInt8)):Tree ((List Int)×Q0t):=
.an (Qgw src) (.lv (Qyg src) λ(x0:List Q1b×List Q06×Q0t)=> .br (x0.2.2.Err !=0) (.lf ([],x0.2.2)) (.lp inferInstance (Qm8 src (0,[])+1) ((True∧(rE (0:Nat)∧rE (0:Nat))∧True∧True∧True∧rE (0:Int)∧True)∧(rE (0:Int)∧rE (0:Int)∧True)∧rE x0.1∧rE x0.2.1∧rE ([]:List Int)∧True) (0,[]) λ(v0:Int×List Int)=> .br (decide (v0.1<(x0.2.1.length:Int))) (.cn (Nat.beq 6 6&&Nat.blt 0 6&&decide (0≤v0.1∧v0.1<(x0.2.1.length:Int))) (let E4:=x0.2.1.getD v0.1.toNat (RK.dflt RK.vmfleetref1Statement);let T1:Tree ((Int×List Int)⊕(((List Int)×Q0t))):= .lp inferInstance (Qmh src v0 (0,v0.2)+1) ((True∧(rE (0:Nat)∧rE (0:Nat))∧True∧True∧True∧rE v0.1∧(rE (0:Nat)∧rE (0:Nat))∧rE (0:Int)∧True)∧(rE (0:Int)∧rE (0:Int)∧True)∧rE x0.1∧rE x0.2.1∧(rE ((x0.2.1.getD v0.1.toNat (RK.dflt RK.vmfleetref1Statement)).what:List UInt8)∧rE ((x0.2.1.getD v0.1.toNat (RK.dflt RK.vmfleetref1Statement)).op:Int)∧((Els.Nil (D.toEs (List.getD (Els.get (Els.recs RK.vmfleetref1Statement x0.2.1) v0.1.toNat) ((0:Nat)+(1:Nat)+(1:Nat)) D.dead))∨rE (3:Nat))∧rE ((x0.2.1.getD v0.1.toNat (RK.dflt RK.vmfleetref1Statement)).l:List (RK.T RK.vmfleetref1Arg)))∧rE ((x0.2.1.getD v0.1.toNat (RK.dflt RK.vmfleetref1Statement)).D1:Int)∧rE ((x0.2.1.getD v0.1.toNat (RK.dflt RK.vmfleetref1Statement)).at_:Int)∧rE ((x0.2.1.getD v0.1.toNat (RK.dflt RK.vmfleetref1Statement)).size:Int)∧True)∧rE v0.2∧True) (0,v0.2) λ(v1:Int×List Int)=> .br (decide (v1.1<E4.size)) (.cn (decide (4*(v1.2.length+1)≤140737488355328)) (.nx ((True∧(rE (0:Nat)∧rE (0:Nat))∧True∧True∧True∧rE v0.1∧(rE (0:Nat)∧rE (0:Nat))∧rE ((wrap i64 (v1.1+1)):Int)∧True)∧(rE (0:Int)∧rE (0:Int)∧True)∧rE x0.1∧rE x0.2.1∧(rE ((x0.2.1.getD v0.1.toNat (RK.dflt RK.vmfleetref1Statement)).what:List UInt8)∧rE ((x0.2.1.getD v0.1.toNat (RK.dflt RK.vmfleetref1Statement)).op:Int)∧((Els.Nil (Els.recs RK.vmfleetref1Arg (x0.2.1.getD v0.1.toNat (RK.dflt RK.vmfleetref1Statement)).l)∨rE (3:Nat))∧rE ((x0.2.1.getD v0.1.toNat (RK.dflt RK.vmfleetref1Statement)).l:List (RK.T RK.vmfleetref1Arg)))∧rE ((x0.2.1.getD v0.1.toNat (RK.dflt RK.vmfleetref1Statement)).D1:Int)∧rE ((x0.2.1.getD v0.1.toNat (RK.dflt RK.vmfleetref1Statement)).at_:Int)∧rE ((x0.2.1.getD v0.1.toNat (RK.dflt RK.vmfleetref1Statement)).size:Int)∧True)∧rE ((v1.2++[0]):List Int)∧True) (Sum.inl (wrap i64 (v1.1+1),v1.2++[0])))) (.nx ((True∧(rE (0:Nat)∧rE (0:Nat))∧True∧True∧True∧rE ((wrap i64 (v0.1+1)):Int)∧True)∧(rE (0:Int)∧rE (0:Int)∧True)∧rE x0.1∧rE x0.2.1∧rE v1.2∧True) (Sum.inr (Sum.inl (wrap i64 (v0.1+1),v1.2))));let E5:=Nat.beq 3 3&&Nat.blt 0 3&&decide ((0:Int)≤(0:Int)∧0<(↑(List.length E4.l):Int));let E7:=List.getD E4.l (Int.toNat 0) (RK.dflt RK.vmfleetref1Arg);let E8:=decide (4*(v0.2.length+1)≤140737488355328);let T2:Tree ((Int×List Int)⊕(((List Int)×Q0t))):= .cn E5 (.cn (Nat.beq 3 3&&Nat.blt 0 3&&decide ((0:Int)≤(1:Int)∧1<(↑(List.length E4.l):Int))) (.lv (Q0x {Op:=16,A:=E7.reg,B:=(List.getD E4.l (Int.toNat 1) (RK.dflt RK.vmfleetref1Arg)).reg,C:=0,D3:=0}) λ(x4:Int×Bool)=> .cn E8 (.nx ((True∧(rE (0:Nat)∧rE (0:Nat))∧True∧True∧True∧rE ((wrap i64 (v0.1+1)):Int)∧True)∧(rE (0:Int)∧rE (0:Int)∧True)∧rE x0.1∧rE x0.2.1∧rE ((v0.2++[x4.1]):List Int)∧True) (Sum.inl (wrap i64 (v0.1+1),v0.2++[x4.1])))));let T3:Tree ((Int×List Int)⊕(((List Int)×Q0t))):= .lv (Q0x {Op:=16,A:=0,B:=0,C:=0,D3:=0}) λ(x5:Int×Bool)=> .cn E8 (.nx ((True∧(rE (0:Nat)∧rE (0:Nat))∧True∧True∧True∧rE ((wrap i64 (v0.1+1)):Int)∧True)∧(rE (0:Int)∧rE (0:Int)∧True)∧rE x0.1∧rE x0.2.1∧rE ((v0.2++[x5.1]):List Int)∧True) (Sum.inl (wrap i64 (v0.1+1),v0.2++[x5.1])));let E9:=decide (E4.what=[(46:UInt8),115,112,97,99,101]);let E10:=decide (E4.what=[(46:UInt8),119,111,114,100]);let E12:=decide (E4.what=[(110:UInt8),111,112]);let E13:=decide (4*(v0.2.length+2)≤140737488355328);let E14:=decide (E4.what=[(108:UInt8),105]);let E15:=decide (E4.what=[(109:UInt8),118]); .br (decide ((↑(List.length E4.l):Int)>(0:Int))) (.cn (Nat.beq 3 3&&Nat.blt 0 3&&decide (0≤wrap i64 ((↑(List.length E4.l):Int)-(1:Int))∧wrap i64 ((↑(List.length E4.l):Int)-(1:Int))<(↑(List.length E4.l):Int))) (let E6:=List.getD E4.l (Int.toNat (wrap i64 ((↑(List.length E4.l):Int)-(1:Int)))) (RK.dflt RK.vmfleetref1Arg); .br (!decide (E6.label=[])) (.an (Q20 x0.1 E6.label) (.lv (Qia x0.1 E6.label) λ(x1:Int×Bool)=> .br (!x1.2) (.lf (Sum.inr ([],{Err:=302,Line:=E4.D1}))) (.br (decide (E4.op>0)) (let E11:=wrap i64 (wrap i64 (Int.tdiv (wrap i64 x1.1) 4)-E4.at_); .br E10 (.cn E8 (.nx ((True∧(rE (0:Nat)∧rE (0:Nat))∧True∧True∧True∧rE ((wrap i64 (v0.1+1)):Int)∧True)∧(rE (0:Int)∧rE (0:Int)∧True)∧rE x0.1∧rE x0.2.1∧rE ((v0.2++[wrap u32 (wrap i64 (wrap i64 (Int.tdiv (wrap i64 x1.1) 4)-(x0.2.1.getD v0.1.toNat (RK.dflt RK.vmfleetref1Statement)).at_))]):List Int)∧True) (Sum.inl (wrap i64 (v0.1+1),v0.2++[wrap u32 E11])))) (.br E9 T1 (.br E14 (.cn E5 (.lv (Q0x {Op:=24,A:=E7.reg,B:=0,C:=0,D3:=wrap i32 (ishr u32 (wrap u32 E11) 16)}) λ(x2:Int×Bool)=> .cn E5 (.cn E5 (.lv (Q0x {Op:=18,A:=E7.reg,B:=E7.reg,C:=0,D3:=wrap i32 (iand u32 (wrap u32 E11) 65535)}) λ(x3:Int×Bool)=> .cn E13 (.nx ((True∧(rE (0:Nat)∧rE (0:Nat))∧True∧True∧True∧rE ((wrap i64 (v0.1+1)):Int)∧True)∧(rE (0:Int)∧rE (0:Int)∧True)∧rE x0.1∧rE x0.2.1∧rE ((v0.2++[x2.1,x3.1]):List Int)∧True) (Sum.inl (wrap i64 (v0.1+1),v0.2++[x2.1,x3.1]))))))) (.br E15 T2 (.br E12 T3 (.an (Q6 E4 E11) (.lv (Qjf E4 E11) λ(x6:Int×Bool)=> .br (!x6.2) (.lf (Sum.inr ([],{Err:=304,Line:=E4.D1}))) (.cn E8 (.nx ((True∧(rE (0:Nat)∧rE (0:Nat))∧True∧True∧True∧rE ((wrap i64 (v0.1+1)):Int)∧True)∧(rE (0:Int)∧rE (0:Int)∧True)∧rE x0.1∧rE x0.2.1∧rE ((v0.2++[x6.1]):List Int)∧True) (Sum.inl (wrap i64 (v0.1+1),v0.2++[x6.1]))))))))))) (.br E10 (.cn E8 (.nx ((True∧(rE (0:Nat)∧rE (0:Nat))∧True∧True∧True∧rE ((wrap i64 (v0.1+1)):Int)∧True)∧(rE (0:Int)∧rE (0:Int)∧True)∧rE x0.1∧rE x0.2.1∧rE ((v0.2++[wrap u32 (wrap i64 x1.1)]):List Int)∧True) (Sum.inl (wrap i64 (v0.1+1),v0.2++[wrap u32 (wrap i64 x1.1)])))) (.br E9 T1 (.br E14 (.cn E5 (.lv (Q0x {Op:=24,A:=E7.reg,B:=0,C:=0,D3:=wrap i32 (ishr u32 (wrap u32 (wrap i64 x1.1)) 16)}) λ(x7:Int×Bool)=> .cn E5 (.cn E5 (.lv (Q0x {Op:=18,A:=E7.reg,B:=E7.reg,C:=0,D3:=wrap i32 (iand u32 (wrap u32 (wrap i64 x1.1)) 65535)}) λ(x8:Int×Bool)=> .cn E13 (.nx ((True∧(rE (0:Nat)∧rE (0:Nat))∧True∧True∧True∧rE ((wrap i64 (v0.1+1)):Int)∧True)∧(rE (0:Int)∧rE (0:Int)∧True)∧rE x0.1∧rE x0.2.1∧rE ((v0.2++[x7.1,x8.1]):List Int)∧True) (Sum.inl (wrap i64 (v0.1+1),v0.2++[x7.1,x8.1]))))))) (.br E15 T2 (.br E12 T3 (.an (Q6 E4 (wrap i64 x1.1)) (.lv (Qjf E4 (wrap i64 x1.1)) λ(x11:Int×Bool)=> .br (!x11.2) (.lf (Sum.inr ([],{Err:=304,Line:=E4.D1}))) (.cn E8 (.nx ((True∧(rE (0:Nat)∧rE (0:Nat))∧True∧True∧True∧rE ((wrap i64 (v0.1+1)):Int)∧True)∧(rE (0:Int)∧rE (0:Int)∧True)∧rE x0.1∧rE x0.2.1∧rE ((v0.2++[x11.1]):List Int)∧True) (Sum.inl (wrap i64 (v0.1+1),v0.2++[x11.1])))))))))))))) (.br E10 (.cn E8 (.nx ((True∧(rE (0:Nat)∧rE (0:Nat))∧True∧True∧True∧rE ((wrap i64 (v0.1+1)):Int)∧True)∧(rE (0:Int)∧rE (0:Int)∧True)∧rE x0.1∧rE x0.2.1∧rE ((v0.2++[wrap u32 (List.getD (x0.2.1.getD v0.1.toNat (RK.dflt RK.vmfleetref1Statement)).l (Int.toNat (wrap i64 ((↑(List.length (x0.2.1.getD v0.1.toNat (RK.dflt RK.vmfleetref1Statement)).l):Int)-(1:Int)))) (RK.dflt RK.vmfleetref1Arg)).num]):List Int)∧True) (Sum.inl (wrap i64 (v0.1+1),v0.2++[wrap u32 E6.num])))) (.br E9 T1 (.br E14 (.cn E5 (.lv (Q0x {Op:=24,A:=E7.reg,B:=0,C:=0,D3:=wrap i32 (ishr u32 (wrap u32 E6.num) 16)}) λ(x12:Int×Bool)=> .cn E5 (.cn E5 (.lv (Q0x {Op:=18,A:=E7.reg,B:=E7.reg,C:=0,D3:=wrap i32 (iand u32 (wrap u32 E6.num) 65535)}) λ(x13:Int×Bool)=> .cn E13 (.nx ((True∧(rE (0:Nat)∧rE (0:Nat))∧True∧True∧True∧rE ((wrap i64 (v0.1+1)):Int)∧True)∧(rE (0:Int)∧rE (0:Int)∧True)∧rE x0.1∧rE x0.2.1∧rE ((v0.2++[x12.1,x13.1]):List Int)∧True) (Sum.inl (wrap i64 (v0.1+1),v0.2++[x12.1,x13.1]))))))) (.br E15 T2 (.br E12 T3 (.an (Q6 E4 E6.num) (.lv (Qjf E4 E6.num) λ(x16:Int×Bool)=> .br (!x16.2) (.lf (Sum.inr ([],{Err:=304,Line:=E4.D1}))) (.cn E8 (.nx ((True∧(rE (0:Nat)∧rE (0:Nat))∧True∧True∧True∧rE ((wrap i64 (v0.1+1)):Int)∧True)∧(rE (0:Int)∧rE (0:Int)∧True)∧rE x0.1∧rE x0.2.1∧rE ((v0.2++[x16.1]):List Int)∧True) (Sum.inl (wrap i64 (v0.1+1),v0.2++[x16.1]))))))))))))) (.br E10 (.cn E8 (.nx ((True∧(rE (0:Nat)∧rE (0:Nat))∧True∧True∧True∧rE ((wrap i64 (v0.1+1)):Int)∧True)∧(rE (0:Int)∧rE (0:Int)∧True)∧rE x0.1∧rE x0.2.1∧rE ((v0.2++[wrap u32 0]):List Int)∧True) (Sum.inl (wrap i64 (v0.1+1),v0.2++[wrap u32 0])))) (.br E9 T1 (.br E14 (.cn E5 (.lv (Q0x {Op:=24,A:=E7.reg,B:=0,C:=0,D3:=wrap i32 (ishr u32 (wrap u32 0) 16)}) λ(x17:Int×Bool)=> .cn E5 (.cn E5 (.lv (Q0x {Op:=18,A:=E7.reg,B:=E7.reg,C:=0,D3:=wrap i32 (iand u32 (wrap u32 0) 65535)}) λ(x18:Int×Bool)=> .cn E13 (.nx ((True∧(rE (0:Nat)∧rE (0:Nat))∧True∧True∧True∧rE ((wrap i64 (v0.1+1)):Int)∧True)∧(rE (0:Int)∧rE (0:Int)∧True)∧rE x0.1∧rE x0.2.1∧rE ((v0.2++[x17.1,x18.1]):List Int)∧True) (Sum.inl (wrap i64 (v0.1+1),v0.2++[x17.1,x18.1]))))))) (.br E15 T2 (.br E12 T3 (.an (Q6 E4 0) (.lv (Qjf E4 0) λ(x21:Int×Bool)=> .br (!x21.2) (.lf (Sum.inr ([],{Err:=304,Line:=E4.D1}))) (.cn E8 (.nx ((True∧(rE (0:Nat)∧rE (0:Nat))∧True∧True∧True∧rE ((wrap i64 (v0.1+1)):Int)∧True)∧(rE (0:Int)∧rE (0:Int)∧True)∧rE x0.1∧rE x0.2.1∧rE ((v0.2++[x21.1]):List Int)∧True) (Sum.inl (wrap i64 (v0.1+1),v0.2++[x21.1]))))))))))))) (.lf (Sum.inr (v0.2,{Err:=0,Line:=0})))))
def Q4j(src:(List UInt8)):((List Int)×Q0t):=(Q5a src).m
abbrev Q5w(src:(List UInt8)):Prop:=(Q5a src).p
def Qtj:LInv:={
 α:=(Int)×(List Int)
 F:=λst a=>([(2,(lk st 2)),(3, .ptr 0 0 0),(4, .all 1),(5, .all 2),(7, .all 3),(8, .int i64 a.1)],[⟨true,59,2, .gen [[(cT st 3 0),(cT st 3 1)]]⟩,⟨false,257,2,esOf st.rows (rN st 4)⟩,⟨false,181,6,esOf st.rows (rN st 5)⟩,⟨false,25,1, .ints u32 a.2⟩])
 a0:=λst=>((lk st 8).toInt,(Q37 st.rows (rN st 7)))
 ex0:=λst=>[]++[(Q0o (lk st 3) (st.rows.length+0)),(Q0o (lk st 4) (st.rows.length+1)),(Q0o (lk st 5) (st.rows.length+2)),(Q0o (lk st 7) (st.rows.length+3))]
 next:=λst=>((lk st 8).toInt,(Q37 st.rows (rN st 7)))
 ex:=λst=>[]++[(Q0o (lk st 3) (st.rows.length+0)),(Q0o (lk st 4) (st.rows.length+1)),(Q0o (lk st 5) (st.rows.length+2)),(Q0o (lk st 7) (st.rows.length+3))]}
def Qt8:LInv:={
 α:=(Int)×(List Int)
 F:=λst a=>([(2,(lk st 2)),(3, .ptr 0 0 0),(4, .all 1),(5, .all 2),(7, .all 4),(8,(lk st 8)),(9, .ptr 3 0 0),(14, .int i64 a.1)],[⟨true,59,2, .gen [[(cT st 3 0),(cT st 3 1)]]⟩,⟨false,257,2,esOf st.rows (rN st 4)⟩,⟨false,181,6,esOf st.rows (rN st 5)⟩,⟨true,181,6, .gen [[(cT st 9 0),(cT st 9 1),(cT st 9 2),(cT st 9 3),(cT st 9 4),(cT st 9 5)]]⟩,⟨false,25,1, .ints u32 a.2⟩])
 a0:=λst=>((lk st 14).toInt,(Q37 st.rows (rN st 7)))
 ex0:=λst=>[]++[(Q0o (lk st 3) (st.rows.length+0)),(Q0o (lk st 4) (st.rows.length+1)),(Q0o (lk st 5) (st.rows.length+2)),(Q0o (lk st 9) (st.rows.length+3)),(Q0o (lk st 7) (st.rows.length+4))]
 next:=λst=>((lk st 14).toInt,(Q37 st.rows (rN st 7)))
 ex:=λst=>[]++[(Q0o (lk st 3) (st.rows.length+0)),(Q0o (lk st 4) (st.rows.length+1)),(Q0o (lk st 5) (st.rows.length+2)),(Q0o (lk st 9) (st.rows.length+3)),(Q0o (lk st 7) (st.rows.length+4))]}
def Qnn:List (Nat×LInv):=[(6,Qtj),(29,Qt8)]
def Qxa:Q09:=mkP 36 [] true [.one (.str)] [] (λargs rows=>Q5w (argS args 0)) (λargs rows=>Q4j (argS args 0)) (λX=> .tup [.all 0, .agg (Q0t.cells (X.2))]) (λX=>[⟨false,25,1, .ints .u32 (X.1)⟩])
theorem Qtu:Q01 Tryz.prog Qxa:=Q0j drawn Q0g (.cons Z7r (.cons Qjc (.cons Qey (.cons Z6 (.nil))))) Tryz.func36 Tryz.call36 (λargs rows=>Q5a (argS args 0)) [.row 25 1 (.ints .u32)] Qnn 3 (λ_ _ _=>by kernel_rfl) (λ_ _=>rfl) (λ_ _ h=>h) (λ_ X=>by kernel_rfl)
end
noncomputable section
instance sumInhZh {α β:Type} [Inhabited β]:Inhabited (α⊕β):=⟨.inr default⟩
end
noncomputable section
def tblZe0:List UInt8:=[(105:UInt8),32,114,49,44,32,104,97,110,100,108,101,114,10,99,115,114,119,32,114,49,44,32,49,10,108,105,32,114,49,44,32,51,49,10,99,115,114,119,32,114]
def Z22:List UInt8:=[(49:UInt8),44,32,55,10,108,105,32,114,49,44,32,52,10,99,115,114,119,32,114,49,44,32,54,10,108,105,32,114,50,44,32,53,49,50,10,108,105,32,114,51,44]
def Z1k:List UInt8:=[(32:UInt8),48,10,108,105,32,114,52,44,32,56,10,109,97,112,58,32,115,104,108,105,32,114,53,44,32,114,51,44,32,56,10,111,114,105,32,114,53,44,32,114,53]
def Z0q:List UInt8:=[(44:UInt8),32,55,10,115,104,108,105,32,114,54,44,32,114,51,44,32,50,10,97,100,100,32,114,54,44,32,114,54,44,32,114,50,10,115,119,32,114,53,44,32,48,40]
def Z1n:List UInt8:=[(114:UInt8),54,41,10,97,100,100,105,32,114,51,44,32,114,51,44,32,49,10,98,108,116,32,114,51,44,32,114,52,44,32,109,97,112,10,108,105,32,114,49,44,32]
def Z0w:List UInt8:=[(54:UInt8),10,111,117,116,32,114,49,44,32,55,10,108,105,32,114,49,44,32,50,10,111,117,116,32,114,49,44,32,57,10,108,105,32,114,49,44,32,49,48,48,10,111]
def Z2k:List UInt8:=[(117:UInt8),116,32,114,49,44,32,51,10,108,105,32,114,49,44,32,54,52,48,10,99,115,114,119,32,114,49,44,32,50,10,108,105,32,114,49,44,32,50,49,10,99]
def Z0i:List UInt8:=[(115:UInt8),114,119,32,114,49,44,32,48,10,101,114,101,116,10,104,97,110,100,108,101,114,58,32,99,115,114,119,32,114,49,44,32,53,10,99,115,114,114,32,114,49,44]
def Z0x:List UInt8:=[(32:UInt8),51,10,115,108,116,105,32,114,49,44,32,114,49,44,32,49,54,10,98,101,113,32,114,49,44,32,114,48,44,32,105,114,113,10,99,115,114,114,32,114,49]
def Z1d:List UInt8:=[(44:UInt8),32,50,10,97,100,100,105,32,114,49,44,32,114,49,44,32,52,10,99,115,114,119,32,114,49,44,32,50,10,105,110,32,114,51,44,32,50,10,111,117,116]
def Qqy:List UInt8:=[(32:UInt8),114,51,44,32,48,10,108,105,32,114,49,44,32,49,10,111,117,116,32,114,49,44,32,52,10,108,105,32,114,49,44,32,55,10,111,117,116,32,114,49,44]
def Qqj:List UInt8:=[(32:UInt8),53,10,97,110,100,105,32,114,49,44,32,114,50,44,32,49,10,97,100,100,105,32,114,49,44,32,114,49,44,32,49,10,111,117,116,32,114,49,44,32,54,10]
def Qpn:List UInt8:=[(99:UInt8),115,114,114,32,114,49,44,32,53,10,101,114,101,116,10,105,114,113,58,32,105,110,32,114,49,44,32,48,10,111,117,116,32,114,49,44,32,48,10,111,117]
def Qqf:List UInt8:=[(116:UInt8),32,114,48,44,32,54,10,111,117,116,32,114,48,44,32,57,10,108,105,32,114,49,44,32,54,10,111,117,116,32,114,49,44,32,55,10,108,105,32,114,49,44]
def Qr2:List UInt8:=[(32:UInt8),50,10,111,117,116,32,114,49,44,32,57,10,105,110,32,114,49,44,32,50,10,97,100,100,105,32,114,49,44,32,114,49,44,32,50,48,10,111,117,116,32]
def Qrl:List UInt8:=[(114:UInt8),49,44,32,51,10,105,110,32,114,49,44,32,49,48,10,111,117,116,32,114,49,44,32,49,48,10,99,115,114,114,32,114,49,44,32,53,10,101,114,101,116,10]
def Z3x:List UInt8:=[(108:UInt8),105,32,114,49,44,32,104,97,110,100,108,101,114,10,99,115,114,119,32,114,49,44,32,49,10,108,105,32,114,49,44,32,51,49,10,99,115,114,119,32,114]
instance sumInhZe {α β:Type} [Inhabited β]:Inhabited (α⊕β):=⟨.inr default⟩
def Qfd(l:(List Q1g))(z:(Int)):Prop:=1≤z∧(z≤l.length∨z=1)
def Q8c(l:(List Q1g))(z:(Int)):Nat:=(l.length-z).toNat
def Qa5(l:(List Q1g)):Tree Bool:=
.lp inferInstance (Q8c l 1+1) ((((Els.Nil (Els.recs RK.apiEntry l)∨rE (4:Nat))∧rE (l:List (RK.T RK.apiEntry)))∧rE (1:Int)∧True)∧True) 1 λ(v0:Int)=> .br (decide (v0<(l.length:Int))) (let E4:=Nat.beq 4 4&&Nat.blt 0 4&&decide (0≤v0∧v0<(l.length:Int)); .cn E4 (let E2:=Nat.beq 4 4&&Nat.blt 0 4&&decide (0≤wrap i64 (v0-1)∧wrap i64 (v0-1)<(l.length:Int)); .cn E2 (let E3:=l.getD (Int.toNat (wrap i64 (v0-1))) (RK.dflt RK.apiEntry);let E5:=l.getD v0.toNat (RK.dflt RK.apiEntry); .br (decide (E5.At<E3.At)) (.lf (Sum.inr false)) (.cn E4 (.cn E2 (let T1:Tree ((Int)⊕(Bool)):= .nx ((((Els.Nil (Els.recs RK.apiEntry l)∨rE (4:Nat))∧rE (l:List (RK.T RK.apiEntry)))∧rE ((wrap i64 (v0+1)):Int)∧True)∧True) (Sum.inl (wrap i64 (v0+1))); .br (E5.At==E3.At) (.cn E2 (.br (E3.Event.C6==1) (.lf (Sum.inr false)) T1)) T1)))))) (.lf (Sum.inr true))
def Qrt(l:(List Q1g)):Bool:=(Qa5 l).m
def Q4u(l:(List Q1g)):Prop:=
l.length≤1000000000000
theorem Qtr(l:(List Q1g))(hw:Q4u l):(Qa5 l).p:=by
 simp only[Q4u]at hw
 unfold Tree.p Qa5
 repeat'(first|refine w_lp (inv:=Qfd l) (μ:=Q8c l) ?_ (Nat.lt_succ_self _) (λ_ _=> ?_)|exact trivial|refine w_br (λ_=> ?_) (λ_=> ?_)|refine w_cn ?_ ?_|refine w_an ?_ ?_|refine w_lv (λ_ _=> ?_)|refine w_nx ?_|refine w_lf ?_|refine And.intro ?_ ?_)
 all_goals((try simp only[Qfd,Q8c]at*);((subst_vars;first|trivial|assumption|omega|((simp(config:={decide:=true,failIfUnchanged:=false}) only[Bool.and_eq_true,Bool.or_eq_true,Bool.and_eq_false_iff,Bool.or_eq_false_iff,Bool.not_eq_true',Bool.not_eq_false',Bool.not_eq_true,Bool.not_eq_false,decide_eq_true_eq,decide_eq_false_iff_not,Q3t,Q2i,Q3y,Q2j,beq_iff_eq,beq_eq_false_iff_ne,bne_iff_ne,bne_eq_false_iff_eq,ne_eq,List.all_cons,List.all_nil,D.plain,List.length_cons,List.length_nil,List.length_append,List.length_set,List.length_replicate,IntKind.wrap_i64,IntKind.wrap_u64,IntKind.wrap_u32,IntKind.wrap_i32,IntKind.wrap_u8,true_and,and_true,or_false,false_or,or_true,true_or,not_true_eq_false,not_false_eq_true,Prod.fst,Prod.snd]at*);first|done|assumption|omega)|((simp(config:={decide:=true,failIfUnchanged:=false}) only[Bool.and_eq_true,Bool.or_eq_true,Bool.and_eq_false_iff,Bool.or_eq_false_iff,Bool.not_eq_true',Bool.not_eq_false',Bool.not_eq_true,Bool.not_eq_false,decide_eq_true_eq,decide_eq_false_iff_not,Q3t,Q2i,Q3y,Q2j,beq_iff_eq,beq_eq_false_iff_ne,bne_iff_ne,bne_eq_false_iff_eq,ne_eq,List.all_cons,List.all_nil,D.plain,List.length_cons,List.length_nil,List.length_append,List.length_set,List.length_replicate,IntKind.wrap_i64,IntKind.wrap_u64,IntKind.wrap_u32,IntKind.wrap_i32,IntKind.wrap_u8,true_and,and_true,or_false,false_or,or_true,true_or,not_true_eq_false,not_false_eq_true,Prod.fst,Prod.snd]at*);simp only[←List.length_pos_iff]at*;omega)|(simp_all;done)|(have:= @Qf2;simp_all;try omega))))
def Qw8:LInv:={
 α:=(Int)
 F:=λst a=>([(0,(lk st 0)),(3, .int i64 a)],[])
 a0:=λst=>(lk st 3).toInt
 ex0:=λst=>[]++[]
 next:=λst=>(lk st 3).toInt
 ex:=λst=>[]++[]}
def Qpx:List (Nat×LInv):=[(2,Qw8)]
def Qyw:Q09:=mkP 155 [] true [.one (.recs .apiEntry)] [] (λargs rows=>Q4u (argR .apiEntry args 0)) (λargs rows=>Qrt (argR .apiEntry args 0)) (λX=> .bool X) (λX=>[])
theorem Qxf:Q01 Tryz.prog Qyw:=Q0j drawn Q0g (.nil) Tryz.func155 Tryz.call155 (λargs rows=>Qa5 (argR .apiEntry args 0)) [] Qpx 3 (λ_ _ _=>by kernel_rfl) (λ_ _=>rfl) (λargs rows h=>Qtr (argR .apiEntry args 0) h) (λ_ X=>by kernel_rfl)
def Qhh(m:Q00)(script:(List Q1g))(until0:Int)(z:Q00×(List Q0e)):Nat:=(until0-z.1.A4).toNat
def Qhs(m:Q00)(script:(List Q1g))(until0:Int)(v0:Q00×List Q0e)(z:Unit):Nat:=0
def Qac(m:Q00)(script:(List Q1g))(until0:Int):Tree (Q00×(List Q0e)×Int×Int):=
.lv (Zdl m) λ(x0:Bool)=>let E2:=({B1:={X:={a0:=0,a1:=0,a2:=0,a3:=0,a4:=0,a5:=0,a6:=0,a7:=0,a8:=0,a9:=0,a10:=0,a11:=0,a12:=0,a13:=0,a14:=0,a15:=0},Pc:=0,B5:={a0:=0,a1:=0,a2:=0,a3:=0,a4:=0,a5:=0,a6:=0,a7:=0}},Mem:=[],A1:={D0:=[]},A9:={D6:=false,C4:=0,D4:=false},B0:={Blocks:=0,B6:=0,Frame:=0,C0:=0,D7:=0,B3:=0,B4:=0,B7:=[]},C2:={Frame:=0,D9:=0,B8:=false,B9:=0,B2:=false,E0:=0},A0:={C3:=0,C5:=0},A4:=0,A2:=false,A6:=false}:Q00);let T1:Tree ((Q00×(List Q0e)×Int×Int)):= .lf (E2,[],0,1300); .br (!x0) T1 (.br (decide (until0<m.A4)) T1 (.br (decide (wrap u64 (until0-m.A4)>4000)) T1 (.an (Q4u []) (.lv (Qrt []) λ(x1:Bool)=> .br (!x1) (.lf (E2,[],0,1301)) (.an (Qs4 m) (.lv (Zct m) λ(x2:Q00)=> .lp inferInstance (Qhh m script until0 (x2,[])+1) ((((Els.Nil (Els.gen [])∨rE (0:Nat))∧rE ([]:List (List D)))∧rE (until0:Int)∧(rE (0:Nat)∧rE (0:Nat))∧(rE (0:Nat)∧rE (0:Nat))∧True∧rE (0:Int)∧True)∧(mE x2 True True)∧rE x2.Mem∧(mE zM True True)∧rE ([]:List (RK.T RK.apiOutput))∧True) (x2,[]) λ(v0:Q00×List Q0e)=> .br (decide (v0.1.A4<until0)) (.br (decide (v0.1.A4<1152921504606846976)) (.lp inferInstance (Qhs m script until0 v0 ()+1) ((((Els.Nil (Els.gen [])∨rE (0:Nat))∧rE ([]:List (List D)))∧rE (until0:Int)∧(rE (0:Nat)∧rE (0:Nat))∧(rE (0:Nat)∧rE (0:Nat))∧True∧rE (0:Int)∧(rE (0:Nat)∧rE (46:Nat))∧rE v0.1.A4∧rE ((decide (v0.1.A4<1152921504606846976)):Bool)∧True)∧(mE v0.1 True True)∧rE v0.1.Mem∧(mE zM True True)∧rE v0.2∧True) () λ(v1:PUnit)=> .br v0.1.A6 (.lf (Sum.inr (Sum.inr (v0.1,v0.2,0,0)))) (.an (Qp2 v0.1) (.lv (Z6b v0.1) λ(x3:Bool)=> .br x3 (.lf (Sum.inr (Sum.inr (v0.1,v0.2,0,0)))) (.an (Qlt v0.1) (.lv (Z0v v0.1) λ(x4:Bool)=> .br (!false==x4) (.lf (Sum.inr (Sum.inr (E2,[],0,1302)))) (.an (Qi3 v0.1 0) (.lv (Qt v0.1 0) λ(x5:List Q0e×Q00)=> .cn (decide (40*(v0.2.length+x5.1.length)≤140737488355328)) (.nx ((((Els.Nil (Els.gen [])∨rE (0:Nat))∧rE ([]:List (List D)))∧rE (until0:Int)∧(rE (0:Nat)∧rE (0:Nat))∧(rE (0:Nat)∧rE (0:Nat))∧True∧rE (0:Int)∧True)∧(mE x5.2 True True)∧rE x5.2.Mem∧(mE zM True True)∧rE ((v0.2++x5.1):List (RK.T RK.apiOutput))∧True) (Sum.inr (Sum.inl (x5.2,v0.2++x5.1))))))))))) (.lf (Sum.inr (v0.1,v0.2,0,0)))) (.lf (Sum.inr (v0.1,v0.2,0,0)))))))))
def Q9h(m:Q00)(script:(List Q1g))(until0:Int):(Q00×(List Q0e)×Int×Int):=(Qac m script until0).m
abbrev Q6m(m:Q00)(script:(List Q1g))(until0:Int):Prop:=(Qac m script until0).p
def Z45:LInv:={
 α:=Q00×(List Q0e)
 F:=λst a=>([(1,(lk st 1)),(2,(lk st 2)),(3, .ptr 0 0 0),(6, .ptr 2 0 0),(10, .all 3),(11,(lk st 11))],[⟨true,43,49, .gen [[.int u32 a.1.B1.X.a0, .int u32 a.1.B1.X.a1, .int u32 a.1.B1.X.a2, .int u32 a.1.B1.X.a3, .int u32 a.1.B1.X.a4, .int u32 a.1.B1.X.a5, .int u32 a.1.B1.X.a6, .int u32 a.1.B1.X.a7, .int u32 a.1.B1.X.a8, .int u32 a.1.B1.X.a9, .int u32 a.1.B1.X.a10, .int u32 a.1.B1.X.a11, .int u32 a.1.B1.X.a12, .int u32 a.1.B1.X.a13, .int u32 a.1.B1.X.a14, .int u32 a.1.B1.X.a15, .int u32 a.1.B1.Pc, .int u32 a.1.B1.B5.a0, .int u32 a.1.B1.B5.a1, .int u32 a.1.B1.B5.a2, .int u32 a.1.B1.B5.a3, .int u32 a.1.B1.B5.a4, .int u32 a.1.B1.B5.a5, .int u32 a.1.B1.B5.a6, .int u32 a.1.B1.B5.a7, .all 1, .str a.1.A1.D0, .bool a.1.A9.D6, .int u32 a.1.A9.C4, .bool a.1.A9.D4, .int u32 a.1.B0.Blocks, .int u32 a.1.B0.B6, .int u32 a.1.B0.Frame, .int i64 a.1.B0.C0, .int i64 a.1.B0.D7, .int u32 a.1.B0.B3, .int u32 a.1.B0.B4, .str a.1.B0.B7, .int u32 a.1.C2.Frame, .int u32 a.1.C2.D9, .bool a.1.C2.B8, .int u32 a.1.C2.B9, .bool a.1.C2.B2, .int u32 a.1.C2.E0, .int u32 a.1.A0.C3, .int u32 a.1.A0.C5, .int u64 a.1.A4, .bool a.1.A2, .bool a.1.A6]]⟩,⟨false,25,1, .ints u32 a.1.Mem⟩,⟨true,43,49, .gen [[(cT st 6 0),(cT st 6 1),(cT st 6 2),(cT st 6 3),(cT st 6 4),(cT st 6 5),(cT st 6 6),(cT st 6 7),(cT st 6 8),(cT st 6 9),(cT st 6 10),(cT st 6 11),(cT st 6 12),(cT st 6 13),(cT st 6 14),(cT st 6 15),(cT st 6 16),(cT st 6 17),(cT st 6 18),(cT st 6 19),(cT st 6 20),(cT st 6 21),(cT st 6 22),(cT st 6 23),(cT st 6 24),(cT st 6 25),(cT st 6 26),(cT st 6 27),(cT st 6 28),(cT st 6 29),(cT st 6 30),(cT st 6 31),(cT st 6 32),(cT st 6 33),(cT st 6 34),(cT st 6 35),(cT st 6 36),(cT st 6 37),(cT st 6 38),(cT st 6 39),(cT st 6 40),(cT st 6 41),(cT st 6 42),(cT st 6 43),(cT st 6 44),(cT st 6 45),(cT st 6 46),(cT st 6 47),(cT st 6 48)]]⟩,⟨false,71,4, .recs RK.apiOutput a.2⟩])
 a0:=λst=>((⟨(⟨(⟨(cT st 3 0).toInt,(cT st 3 1).toInt,(cT st 3 2).toInt,(cT st 3 3).toInt,(cT st 3 4).toInt,(cT st 3 5).toInt,(cT st 3 6).toInt,(cT st 3 7).toInt,(cT st 3 8).toInt,(cT st 3 9).toInt,(cT st 3 10).toInt,(cT st 3 11).toInt,(cT st 3 12).toInt,(cT st 3 13).toInt,(cT st 3 14).toInt,(cT st 3 15).toInt⟩:(A16 Int)),(cT st 3 16).toInt,(⟨(cT st 3 17).toInt,(cT st 3 18).toInt,(cT st 3 19).toInt,(cT st 3 20).toInt,(cT st 3 21).toInt,(cT st 3 22).toInt,(cT st 3 23).toInt,(cT st 3 24).toInt⟩:(A8 Int))⟩:Q02),(Q37 st.rows (Q0o (cT st 3 25) 1000000)),(⟨(cT st 3 26).toStr⟩:Q0a),(⟨(cT st 3 27).toBool,(cT st 3 28).toInt,(cT st 3 29).toBool⟩:Q0k),(⟨(cT st 3 30).toInt,(cT st 3 31).toInt,(cT st 3 32).toInt,(cT st 3 33).toInt,(cT st 3 34).toInt,(cT st 3 35).toInt,(cT st 3 36).toInt,(cT st 3 37).toStr⟩:Q0b),(⟨(cT st 3 38).toInt,(cT st 3 39).toInt,(cT st 3 40).toBool,(cT st 3 41).toInt,(cT st 3 42).toBool,(cT st 3 43).toInt⟩:Q0m),(⟨(cT st 3 44).toInt,(cT st 3 45).toInt⟩:Q07),(cT st 3 46).toInt,(cT st 3 47).toBool,(cT st 3 48).toBool⟩:Q00),(Qem RK.apiOutput st.rows (rN st 10)))
 ex0:=λst=>[]++[(Q0o (lk st 3) (st.rows.length+0)),(Q0o (cT st 3 25) (st.rows.length+1)),(Q0o (lk st 6) (st.rows.length+2)),(Q0o (lk st 10) (st.rows.length+3))]
 next:=λst=>((⟨(⟨(⟨(cT st 3 0).toInt,(cT st 3 1).toInt,(cT st 3 2).toInt,(cT st 3 3).toInt,(cT st 3 4).toInt,(cT st 3 5).toInt,(cT st 3 6).toInt,(cT st 3 7).toInt,(cT st 3 8).toInt,(cT st 3 9).toInt,(cT st 3 10).toInt,(cT st 3 11).toInt,(cT st 3 12).toInt,(cT st 3 13).toInt,(cT st 3 14).toInt,(cT st 3 15).toInt⟩:(A16 Int)),(cT st 3 16).toInt,(⟨(cT st 3 17).toInt,(cT st 3 18).toInt,(cT st 3 19).toInt,(cT st 3 20).toInt,(cT st 3 21).toInt,(cT st 3 22).toInt,(cT st 3 23).toInt,(cT st 3 24).toInt⟩:(A8 Int))⟩:Q02),(Q37 st.rows (Q0o (cT st 3 25) 1000000)),(⟨(cT st 3 26).toStr⟩:Q0a),(⟨(cT st 3 27).toBool,(cT st 3 28).toInt,(cT st 3 29).toBool⟩:Q0k),(⟨(cT st 3 30).toInt,(cT st 3 31).toInt,(cT st 3 32).toInt,(cT st 3 33).toInt,(cT st 3 34).toInt,(cT st 3 35).toInt,(cT st 3 36).toInt,(cT st 3 37).toStr⟩:Q0b),(⟨(cT st 3 38).toInt,(cT st 3 39).toInt,(cT st 3 40).toBool,(cT st 3 41).toInt,(cT st 3 42).toBool,(cT st 3 43).toInt⟩:Q0m),(⟨(cT st 3 44).toInt,(cT st 3 45).toInt⟩:Q07),(cT st 3 46).toInt,(cT st 3 47).toBool,(cT st 3 48).toBool⟩:Q00),(Qem RK.apiOutput st.rows (rN st 10)))
 ex:=λst=>[]++[(Q0o (lk st 3) (st.rows.length+0)),(Q0o (cT st 3 25) (st.rows.length+1)),(Q0o (lk st 6) (st.rows.length+2)),(Q0o (lk st 10) (st.rows.length+3))]}
def Z3b:LInv:={
 α:=Unit
 F:=λst a=>([(1,(lk st 1)),(2,(lk st 2)),(3, .ptr 0 0 0),(6, .ptr 2 0 0),(10, .all 3),(11,(lk st 11)),(61, .ptr 0 0 46),(62,(lk st 62)),(63,(lk st 63))],[⟨true,43,49, .gen [[(cT st 3 0),(cT st 3 1),(cT st 3 2),(cT st 3 3),(cT st 3 4),(cT st 3 5),(cT st 3 6),(cT st 3 7),(cT st 3 8),(cT st 3 9),(cT st 3 10),(cT st 3 11),(cT st 3 12),(cT st 3 13),(cT st 3 14),(cT st 3 15),(cT st 3 16),(cT st 3 17),(cT st 3 18),(cT st 3 19),(cT st 3 20),(cT st 3 21),(cT st 3 22),(cT st 3 23),(cT st 3 24), .all 1,(cT st 3 26),(cT st 3 27),(cT st 3 28),(cT st 3 29),(cT st 3 30),(cT st 3 31),(cT st 3 32),(cT st 3 33),(cT st 3 34),(cT st 3 35),(cT st 3 36),(cT st 3 37),(cT st 3 38),(cT st 3 39),(cT st 3 40),(cT st 3 41),(cT st 3 42),(cT st 3 43),(cT st 3 44),(cT st 3 45),(cT st 3 46),(cT st 3 47),(cT st 3 48)]]⟩,⟨false,25,1,esOf st.rows (Q0o (cT st 3 25) 1000000)⟩,⟨true,43,49, .gen [[(cT st 6 0),(cT st 6 1),(cT st 6 2),(cT st 6 3),(cT st 6 4),(cT st 6 5),(cT st 6 6),(cT st 6 7),(cT st 6 8),(cT st 6 9),(cT st 6 10),(cT st 6 11),(cT st 6 12),(cT st 6 13),(cT st 6 14),(cT st 6 15),(cT st 6 16),(cT st 6 17),(cT st 6 18),(cT st 6 19),(cT st 6 20),(cT st 6 21),(cT st 6 22),(cT st 6 23),(cT st 6 24),(cT st 6 25),(cT st 6 26),(cT st 6 27),(cT st 6 28),(cT st 6 29),(cT st 6 30),(cT st 6 31),(cT st 6 32),(cT st 6 33),(cT st 6 34),(cT st 6 35),(cT st 6 36),(cT st 6 37),(cT st 6 38),(cT st 6 39),(cT st 6 40),(cT st 6 41),(cT st 6 42),(cT st 6 43),(cT st 6 44),(cT st 6 45),(cT st 6 46),(cT st 6 47),(cT st 6 48)]]⟩,⟨false,71,4,esOf st.rows (rN st 10)⟩])
 a0:=λst=>()
 ex0:=λst=>[]++[(Q0o (lk st 3) (st.rows.length+0)),(Q0o (cT st 3 25) (st.rows.length+1)),(Q0o (lk st 6) (st.rows.length+2)),(Q0o (lk st 10) (st.rows.length+3))]
 next:=λst=>()
 ex:=λst=>[]++[(Q0o (lk st 3) (st.rows.length+0)),(Q0o (cT st 3 25) (st.rows.length+1)),(Q0o (lk st 6) (st.rows.length+2)),(Q0o (lk st 10) (st.rows.length+3))]}
def Qw1:List (Nat×LInv):=[(8,Z45),(9,Z3b)]
def Z98:Q09:=mkP 75 [] true [.agg Q00.sig, .one .nil, .one (.int .u64)] [] (λargs rows=>Q6m (Q00.of (args.getD 0 .dead).cells) (argR .apiEntry args 1) (argI args 2)) (λargs rows=>Q9h (Q00.of (args.getD 0 .dead).cells) (argR .apiEntry args 1) (argI args 2)) (λX=> .tup [.agg (Q00.cellsW (X.1) (.all 0)), .all 1, .int .i64 (X.2.2.1), .int .i64 (X.2.2.2)]) (λX=>[⟨false,25,1, .ints .u32 (X.1).Mem⟩,⟨false,71,4, .recs .apiOutput (X.2.1)⟩])
theorem Z5o:Q01 Tryz.prog Z98:=Q0j drawn Q0g (.cons Za3 (.cons Qxf (.cons Za9 (.cons Z51 (.cons Z68 (.cons Z4i (.cons Qy3 (.nil)))))))) Tryz.func75 Tryz.call75 (λargs rows=>Qac (Q00.of (args.getD 0 .dead).cells) (argR .apiEntry args 1) (argI args 2)) [.row 25 1 (.ints .u32), .row 71 4 (.recs .apiOutput)] Qw1 3 (λ_ _ _=>by kernel_rfl) (λ_ _=>rfl) (λ_ _ h=>h) (λ_ X=>by kernel_rfl)
def Qe8(kind:Int)(l:(List Int))(z:(List Int)):Nat:=160-z.length
def Q6v(kind:Int)(l:(List Int)):Tree Q00:=
.an (Q28 kind 3) (.lv (Q3d kind 3) λ(x0:Int)=> .br (decide (x0<2)) (.an (Q5w ((108:UInt8)::(tblZe0++Z22++(Z1k++Z0q)++(Z1n++Z0w++(Z2k++Z0i))++(Z0x++Z1d++(Qqy++Qqj)++(Qpn++Qqf++(Qr2++Qrl)))))) (.lv (Q4j (List.append (List.append (List.append (List.append Z3x Z22) (List.append Z1k Z0q)) (List.append (List.append Z1n Z0w) (List.append Z2k Z0i))) (List.append (List.append (List.append Z0x Z1d) (List.append Qqy Qqj)) (List.append (List.append Qpn Qqf) (List.append Qr2 Qrl))))) λ(x1:List Int×Q0t)=> .lp inferInstance (Qe8 kind l x1.1+1) ((rE (x0:Int)∧((Els.Nil (Els.ints i64 l)∨rE (1:Nat))∧rE (l:List Int))∧(rE (0:Nat)∧rE (0:Nat))∧True∧True)∧(mE zM True True)∧rE x1.1∧True) x1.1 λ(v0:List Int)=> .br (decide ((v0.length:Int)<(160:Int))) (.cn (decide (4*(v0.length+1)≤140737488355328)) (.nx ((rE (x0:Int)∧((Els.Nil (Els.ints i64 l)∨rE (1:Nat))∧rE (l:List Int))∧(rE (0:Nat)∧rE (0:Nat))∧True∧True)∧(mE zM True True)∧rE ((v0++[0]):List Int)∧True) (Sum.inl (v0++[0])))) (.an (Qgz l) (.lv (Qvo l) λ(x2:List Int)=> .cn (decide (4*(v0.length+x2.length)≤140737488355328)) (.br (decide ((↑(List.length (v0++x2)):Int)>(256:Int))) (.cn (Nat.beq 1 1&&Nat.blt 0 1&&decide ((0:Int)≤(0:Int)∧(0:Int)≤(256:Int)∧256≤(↑(List.length (v0++x2)):Int))) (let E1:=List.take (Int.toNat 256-Int.toNat 0) (List.drop (Int.toNat 0) (v0++x2)); .an (Qad 8 4 E1) (.lv (Q81 8 4 E1) λ(x3:Q00×Bool)=> .br (x0==1) (.an (Q6m x3.1 [] 87) (.lv (Q9h x3.1 [] 87) λ(x4:Q00×List Q0e×Int×Int)=> .lf (Sum.inr x4.1))) (.lf (Sum.inr x3.1))))) (.an (Qad 8 4 (v0++x2)) (.lv (Q81 8 4 (v0++x2)) λ(x5:Q00×Bool)=> .br (x0==1) (.an (Q6m x5.1 [] 87) (.lv (Q9h x5.1 [] 87) λ(x6:Q00×List Q0e×Int×Int)=> .lf (Sum.inr x6.1))) (.lf (Sum.inr x5.1))))))))) (.an (Qgz l) (.lv (Qvo l) λ(x7:List Int)=> .cn (decide (4*(0+x7.length)≤140737488355328)) (.br (decide ((x7.length:Int)>(256:Int))) (.cn (Nat.beq 1 1&&Nat.blt 0 1&&decide ((0:Int)≤(0:Int)∧(0:Int)≤(256:Int)∧256≤(x7.length:Int))) (let E2:=List.take (Int.toNat 256-Int.toNat 0) (List.drop (Int.toNat 0) x7); .an (Qad 8 4 E2) (.lv (Q81 8 4 E2) λ(x8:Q00×Bool)=> .br (x0==1) (.an (Q6m x8.1 [] 87) (.lv (Q9h x8.1 [] 87) λ(x9:Q00×List Q0e×Int×Int)=> .lf x9.1)) (.lf x8.1)))) (.an (Qad 8 4 x7) (.lv (Q81 8 4 x7) λ(x10:Q00×Bool)=> .br (x0==1) (.an (Q6m x10.1 [] 87) (.lv (Q9h x10.1 [] 87) λ(x11:Q00×List Q0e×Int×Int)=> .lf x11.1)) (.lf x10.1)))))))
def Qs8(kind:Int)(l:(List Int)):Q00:=(Q6v kind l).m
abbrev Qhn(kind:Int)(l:(List Int)):Prop:=(Q6v kind l).p
def Qv3:LInv:={
 α:=(List Int)
 F:=λst a=>([(0,(lk st 0)),(1,(lk st 1)),(4, .ptr 0 0 0),(5, .all 1)],[⟨true,43,49, .gen [[(cT st 4 0),(cT st 4 1),(cT st 4 2),(cT st 4 3),(cT st 4 4),(cT st 4 5),(cT st 4 6),(cT st 4 7),(cT st 4 8),(cT st 4 9),(cT st 4 10),(cT st 4 11),(cT st 4 12),(cT st 4 13),(cT st 4 14),(cT st 4 15),(cT st 4 16),(cT st 4 17),(cT st 4 18),(cT st 4 19),(cT st 4 20),(cT st 4 21),(cT st 4 22),(cT st 4 23),(cT st 4 24),(cT st 4 25),(cT st 4 26),(cT st 4 27),(cT st 4 28),(cT st 4 29),(cT st 4 30),(cT st 4 31),(cT st 4 32),(cT st 4 33),(cT st 4 34),(cT st 4 35),(cT st 4 36),(cT st 4 37),(cT st 4 38),(cT st 4 39),(cT st 4 40),(cT st 4 41),(cT st 4 42),(cT st 4 43),(cT st 4 44),(cT st 4 45),(cT st 4 46),(cT st 4 47),(cT st 4 48)]]⟩,⟨false,25,1, .ints u32 a⟩])
 a0:=λst=>(Q37 st.rows (rN st 5))
 ex0:=λst=>[]++[(Q0o (lk st 4) (st.rows.length+0)),(Q0o (lk st 5) (st.rows.length+1))]
 next:=λst=>(Q37 st.rows (rN st 5))
 ex:=λst=>[]++[(Q0o (lk st 4) (st.rows.length+0)),(Q0o (lk st 5) (st.rows.length+1))]}
def Qq4:List (Nat×LInv):=[(5,Qv3)]
def Qzi:Q09:=mkP 41 [] true [.one (.int .i64), .one (.ints .i64)] [] (λargs rows=>Qhn (argI args 0) (argL .i64 args 1)) (λargs rows=>Qs8 (argI args 0) (argL .i64 args 1)) (λX=> .agg (Q00.cellsW X (.all 0))) (λX=>[⟨false,25,1, .ints .u32 X.Mem⟩])
theorem Qyf:Q01 Tryz.prog Qzi:=Q0j drawn Q0g (.cons Qgg (.cons Qtu (.cons Z5z (.cons Za5 (.cons Z5o (.nil)))))) Tryz.func41 Tryz.call41 (λargs rows=>Q6v (argI args 0) (argL .i64 args 1)) [.row 25 1 (.ints .u32)] Qq4 3 (λ_ _ _=>by kernel_rfl) (λ_ _=>rfl) (λ_ _ h=>h) (λ_ X=>by kernel_rfl)
end
noncomputable section
end
noncomputable section
instance sumInhRa {α β:Type} [Inhabited β]:Inhabited (α⊕β):=⟨.inr default⟩
end
noncomputable section
instance sumInhRc {α β:Type} [Inhabited β]:Inhabited (α⊕β):=⟨.inr default⟩
end
noncomputable section
instance sumInhQa {α β:Type} [Inhabited β]:Inhabited (α⊕β):=⟨.inr default⟩
def Q8w:Q09:=⟨140,[],false,λargs rows=>match args,rows with|[.sl 1 (.bools l) _],[]=> .abs Unit () (λ_=> .clo 206 [.ptr 0 0 0]) (λ_=>[⟨true,74,1, .gen [[.sl 1 (.bools l) false]]⟩])|_,_=> .no,none,true⟩
theorem Qfc:Q01 Tryz.prog Q8w:=by
 refine⟨λ_=>Tryz.call140,λ_=>by decide,λ_ args rows r r' hm=> ?_,λ_ args rows p r r' hm=> ?_,λ_ args rows α v res rows' hm=> ?_,λ_ args rows p α v res rows' hm=> ?_,λk hk=>(by cases hk),λk hk=>(by cases hk)⟩
 · simp only[Q8w]at hm;split at hm<;>cases hm
 · simp only[Q8w]at hm;split at hm<;>cases hm
 · simp only[Q8w]at hm
   split at hm
   · rename_i l fr
     cases hm
     refine⟨?_,λh=>by cases h⟩
     have e:(fnVC tab [] (λ_ _ _=>False) Tryz.f140 [.sl 1 (.bools l) fr] [] λd R=>retD [0] 0 R d (.clo 206 [.ptr 0 0 0])∧Q21 [0] 0 R [0] [⟨true,74,1, .gen [[.sl 1 (.bools l) false]]⟩])=(True∧((((l=[]∨1=1)∧l=l)∧True)∧True)):=by kernel_rfl
     exact fn_okQ drawn Q0g Q41.nil Tryz.func140 (rf:=none) (L:=λ_ _ _=>False) (λ_ _=>trivial) (λ_ _ _ _ h=>h.elim) (λd R h=>⟨[0],rfl,h⟩) (e.symm▸⟨trivial,⟨⟨.inr rfl,rfl⟩,trivial⟩,trivial⟩)
   · cases hm
 · simp only[Q8w]at hm;split at hm<;>cases hm
def Qbn(p0:Int)(fr0:Int):Tree (Bool×Int):=
.lf (true,wrap i64 (fr0+1))
def Qel(p0:Int)(fr0:Int):(Bool×Int):=(Qbn p0 fr0).m
def Qkz:Q09:=mkK 1 1000000204 [false,true] [.one (.int .i64), .ptr 0] [.box 3 1 [.int .i64]] (λargs rows=>Qel (argI args 0) (Qao rows 0 0).toInt) (λX=> .bool (X.1)) (λX=>[⟨true,3,1, .gen [[.int .i64 X.2]]⟩])
theorem Qiu:Q01 Tryz.prog Qkz:=mkK_ofF none (λ_ _=>trivial) drawn Q0g (.nil) (Tryz.func1000000204 ⟨λ_ _=>by kernel_rfl,rfl⟩) (λh=>absurd h (by decide)) (λargs rows=>Qbn (argI args 0) (Qao rows 0 0).toInt) [] [] 2 (λ_ _ _=>by kernel_rfl) (λ_ _=>rfl) (λ_ _=>Tree.free_ok (by kernel_rfl))
def Q77(n:Int)(fr0:(List Bool))(z:(Int)×(Int)):Nat:=(fr0.length-z.1).toNat
def Qaj(n:Int)(fr0:(List Bool)):Tree (Int×(List Bool)):=
.lp inferInstance (Q77 n fr0 (0,n)+1) ((True∧((Els.Nil (Els.bools fr0)∨rE (1:Nat))∧rE (fr0:List Bool))∧rE ((fr0.length:Int):Int)∧rE (0:Int)∧True)∧(rE (n:Int)∧True)∧(((Els.Nil (Els.bools fr0)∨rE (1:Nat))∧rE (fr0:List Bool))∧True)∧True) (0,n) λ(v0:Int×Int)=> .br (decide (v0.1<(fr0.length:Int))) (.cn (Nat.beq 1 1&&Nat.blt 0 1&&decide (0≤v0.1∧v0.1<(fr0.length:Int))) (.br (fr0.getD v0.1.toNat false) (.lv (Qel v0.1 v0.2) λ(x0:Bool×Int)=> .br (!x0.1) (.lf (Sum.inr (x0.2,fr0))) (.nx ((True∧((Els.Nil (Els.bools fr0)∨rE (1:Nat))∧rE (fr0:List Bool))∧rE ((fr0.length:Int):Int)∧rE ((wrap i64 (v0.1+1)):Int)∧True)∧(rE x0.2∧True)∧(((Els.Nil (Els.bools fr0)∨rE (1:Nat))∧rE (fr0:List Bool))∧True)∧True) (Sum.inl (wrap i64 (v0.1+1),x0.2)))) (.nx ((True∧((Els.Nil (Els.bools fr0)∨rE (1:Nat))∧rE (fr0:List Bool))∧rE ((fr0.length:Int):Int)∧rE ((wrap i64 (v0.1+1)):Int)∧True)∧(rE v0.2∧True)∧(((Els.Nil (Els.bools fr0)∨rE (1:Nat))∧rE (fr0:List Bool))∧True)∧True) (Sum.inl (wrap i64 (v0.1+1),v0.2))))) (.lf (Sum.inr (v0.2,fr0)))
def Qkp(n:Int)(fr0:(List Bool)):(Int×(List Bool)):=(Qaj n fr0).m
abbrev Qle(n:Int)(fr0:(List Bool)):Prop:=(Qaj n fr0).p
def Z48:LInv:={
 α:=(Int)×(Int)
 F:=λst a=>([(0, .clo 1000000204 [.ptr 0 0 0]),(5,(lk st 5)),(6,(lk st 6)),(7, .int i64 a.1)],[⟨true,3,1, .gen [[.int i64 a.2]]⟩,⟨true,74,1, .gen [[(Qbm st.rows 1 0)]]⟩])
 a0:=λst=>((lk st 7).toInt,(Qbm st.rows 0 0).toInt)
 ex0:=λst=>[0,1]++[]
 next:=λst=>((lk st 7).toInt,(Qbm st.rows 0 0).toInt)
 ex:=λst=>[0,1]++[]}
def Qwn:List (Nat×LInv):=[(1,Z48)]
def Z9j:Q09:=mkKP 2 206 [true,true] [.clo 1000000204 [.ptr 0 0 0], .ptr 1] [.box 3 1 [.int .i64], .box 74 1 [.bools]] (λargs rows=>Qle (Qao rows 0 0).toInt (slB (Qao rows 1 0))) (λargs rows=>Qkp (Qao rows 0 0).toInt (slB (Qao rows 1 0))) (λX=> .tup []) (λX=>[⟨true,3,1, .gen [[.int .i64 X.1]]⟩,⟨true,74,1, .gen [[.sl 1 (.bools X.2) false]]⟩])
theorem Z4p:Q01 Tryz.prog Z9j:=Z2q drawn Q0g (.cons Qiu (.nil)) Tryz.func206 Tryz.call206 (λargs rows=>Qaj (Qao rows 0 0).toInt (slB (Qao rows 1 0))) [.sl (.bools) false] Qwn 3 (λ_ _ _=>by kernel_rfl) (λ_ _=>rfl) (λ_ _ h=>h)
def Q56(c:Q03):Tree Int:=
.lv () λ(x0:Unit)=> .an (Qle 0 c.A7) (.lv (Qkp 0 c.A7) λ(x1:Int×List Bool)=> .lf x1.1)
def Q63(c:Q03):Int:=(Q56 c).m
abbrev Q60(c:Q03):Prop:=(Q56 c).p
def Qvu:Q09:=mkP 204 [] true [.agg Q03.sig] [] (λargs rows=>Q60 (Q03.of (args.getD 0 .dead).cells)) (λargs rows=>Q63 (Q03.of (args.getD 0 .dead).cells)) (λX=> .int .i64 X) (λX=>[])
theorem Qhf:Q01 Tryz.prog Qvu:=Zav (some 1000000204) (rf_of (by kernel_rfl) rfl) drawn Q0g (.cons Qfc (.cons Z4p (.nil))) Tryz.func204 Tryz.call204 (λargs rows=>Q56 (Q03.of (args.getD 0 .dead).cells)) [] [] 2 (λ_ _ _=>by kernel_rfl) (λ_ _=>rfl) (λ_ _ h=>h) (λ_ X=>by kernel_rfl)
def Q1i(p0:Int)(fr0:(List Int)):Tree (Bool×(List Int)):=
.cn (decide (8*(fr0.length+1)≤140737488355328)) (.lf (true,fr0++[p0]))
def Q4s(p0:Int)(fr0:(List Int)):(Bool×(List Int)):=(Q1i p0 fr0).m
abbrev Q3p(p0:Int)(fr0:(List Int)):Prop:=(Q1i p0 fr0).p
def Q9p:Q09:=mkKP 1 1000000205 [false,true] [.one (.int .i64), .ptr 0] [.box 22 1 [.row 1], .arr 3 1 (.ints .i64)] (λargs rows=>Q3p (argI args 0) (rowL .i64 rows 1)) (λargs rows=>Q4s (argI args 0) (rowL .i64 rows 1)) (λX=> .bool (X.1)) (λX=>[⟨true,22,1, .gen [[.all 1]]⟩,⟨false,3,1, .ints .i64 (X.2)⟩])
theorem Q98:Q01 Tryz.prog Q9p:=Que none (λ_ _=>trivial) drawn Q0g (.nil) (Tryz.func1000000205 ⟨λ_ _=>by kernel_rfl,rfl⟩) (λh=>absurd h (by decide)) (λargs rows=>Q1i (argI args 0) (rowL .i64 rows 1)) [.row 3 1 (.ints .i64)] [] 2 (λ_ _ _=>by kernel_rfl) (λ_ _=>rfl) (λ_ _ h=>h)
def Qa8(s:(List Int))(fr0:(List Bool))(z:(Int)×(List Int)):Nat:=(fr0.length-z.1).toNat
def Qga(s:(List Int))(fr0:(List Bool)):Tree ((List Int)×(List Bool)):=
.lp inferInstance (Qa8 s fr0 (0,s)+1) ((True∧((Els.Nil (Els.bools fr0)∨rE (1:Nat))∧rE (fr0:List Bool))∧rE ((fr0.length:Int):Int)∧rE (0:Int)∧True)∧(True∧True)∧(((Els.Nil (Els.bools fr0)∨rE (1:Nat))∧rE (fr0:List Bool))∧True)∧rE (s:List Int)∧True) (0,s) λ(v0:Int×List Int)=> .br (decide (v0.1<(fr0.length:Int))) (.cn (Nat.beq 1 1&&Nat.blt 0 1&&decide (0≤v0.1∧v0.1<(fr0.length:Int))) (.br (fr0.getD v0.1.toNat false) (.an (Q3p v0.1 v0.2) (.lv (Q4s v0.1 v0.2) λ(x0:Bool×List Int)=> .br (!x0.1) (.lf (Sum.inr (x0.2,fr0))) (.nx ((True∧((Els.Nil (Els.bools fr0)∨rE (1:Nat))∧rE (fr0:List Bool))∧rE ((fr0.length:Int):Int)∧rE ((wrap i64 (v0.1+1)):Int)∧True)∧(True∧True)∧(((Els.Nil (Els.bools fr0)∨rE (1:Nat))∧rE (fr0:List Bool))∧True)∧rE x0.2∧True) (Sum.inl (wrap i64 (v0.1+1),x0.2))))) (.nx ((True∧((Els.Nil (Els.bools fr0)∨rE (1:Nat))∧rE (fr0:List Bool))∧rE ((fr0.length:Int):Int)∧rE ((wrap i64 (v0.1+1)):Int)∧True)∧(True∧True)∧(((Els.Nil (Els.bools fr0)∨rE (1:Nat))∧rE (fr0:List Bool))∧True)∧rE v0.2∧True) (Sum.inl (wrap i64 (v0.1+1),v0.2))))) (.lf (Sum.inr (v0.2,fr0)))
def Qud(s:(List Int))(fr0:(List Bool)):((List Int)×(List Bool)):=(Qga s fr0).m
abbrev Qsb(s:(List Int))(fr0:(List Bool)):Prop:=(Qga s fr0).p
def Zb3:LInv:={
 α:=(Int)×(List Int)
 F:=λst a=>([(0, .clo 1000000205 [.ptr 0 0 0]),(5,(lk st 5)),(6,(lk st 6)),(7, .int i64 a.1)],[⟨true,22,1, .gen [[.all 2]]⟩,⟨true,74,1, .gen [[(Qbm st.rows 1 0)]]⟩,⟨false,3,1, .ints i64 a.2⟩])
 a0:=λst=>((lk st 7).toInt,(Q37 st.rows (Q0o (Qbm st.rows 0 0) 1000000)))
 ex0:=λst=>[0,1]++[(Q0o (Qbm st.rows 0 0) (st.rows.length+2))]
 next:=λst=>((lk st 7).toInt,(Q37 st.rows (Q0o (Qbm st.rows 0 0) 1000000)))
 ex:=λst=>[0,1]++[(Q0o (Qbm st.rows 0 0) (st.rows.length+2))]}
def Z40:List (Nat×LInv):=[(1,Zb3)]
def Zfw:Q09:=mkKP 2 206 [true,true] [.clo 1000000205 [.ptr 0 0 0], .ptr 1] [.box 22 1 [.row 2], .box 74 1 [.bools], .arr 3 1 (.ints .i64)] (λargs rows=>Qsb (rowL .i64 rows 2) (slB (Qao rows 1 0))) (λargs rows=>Qud (rowL .i64 rows 2) (slB (Qao rows 1 0))) (λX=> .tup []) (λX=>[⟨true,22,1, .gen [[.all 2]]⟩,⟨true,74,1, .gen [[.sl 1 (.bools X.2) false]]⟩,⟨false,3,1, .ints .i64 (X.1)⟩])
theorem Zax:Q01 Tryz.prog Zfw:=Z2q drawn Q0g (.cons Q98 (.nil)) Tryz.func206 Tryz.call206 (λargs rows=>Qga (rowL .i64 rows 2) (slB (Qao rows 1 0))) [.row 3 1 (.ints .i64), .sl (.bools) false] Z40 3 (λ_ _ _=>by kernel_rfl) (λ_ _=>rfl) (λ_ _ h=>h)
def Q1l(s:(List Int))(fr0:(List Bool)):Tree ((List Int)×(List Bool)):=
.an (Qsb [] fr0) (.lv (Qud [] fr0) λ(x0:List Int×List Bool)=> .lf (x0.1,x0.2))
def Q2m(s:(List Int))(fr0:(List Bool)):((List Int)×(List Bool)):=(Q1l s fr0).m
abbrev Q53(s:(List Int))(fr0:(List Bool)):Prop:=(Q1l s fr0).p
def Qe1:Q09:=mkKP 1 205 [true,true] [.one .nil0, .clo 206 [.ptr 0 0 0]] [.box 74 1 [.bools]] (λargs rows=>Q53 (argL .i64 args 0) (slB (Qao rows 0 0))) (λargs rows=>Q2m (argL .i64 args 0) (slB (Qao rows 0 0))) (λX=> .all 1) (λX=>[⟨true,74,1, .gen [[.sl 1 (.bools X.2) false]]⟩,⟨false,3,1, .ints .i64 (X.1)⟩])
theorem Qcn:Q01 Tryz.prog Qe1:=Que (some 1000000205) (rf_of (by kernel_rfl) rfl) drawn Q0g (.cons Zax (.nil)) (.real (by decide) Tryz.func205 rfl) (λ_=>Tryz.call205) (λargs rows=>Q1l (argL .i64 args 0) (slB (Qao rows 0 0))) [.row 3 1 (.ints .i64), .sl (.bools) false] [] 2 (λ_ _ _=>by kernel_rfl) (λ_ _=>rfl) (λ_ _ h=>h)
def Q2p(fr0:(List Bool)):Tree ((List Int)×(List Bool)):=
.an (Q53 [] fr0) (.lv (Q2m [] fr0) λ(x0:List Int×List Bool)=> .lf (x0.1,x0.2))
def Q54(fr0:(List Bool)):((List Int)×(List Bool)):=(Q2p fr0).m
abbrev Q9e(fr0:(List Bool)):Prop:=(Q2p fr0).p
def Qky:Q09:=mkKP 1 139 [true] [.clo 206 [.ptr 0 0 0]] [.box 74 1 [.bools]] (λargs rows=>Q9e (slB (Qao rows 0 0))) (λargs rows=>Q54 (slB (Qao rows 0 0))) (λX=> .all 1) (λX=>[⟨true,74,1, .gen [[.sl 1 (.bools X.2) false]]⟩,⟨false,3,1, .ints .i64 (X.1)⟩])
theorem Qjt:Q01 Tryz.prog Qky:=Z2q drawn Q0g (.cons Qcn (.nil)) Tryz.func139 Tryz.call139 (λargs rows=>Q2p (slB (Qao rows 0 0))) [.row 3 1 (.ints .i64), .sl (.bools) false] [] 2 (λ_ _ _=>by kernel_rfl) (λ_ _=>rfl) (λ_ _ h=>h)
def Q45(c:Q03):Tree (List Int):=
.lv () λ(x0:Unit)=> .an (Q9e c.A7) (.lv (Q54 c.A7) λ(x1:List Int×List Bool)=> .lf x1.1)
def Q4c(c:Q03):(List Int):=(Q45 c).m
abbrev Q4p(c:Q03):Prop:=(Q45 c).p
def Qr7:Q09:=mkP 45 [] true [.agg Q03.sig] [] (λargs rows=>Q4p (Q03.of (args.getD 0 .dead).cells)) (λargs rows=>Q4c (Q03.of (args.getD 0 .dead).cells)) (λX=> .all 0) (λX=>[⟨false,3,1, .ints .i64 X⟩])
theorem Qer:Q01 Tryz.prog Qr7:=Q0j drawn Q0g (.cons Qjt (.cons Qfc (.nil))) Tryz.func45 Tryz.call45 (λargs rows=>Q45 (Q03.of (args.getD 0 .dead).cells)) [.row 3 1 (.ints .i64)] [] 2 (λ_ _ _=>by kernel_rfl) (λ_ _=>rfl) (λ_ _ h=>h) (λ_ X=>by kernel_rfl)
end
noncomputable section
instance sumInhQb {α β:Type} [Inhabited β]:Inhabited (α⊕β):=⟨.inr default⟩
def Qab(pages:Int):Tree (List Int):=
.br (decide (pages<1)) (.lf ([])) (.br (decide (pages>32)) (.lf ([])) (.cn (Nat.blt 0 1&&Nat.beq 1 1&&List.all [D.int u32 0] D.plain&&decide (0≤wrap i64 (pages*32)∧wrap i64 (pages*32)≤wrap i64 (pages*32)∧wrap i64 (pages*32)≤9223372036854775807∧(↑4:Int)*wrap i64 (pages*32)≤140737488355328)) (.lf (List.replicate (Int.toNat (wrap i64 (pages*32))) 0))))
def Qcd(pages:Int):(List Int):=(Qab pages).m
abbrev Qa1(pages:Int):Prop:=(Qab pages).p
def Z6f:Q09:=mkP 44 [] true [.one (.int .i64)] [] (λargs rows=>Qa1 (argI args 0)) (λargs rows=>Qcd (argI args 0)) (λX=> .all 0) (λX=>[⟨false,25,1, .ints .u32 X⟩])
theorem Qov:Q01 Tryz.prog Z6f:=Q0j drawn Q0g (.nil) Tryz.func44 Tryz.call44 (λargs rows=>Qab (argI args 0)) [.row 25 1 (.ints .u32)] [] 2 (λ_ _ _=>by kernel_rfl) (λ_ _=>rfl) (λ_ _ h=>h) (λ_ X=>by kernel_rfl)
def Q48(s1:(List Int))(s2:(List Int))(z:(Int)):Prop:=0≤z∧z≤s1.length∧s1.length=s2.length
def Q14(s1:(List Int))(s2:(List Int))(z:(Int)):Nat:=(s1.length-z).toNat
def Q13(s1:(List Int))(s2:(List Int)):Tree Bool:=
.br ((s1.length:Int) !=(s2.length:Int)) (.lf false) (.lp inferInstance (Q14 s1 s2 0+1) ((((Els.Nil (Els.ints u32 s1)∨rE (1:Nat))∧rE (s1:List Int))∧((Els.Nil (Els.ints u32 s2)∨rE (1:Nat))∧rE (s2:List Int))∧rE ((s1.length:Int):Int)∧rE (0:Int)∧True)∧True) 0 λ(v0:Int)=> .br (decide (v0<(s1.length:Int))) (.cn (Nat.beq 1 1&&Nat.blt 0 1&&decide (0≤v0∧v0<(s1.length:Int))) (.cn (Nat.beq 1 1&&Nat.blt 0 1&&decide (0≤v0∧v0<(s2.length:Int))) (.br (s1.getD v0.toNat 0 !=s2.getD v0.toNat 0) (.lf (Sum.inr false)) (.nx ((((Els.Nil (Els.ints u32 s1)∨rE (1:Nat))∧rE (s1:List Int))∧((Els.Nil (Els.ints u32 s2)∨rE (1:Nat))∧rE (s2:List Int))∧rE ((s1.length:Int):Int)∧rE ((wrap i64 (v0+1)):Int)∧True)∧True) (Sum.inl (wrap i64 (v0+1))))))) (.lf (Sum.inr true)))
def Q22(s1:(List Int))(s2:(List Int)):Bool:=(Q13 s1 s2).m
def Q1n(s1:(List Int))(s2:(List Int)):Prop:=
s1.length≤1000000000000
theorem Qai(s1:(List Int))(s2:(List Int))(hw:Q1n s1 s2):(Q13 s1 s2).p:=by
 simp only[Q1n]at hw
 unfold Tree.p Q13
 repeat'(first|refine w_lp (inv:=Q48 s1 s2) (μ:=Q14 s1 s2) ?_ (Nat.lt_succ_self _) (λ_ _=> ?_)|exact trivial|refine w_br (λ_=> ?_) (λ_=> ?_)|refine w_cn ?_ ?_|refine w_an ?_ ?_|refine w_lv (λ_ _=> ?_)|refine w_nx ?_|refine w_lf ?_|refine And.intro ?_ ?_)
 all_goals((try simp only[Q48,Q14]at*);((subst_vars;first|trivial|assumption|omega|((simp(config:={decide:=true,failIfUnchanged:=false}) only[Bool.and_eq_true,Bool.or_eq_true,Bool.and_eq_false_iff,Bool.or_eq_false_iff,Bool.not_eq_true',Bool.not_eq_false',Bool.not_eq_true,Bool.not_eq_false,decide_eq_true_eq,decide_eq_false_iff_not,Q3t,Q2i,Q3y,Q2j,beq_iff_eq,beq_eq_false_iff_ne,bne_iff_ne,bne_eq_false_iff_eq,ne_eq,List.all_cons,List.all_nil,D.plain,List.length_cons,List.length_nil,List.length_append,List.length_set,List.length_replicate,IntKind.wrap_i64,IntKind.wrap_u64,IntKind.wrap_u32,IntKind.wrap_i32,IntKind.wrap_u8,true_and,and_true,or_false,false_or,or_true,true_or,not_true_eq_false,not_false_eq_true,Prod.fst,Prod.snd]at*);first|done|assumption|omega)|((simp(config:={decide:=true,failIfUnchanged:=false}) only[Bool.and_eq_true,Bool.or_eq_true,Bool.and_eq_false_iff,Bool.or_eq_false_iff,Bool.not_eq_true',Bool.not_eq_false',Bool.not_eq_true,Bool.not_eq_false,decide_eq_true_eq,decide_eq_false_iff_not,Q3t,Q2i,Q3y,Q2j,beq_iff_eq,beq_eq_false_iff_ne,bne_iff_ne,bne_eq_false_iff_eq,ne_eq,List.all_cons,List.all_nil,D.plain,List.length_cons,List.length_nil,List.length_append,List.length_set,List.length_replicate,IntKind.wrap_i64,IntKind.wrap_u64,IntKind.wrap_u32,IntKind.wrap_i32,IntKind.wrap_u8,true_and,and_true,or_false,false_or,or_true,true_or,not_true_eq_false,not_false_eq_true,Prod.fst,Prod.snd]at*);simp only[←List.length_pos_iff]at*;omega)|(simp_all;done)|(have:= @Qf2;simp_all;try omega))))
def Qbg:LInv:={
 α:=(Int)
 F:=λst a=>([(0,(lk st 0)),(1,(lk st 1)),(12,(lk st 12)),(13, .int i64 a)],[])
 a0:=λst=>(lk st 13).toInt
 ex0:=λst=>[]++[]
 next:=λst=>(lk st 13).toInt
 ex:=λst=>[]++[]}
def Q9t:List (Nat×LInv):=[(4,Qbg)]
def Qc:Q09:=mkP 85 [] true [.one (.ints .u32), .one (.ints .u32)] [] (λargs rows=>Q1n (argL .u32 args 0) (argL .u32 args 1)) (λargs rows=>Q22 (argL .u32 args 0) (argL .u32 args 1)) (λX=> .bool X) (λX=>[])
theorem Qbk:Q01 Tryz.prog Qc:=Q0j drawn Q0g (.nil) Tryz.func85 Tryz.call85 (λargs rows=>Q13 (argL .u32 args 0) (argL .u32 args 1)) [] Q9t 3 (λ_ _ _=>by kernel_rfl) (λ_ _=>rfl) (λargs rows h=>Qai (argL .u32 args 0) (argL .u32 args 1) h) (λ_ X=>by kernel_rfl)
def Q1d(s:(List Bool)):(List Bool):=
s
def Q23(s:(List Bool)):Prop:=
s.length≤140737488355328
def Q3(s:(List Bool)):List D:=[.sl 1 (.bools s) false]
def Q1t(s:(List Bool)):List Row:=[]
def Q18(X:(List Bool)):D:= .all 0
def Q19(X:(List Bool)):List Row:=[⟨false,4,1, .bools X⟩]
def Qdz:List Dir:=[.row 4 1 (.bools)]
def Q6d:List PT:=[.one (.bools)]
def Q5p:List RT:=[]
def Qe4(args:List D)(rows:List Row):(List Bool):=Q1d (argM args 0)
def Qe3(args:List D)(rows:List Row):Prop:=Q23 (argM args 0)
def Qfh:Q09:=mkP 207 [] true Q6d Q5p Qe3 Qe4 Q18 Q19
def Q49(s:(List Bool))(Leaf:(List Bool)→Prop):Prop:=
(s=[]→Leaf [])∧cand (decide ((1:Nat)*((0:Nat)+s.length)≤(140737488355328:Nat))) (Leaf s)
set_option maxRecDepth 100000 in
theorem Qf1(s:(List Bool))(Q:D→List Row→Prop):(fnVC tab [] (LL tab [] Tryz.f207.ntmps 0 [] 2) Tryz.f207 (Q3 s) (Q1t s) λd R=>Q5c (Q1t s).length Qdz d R Q)=Q49 s (λX=>Q (Q18 X) (Q19 X)):=by kernel_rfl
theorem Qcp(s:(List Bool))(Leaf:(List Bool)→Prop)(hw:Q23 s)(h:Leaf (Q1d s)):
Q49 s Leaf:=by
 delta Q49
 refine⟨λe=>by rw[e]at h;exact h,?_⟩
 rw[Q04]
 refine⟨decide_eq_true ?_,h⟩
 have:s.length≤140737488355328:=hw
 omega
set_option maxRecDepth 100000 in
theorem Qbv(s:(List Bool))(hw:Q23 s):Q2x Tryz.prog 207 (Q3 s) (Q1t s) (Q18 (Q1d s)) (Q19 (Q1d s)):=
 have hG:Q41 Tryz.prog []:= .nil
 FnOK.calls drawn Q0g hG Tryz.func207 (rf:=none) (λ_ _=>trivial) (LL_ok drawn Q0g hG (.inl rfl) 2 (invs:=[])) (FnOK.of (Qf1 s _) (Qcp s (λX=>Q18 X=Q18 (Q1d s)∧Q19 X=Q19 (Q1d s)) hw ⟨rfl,rfl⟩))
set_option maxRecDepth 100000 in
theorem Qcy(args:List D)(rows:List Row):Q9v Q6d args 0=Q3 (argM args 0):=by kernel_rfl
set_option maxRecDepth 100000 in
theorem Qc6(args:List D)(rows:List Row):Q31 Q5p rows 0=Q1t (argM args 0):=by kernel_rfl
set_option maxRecDepth 100000 in
theorem Qf8(X:(List Bool)):(ffB (Q18 X)&&ffBR (Q19 X))=true:=by kernel_rfl
theorem Qex:Q01 Tryz.prog Qfh:=Z1b Tryz.call207 (λargs rows hp=>by rw[Qcy args rows,Qc6 args rows];exact Qbv (argM args 0) hp) (λ_ X=>Qf8 X)
def Q8j(c:Q03):Tree Q03:=
.an (Q23 c.A7) (.lv (Q1d c.A7) λ(x0:List Bool)=> .lf ({A7:=x0,C1:=c.C1,C8:=c.C8}))
def Q66(c:Q03):Q03:=(Q8j c).m
abbrev Q5z(c:Q03):Prop:=(Q8j c).p
def Qur:Q09:=mkP 141 [] true [.agg Q03.sig] [] (λargs rows=>Q5z (Q03.of (args.getD 0 .dead).cells)) (λargs rows=>Q66 (Q03.of (args.getD 0 .dead).cells)) (λX=> .agg (Q03.cellsW X (.all 0))) (λX=>[⟨false,4,1, .bools X.A7⟩])
theorem Qi1:Q01 Tryz.prog Qur:=Q0j drawn Q0g (.cons Qex (.nil)) Tryz.func141 Tryz.call141 (λargs rows=>Q8j (Q03.of (args.getD 0 .dead).cells)) [.row 4 1 (.bools)] [] 2 (λ_ _ _=>by kernel_rfl) (λ_ _=>rfl) (λ_ _ h=>h) (λ_ X=>by kernel_rfl)
def Q42(p0:Int)(fr0:(List Int))(fr1:(List Q0i)):Tree (Bool×(List Int)×(List Q0i)):=
.an (Q5k fr0 p0) (.lv (Q34 fr0 p0) λ(x0:List UInt8×Bool)=> .cn (decide (24*(fr1.length+1)≤140737488355328)) (.lf (true,fr0,fr1++[{Frame:=p0,D5:=x0.1}])))
def Qeo(p0:Int)(fr0:(List Int))(fr1:(List Q0i)):(Bool×(List Int)×(List Q0i)):=(Q42 p0 fr0 fr1).m
abbrev Q9c(p0:Int)(fr0:(List Int))(fr1:(List Q0i)):Prop:=(Q42 p0 fr0 fr1).p
def Ql8:Q09:=mkKP 2 1000000046 [false,true,true] [.one (.int .i64), .ptr 0, .ptr 1] [.box 30 1 [.ints .u32], .box 82 1 [.row 2], .arr 210 2 (.recs .apiPageCopy)] (λargs rows=>Q9c (argI args 0) (slI .u32 (Qao rows 0 0)) (rowR .apiPageCopy rows 2)) (λargs rows=>Qeo (argI args 0) (slI .u32 (Qao rows 0 0)) (rowR .apiPageCopy rows 2)) (λX=> .bool (X.1)) (λX=>[⟨true,30,1, .gen [[.sl 1 (.ints .u32 X.2.1) false]]⟩,⟨true,82,1, .gen [[.all 2]]⟩,⟨false,210,2, .recs .apiPageCopy (X.2.2)⟩])
theorem Qin:Q01 Tryz.prog Ql8:=Que none (λ_ _=>trivial) drawn Q0g (.cons Qaa (.nil)) (Tryz.func1000000046 ⟨λ_ _=>by kernel_rfl,rfl⟩) (λh=>absurd h (by decide)) (λargs rows=>Q42 (argI args 0) (slI .u32 (Qao rows 0 0)) (rowR .apiPageCopy rows 2)) [.sl (.ints .u32) false, .row 210 2 (.recs .apiPageCopy)] [] 2 (λ_ _ _=>by kernel_rfl) (λ_ _=>rfl) (λ_ _ h=>h)
def Q75(m:(List Int))(l:(List Q0i))(fr0:(List Bool))(z:(Int)×(List Int)×(List Q0i)):Nat:=(fr0.length-z.1).toNat
def Qb0(m:(List Int))(l:(List Q0i))(fr0:(List Bool)):Tree ((List Int)×(List Q0i)×(List Bool)):=
.lp inferInstance (Q75 m l fr0 (0,m,l)+1) ((True∧((Els.Nil (Els.bools fr0)∨rE (1:Nat))∧rE (fr0:List Bool))∧rE ((fr0.length:Int):Int)∧rE (0:Int)∧True)∧(((Els.Nil (Els.ints u32 m)∨rE (1:Nat))∧rE (m:List Int))∧True)∧(True∧True)∧(((Els.Nil (Els.bools fr0)∨rE (1:Nat))∧rE (fr0:List Bool))∧True)∧rE (l:List (RK.T RK.apiPageCopy))∧True) (0,m,l) λ(v0:Int×List Int×List Q0i)=> .br (decide (v0.1<(fr0.length:Int))) (.cn (Nat.beq 1 1&&Nat.blt 0 1&&decide (0≤v0.1∧v0.1<(fr0.length:Int))) (.br (fr0.getD v0.1.toNat false) (.an (Q9c v0.1 v0.2.1 v0.2.2) (.lv (Qeo v0.1 v0.2.1 v0.2.2) λ(x0:Bool×List Int×List Q0i)=> .br (!x0.1) (.lf (Sum.inr (x0.2.1,x0.2.2,fr0))) (.nx ((True∧((Els.Nil (Els.bools fr0)∨rE (1:Nat))∧rE (fr0:List Bool))∧rE ((fr0.length:Int):Int)∧rE ((wrap i64 (v0.1+1)):Int)∧True)∧(((Els.Nil (Els.ints u32 x0.2.1)∨rE (1:Nat))∧rE x0.2.1)∧True)∧(True∧True)∧(((Els.Nil (Els.bools fr0)∨rE (1:Nat))∧rE (fr0:List Bool))∧True)∧rE x0.2.2∧True) (Sum.inl (wrap i64 (v0.1+1),x0.2.1,x0.2.2))))) (.nx ((True∧((Els.Nil (Els.bools fr0)∨rE (1:Nat))∧rE (fr0:List Bool))∧rE ((fr0.length:Int):Int)∧rE ((wrap i64 (v0.1+1)):Int)∧True)∧(((Els.Nil (Els.ints u32 v0.2.1)∨eqAt Nat 1 1)∧rE v0.2.1)∧True)∧(True∧True)∧(((Els.Nil (Els.bools fr0)∨rE (1:Nat))∧rE (fr0:List Bool))∧True)∧rE v0.2.2∧True) (Sum.inl (wrap i64 (v0.1+1),v0.2.1,v0.2.2))))) (.lf (Sum.inr (v0.2.1,v0.2.2,fr0)))
def Qks(m:(List Int))(l:(List Q0i))(fr0:(List Bool)):((List Int)×(List Q0i)×(List Bool)):=(Qb0 m l fr0).m
abbrev Qlo(m:(List Int))(l:(List Q0i))(fr0:(List Bool)):Prop:=(Qb0 m l fr0).p
def Z5p:LInv:={
 α:=(Int)×(List Int)×(List Q0i)
 F:=λst a=>([(0, .clo 1000000046 [.ptr 0 0 0, .ptr 1 0 0]),(5,(lk st 5)),(6,(lk st 6)),(7, .int i64 a.1)],[⟨true,30,1, .gen [[.sl 1 (.ints u32 a.2.1) false]]⟩,⟨true,82,1, .gen [[.all 3]]⟩,⟨true,74,1, .gen [[(Qbm st.rows 2 0)]]⟩,⟨false,210,2, .recs RK.apiPageCopy a.2.2⟩])
 a0:=λst=>((lk st 7).toInt,(slI u32 (Qbm st.rows 0 0)),(Qem RK.apiPageCopy st.rows (Q0o (Qbm st.rows 1 0) 1000000)))
 ex0:=λst=>[0,1,2]++[(Q0o (Qbm st.rows 1 0) (st.rows.length+3))]
 next:=λst=>((lk st 7).toInt,(slI u32 (Qbm st.rows 0 0)),(Qem RK.apiPageCopy st.rows (Q0o (Qbm st.rows 1 0) 1000000)))
 ex:=λst=>[0,1,2]++[(Q0o (Qbm st.rows 1 0) (st.rows.length+3))]}
def Qxh:List (Nat×LInv):=[(1,Z5p)]
def Z8m:Q09:=mkKP 3 206 [true,true] [.clo 1000000046 [.ptr 0 0 0, .ptr 1 0 0], .ptr 2] [.box 30 1 [.ints .u32], .box 82 1 [.row 3], .box 74 1 [.bools], .arr 210 2 (.recs .apiPageCopy)] (λargs rows=>Qlo (slI .u32 (Qao rows 0 0)) (rowR .apiPageCopy rows 3) (slB (Qao rows 2 0))) (λargs rows=>Qks (slI .u32 (Qao rows 0 0)) (rowR .apiPageCopy rows 3) (slB (Qao rows 2 0))) (λX=> .tup []) (λX=>[⟨true,30,1, .gen [[.sl 1 (.ints .u32 X.1) false]]⟩,⟨true,82,1, .gen [[.all 3]]⟩,⟨true,74,1, .gen [[.sl 1 (.bools X.2.2) false]]⟩,⟨false,210,2, .recs .apiPageCopy (X.2.1)⟩])
theorem Z5c:Q01 Tryz.prog Z8m:=Z2q drawn Q0g (.cons Qin (.nil)) Tryz.func206 Tryz.call206 (λargs rows=>Qb0 (slI .u32 (Qao rows 0 0)) (rowR .apiPageCopy rows 3) (slB (Qao rows 2 0))) [.sl (.ints .u32) false, .row 210 2 (.recs .apiPageCopy), .sl (.bools) false] Qxh 3 (λ_ _ _=>by kernel_rfl) (λ_ _=>rfl) (λ_ _ h=>h)
def Q8z(c:Q03):Tree Bool:=
.br (decide ((c.A7.length:Int)≥(1:Int))) (.br (decide ((c.A7.length:Int)≤(32:Int))) (.br (decide (c.C1≥0)) (.br (decide (c.C1≤11)) (.br (decide (c.C8≥0)) (.lf (decide (c.C8≤352))) (.lf false)) (.lf false)) (.lf false)) (.lf false)) (.lf false)
def Q15(c:Q03):Bool:=(Q8z c).m
def Qwx:Q09:=mkR 142 [] true [.agg Q03.sig] [] (λargs rows=>Q15 (Q03.of (args.getD 0 .dead).cells)) (λX=> .bool X) (λX=>[])
theorem Qhv:Q01 Tryz.prog Qwx:=Q0p drawn Q0g (.nil) Tryz.func142 Tryz.call142 (λargs rows=>Q8z (Q03.of (args.getD 0 .dead).cells)) [] [] 2 (λ_ _ _=>by kernel_rfl) (λ_ _=>rfl) (λ_ _=>Tree.free_ok (by kernel_rfl)) (λ_ X=>by kernel_rfl)
def Q5j(c:Q03)(m:(List Int)):Tree (Q03×(List Q0i)):=
.an (Q5z c) (.lv (Q66 c) λ(x0:Q03)=> .lv (Q15 x0) λ(x1:Bool)=> .br (!x1) (.lf (x0,[])) (.br (decide (x0.C1>10)) (.lf (x0,[])) (.lv (Q0f m) λ(x2:Int)=> .br (x2 !=(x0.A7.length:Int)) (.lf (x0,[])) (.lv () λ(x3:Unit)=> .an (Qlo m [] x0.A7) (.lv (Qks m [] x0.A7) λ(x4:List Int×List Q0i×List Bool)=> .cn (Nat.blt 0 1&&Nat.beq 1 1&&List.all [D.bool false] D.plain&&decide (0≤(x0.A7.length:Int)∧(x0.A7.length:Int)≤(x0.A7.length:Int)∧(x0.A7.length:Int)≤(9223372036854775807:Int)∧(↑1:Int)*(x0.A7.length:Int)≤(140737488355328:Int))) (.lf ({A7:=List.replicate (Int.toNat (x0.A7.length:Int)) false,C1:=wrap i64 (x0.C1+1),C8:=wrap i64 (x0.C8+(x4.2.1.length:Int))},x4.2.1)))))))
def Q5x(c:Q03)(m:(List Int)):(Q03×(List Q0i)):=(Q5j c m).m
abbrev Q64(c:Q03)(m:(List Int)):Prop:=(Q5j c m).p
def Qw2:Q09:=mkP 46 [] true [.agg Q03.sig, .one (.ints .u32)] [] (λargs rows=>Q64 (Q03.of (args.getD 0 .dead).cells) (argL .u32 args 1)) (λargs rows=>Q5x (Q03.of (args.getD 0 .dead).cells) (argL .u32 args 1)) (λX=> .tup [.agg (Q03.cellsW (X.1) (.all 0)), .all 1]) (λX=>[⟨false,4,1, .bools (X.1).A7⟩,⟨false,210,2, .recs .apiPageCopy (X.2)⟩])
theorem Qhd:Q01 Tryz.prog Qw2:=Zav (some 1000000046) (rf_of (by kernel_rfl) rfl) drawn Q0g (.cons Qi1 (.cons Qhv (.cons Q1a (.cons Qfc (.cons Qaa (.cons Z5c (.nil))))))) Tryz.func46 Tryz.call46 (λargs rows=>Q5j (Q03.of (args.getD 0 .dead).cells) (argL .u32 args 1)) [.row 4 1 (.bools), .row 210 2 (.recs .apiPageCopy)] [] 2 (λ_ _ _=>by kernel_rfl) (λ_ _=>rfl) (λ_ _ h=>h) (λ_ X=>by kernel_rfl)
def Q7e(pages:Int)(z:(Int)×(List Bool)):Nat:=(pages-z.1).toNat
def Q57(pages:Int):Tree (Q03×Bool):=
.br (decide (pages<(1:Int))) (.lf ({A7:=[],C1:=(0:Int),C8:=(0:Int)},false)) (.br (decide (pages>(32:Int))) (.lf ({A7:=[],C1:=(0:Int),C8:=(0:Int)},false)) (.cn (Nat.blt (0:Nat) (1:Nat)&&Nat.beq (1:Nat) (1:Nat)&&List.all [D.bool false] D.plain&&decide ((0:Int)≤pages∧pages≤pages∧pages≤(9223372036854775807:Int)∧(↑(1:Nat):Int)*pages≤(140737488355328:Int))) (.lp inferInstance (Q7e pages ((0:Int),List.replicate pages.toNat false)+1) (((rE (0:Nat)∧rE (0:Nat))∧(rE (0:Nat)∧rE (0:Nat))∧rE ((↑(List.length (List.replicate pages.toNat false)):Int):Int)∧rE ((0:Int):Int)∧True)∧(True∧rE ((0:Int):Int)∧rE ((0:Int):Int)∧True)∧(True∧rE ((0:Int):Int)∧rE ((0:Int):Int)∧True)∧rE ((List.replicate pages.toNat false):List Bool)∧True) ((0:Int),List.replicate pages.toNat false) λ(v0:Int×List Bool)=> .br (decide (v0.1<(↑(List.length (List.replicate pages.toNat false)):Int))) (.cn (Nat.beq 1 (1:Nat)&&Nat.blt (0:Nat) (1:Nat)&&decide ((0:Int)≤v0.1∧v0.1<(v0.2.length:Int))) (.nx (((rE (0:Nat)∧rE (0:Nat))∧(rE (0:Nat)∧rE (0:Nat))∧rE ((↑(List.length (List.replicate pages.toNat false)):Int):Int)∧rE ((wrap i64 (v0.1+(1:Int))):Int)∧True)∧(True∧rE ((0:Int):Int)∧rE ((0:Int):Int)∧True)∧(True∧rE ((0:Int):Int)∧rE ((0:Int):Int)∧True)∧rE ((List.set v0.2 v0.1.toNat true):List Bool)∧True) (Sum.inl (wrap i64 (v0.1+(1:Int)),List.set v0.2 v0.1.toNat true)))) (.lf (Sum.inr ({A7:=v0.2,C1:=(0:Int),C8:=(0:Int)},true))))))
def Q61(pages:Int):(Q03×Bool):=(Q57 pages).m
abbrev Q6c(pages:Int):Prop:=(Q57 pages).p
def Qtp:LInv:={
 α:=(Int)×(List Bool)
 F:=λst a=>([(2, .ptr 0 0 0),(4, .ptr 1 0 0),(18,(lk st 18)),(19, .int i64 a.1)],[⟨true,76,3, .gen [[(cT st 2 0),(cT st 2 1),(cT st 2 2)]]⟩,⟨true,76,3, .gen [[.all 2,(cT st 4 1),(cT st 4 2)]]⟩,⟨false,4,1, .bools a.2⟩])
 a0:=λst=>((lk st 19).toInt,(Qrm st.rows (Q0o (cT st 4 0) 1000000)))
 ex0:=λst=>[]++[(Q0o (lk st 2) (st.rows.length+0)),(Q0o (lk st 4) (st.rows.length+1)),(Q0o (cT st 4 0) (st.rows.length+2))]
 next:=λst=>((lk st 19).toInt,(Qrm st.rows (Q0o (cT st 4 0) 1000000)))
 ex:=λst=>[]++[(Q0o (lk st 2) (st.rows.length+0)),(Q0o (lk st 4) (st.rows.length+1)),(Q0o (cT st 4 0) (st.rows.length+2))]}
def Qoo:List (Nat×LInv):=[(5,Qtp)]
def Qwb:Q09:=mkP 42 [] true [.one (.int .i64)] [] (λargs rows=>Q6c (argI args 0)) (λargs rows=>Q61 (argI args 0)) (λX=> .tup [.agg (Q03.cellsW (X.1) (.all 0)), .bool (X.2)]) (λX=>[⟨false,4,1, .bools (X.1).A7⟩])
theorem Qhj:Q01 Tryz.prog Qwb:=Q0j drawn Q0g (.nil) Tryz.func42 Tryz.call42 (λargs rows=>Q57 (argI args 0)) [.row 4 1 (.bools)] Qoo 3 (λ_ _ _=>by kernel_rfl) (λ_ _=>rfl) (λ_ _ h=>h) (λ_ X=>by kernel_rfl)
def Q2k(c:Q03)(frames:(List Int))(z:(Int)×(List Bool)):Nat:=(frames.length-z.1).toNat
def Q6o(c:Q03)(frames:(List Int)):Tree Q03:=
.an (Q5z c) (.lv (Q66 c) λ(x0:Q03)=> .lp inferInstance (Q2k c frames (0,x0.A7)+1) (((rE (0:Nat)∧rE (0:Nat))∧(rE (0:Nat)∧rE (0:Nat))∧((Els.Nil (Els.ints i64 frames)∨rE (1:Nat))∧rE (frames:List Int))∧rE ((frames.length:Int):Int)∧rE (0:Int)∧True)∧(True∧rE x0.C1∧rE x0.C8∧True)∧rE x0.A7∧(True∧rE (0:Int)∧rE (0:Int)∧True)∧True) (0,x0.A7) λ(v0:Int×List Bool)=> .br (decide (v0.1<(frames.length:Int))) (.cn (Nat.beq 1 1&&Nat.blt 0 1&&decide (0≤v0.1∧v0.1<(frames.length:Int))) (let T1:Tree ((Int×List Bool)⊕(Q03)):= .nx (((rE (0:Nat)∧rE (0:Nat))∧(rE (0:Nat)∧rE (0:Nat))∧((Els.Nil (Els.ints i64 frames)∨rE (1:Nat))∧rE (frames:List Int))∧rE ((frames.length:Int):Int)∧rE ((wrap i64 (v0.1+1)):Int)∧True)∧(True∧rE x0.C1∧rE x0.C8∧True)∧rE v0.2∧(True∧rE (0:Int)∧rE (0:Int)∧True)∧True) (Sum.inl (wrap i64 (v0.1+1),v0.2)); .br (decide (frames.getD v0.1.toNat (0:Int)≥(0:Int))) (.br (decide (frames.getD v0.1.toNat 0<(v0.2.length:Int))) (.cn (Nat.beq 1 1&&Nat.blt 0 1&&decide (0≤frames.getD v0.1.toNat 0∧frames.getD v0.1.toNat 0<(v0.2.length:Int))) (.nx (((rE (0:Nat)∧rE (0:Nat))∧(rE (0:Nat)∧rE (0:Nat))∧((Els.Nil (Els.ints i64 frames)∨rE (1:Nat))∧rE (frames:List Int))∧rE ((frames.length:Int):Int)∧rE ((wrap i64 (v0.1+1)):Int)∧True)∧(True∧rE x0.C1∧rE x0.C8∧True)∧rE ((List.set v0.2 (Int.toNat (frames.getD v0.1.toNat 0)) true):List Bool)∧(True∧rE (0:Int)∧rE (0:Int)∧True)∧True) (Sum.inl (wrap i64 (v0.1+1),List.set v0.2 (Int.toNat (frames.getD v0.1.toNat 0)) true)))) T1) T1)) (.lf (Sum.inr {A7:=v0.2,C1:=x0.C1,C8:=x0.C8})))
def Q7n(c:Q03)(frames:(List Int)):Q03:=(Q6o c frames).m
abbrev Q7a(c:Q03)(frames:(List Int)):Prop:=(Q6o c frames).p
def Quu:LInv:={
 α:=(Int)×(List Bool)
 F:=λst a=>([(2, .ptr 0 0 0),(4, .ptr 2 0 0),(9,(lk st 9)),(10,(lk st 10)),(11, .int i64 a.1)],[⟨true,76,3, .gen [[.all 1,(cT st 2 1),(cT st 2 2)]]⟩,⟨false,4,1, .bools a.2⟩,⟨true,76,3, .gen [[(cT st 4 0),(cT st 4 1),(cT st 4 2)]]⟩])
 a0:=λst=>((lk st 11).toInt,(Qrm st.rows (Q0o (cT st 2 0) 1000000)))
 ex0:=λst=>[]++[(Q0o (lk st 2) (st.rows.length+0)),(Q0o (cT st 2 0) (st.rows.length+1)),(Q0o (lk st 4) (st.rows.length+2))]
 next:=λst=>((lk st 11).toInt,(Qrm st.rows (Q0o (cT st 2 0) 1000000)))
 ex:=λst=>[]++[(Q0o (lk st 2) (st.rows.length+0)),(Q0o (cT st 2 0) (st.rows.length+1)),(Q0o (lk st 4) (st.rows.length+2))]}
def Qqb:List (Nat×LInv):=[(3,Quu)]
def Qzl:Q09:=mkP 51 [] true [.agg Q03.sig, .one (.ints .i64)] [] (λargs rows=>Q7a (Q03.of (args.getD 0 .dead).cells) (argL .i64 args 1)) (λargs rows=>Q7n (Q03.of (args.getD 0 .dead).cells) (argL .i64 args 1)) (λX=> .agg (Q03.cellsW X (.all 0))) (λX=>[⟨false,4,1, .bools X.A7⟩])
theorem Qk:Q01 Tryz.prog Qzl:=Q0j drawn Q0g (.cons Qi1 (.nil)) Tryz.func51 Tryz.call51 (λargs rows=>Q6o (Q03.of (args.getD 0 .dead).cells) (argL .i64 args 1)) [.row 4 1 (.bools)] Qqb 3 (λ_ _ _=>by kernel_rfl) (λ_ _=>rfl) (λ_ _ h=>h) (λ_ X=>by kernel_rfl)
def Q6k(c:Q03)(limit:Int):Tree Bool:=
.lv (Q15 c) λ(x0:Bool)=> .br x0 (.an (Q60 c) (.lv (Q63 c) λ(x1:Int)=> .br (decide (x1≤limit)) (.lf true) (.lf (decide (c.C1≥10))))) (.lf false)
def Q7p(c:Q03)(limit:Int):Bool:=(Q6k c limit).m
abbrev Q7b(c:Q03)(limit:Int):Prop:=(Q6k c limit).p
def Qzw:Q09:=mkP 136 [] true [.agg Q03.sig, .one (.int .i64)] [] (λargs rows=>Q7b (Q03.of (args.getD 0 .dead).cells) (argI args 1)) (λargs rows=>Q7p (Q03.of (args.getD 0 .dead).cells) (argI args 1)) (λX=> .bool X) (λX=>[])
theorem Qwo:Q01 Tryz.prog Qzw:=Q0j drawn Q0g (.cons Qhv (.cons Qhf (.nil))) Tryz.func136 Tryz.call136 (λargs rows=>Q6k (Q03.of (args.getD 0 .dead).cells) (argI args 1)) [] [] 2 (λ_ _ _=>by kernel_rfl) (λ_ _=>rfl) (λ_ _ h=>h) (λ_ X=>by kernel_rfl)
def Q3j(c:Q03)(rate:Int):Tree Int:=
.br (decide (rate<1)) (.lf 0) (.an (Q60 c) (.lv (Q63 c) λ(x0:Int)=> .cn (decide (rate≠0)) (.cn (decide (rate≠0)) (.br (decide (Int.tmod x0 rate>0)) (.lf (wrap i64 (wrap i64 (Int.tdiv x0 rate)+1))) (.lf (wrap i64 (Int.tdiv x0 rate)))))))
def Q73(c:Q03)(rate:Int):Int:=(Q3j c rate).m
abbrev Q6f(c:Q03)(rate:Int):Prop:=(Q3j c rate).p
def Qow:Q09:=mkP 137 [] true [.agg Q03.sig, .one (.int .i64)] [] (λargs rows=>Q6f (Q03.of (args.getD 0 .dead).cells) (argI args 1)) (λargs rows=>Q73 (Q03.of (args.getD 0 .dead).cells) (argI args 1)) (λX=> .int .i64 X) (λX=>[])
theorem Qmy:Q01 Tryz.prog Qow:=Q0j drawn Q0g (.cons Qhf (.nil)) Tryz.func137 Tryz.call137 (λargs rows=>Q3j (Q03.of (args.getD 0 .dead).cells) (argI args 1)) [] [] 2 (λ_ _ _=>by kernel_rfl) (λ_ _=>rfl) (λ_ _ h=>h) (λ_ X=>by kernel_rfl)
def Q7l(m:(List Int))(l:(List Q0i))(z:(Int)):Nat:=(l.length-z).toNat
def Q7m(m:(List Int))(l:(List Q0i))(z:(Int)×(List Int)):Nat:=(l.length-z.1).toNat
def Q5i(m:(List Int))(l:(List Q0i)):Tree ((List Int)×Bool):=
.lv (Q0f m) λ(x0:Int)=> .an (Q08 m) (.lv (Q05 m) λ(x1:List Int)=> .br (x0==0) (.lf (x1,false)) (.lp inferInstance (Q7l m l 0+1) ((((Els.Nil (Els.recs RK.apiPageCopy l)∨rE (2:Nat))∧rE (l:List (RK.T RK.apiPageCopy)))∧rE (x0:Int)∧True∧((Els.Nil (Els.recs RK.apiPageCopy l)∨rE (2:Nat))∧rE (l:List (RK.T RK.apiPageCopy)))∧rE ((l.length:Int):Int)∧rE (0:Int)∧True)∧rE (x1:List Int)∧True) 0 λ(v0:Int)=> .br (decide (v0<(l.length:Int))) (.cn (Nat.beq 2 2&&Nat.blt 0 2&&decide (0≤v0∧v0<(l.length:Int))) (let E2:=l.getD v0.toNat (RK.dflt RK.apiPageCopy); .br (decide (E2.Frame<0)) (.lf (Sum.inr (x1,false))) (.br (decide (E2.Frame≥x0)) (.lf (Sum.inr (x1,false))) (.br ((↑(List.length E2.D5):Int) !=(128:Int)) (.lf (Sum.inr (x1,false))) (.nx ((((Els.Nil (Els.recs RK.apiPageCopy l)∨rE (2:Nat))∧rE (l:List (RK.T RK.apiPageCopy)))∧rE (x0:Int)∧True∧((Els.Nil (Els.recs RK.apiPageCopy l)∨rE (2:Nat))∧rE (l:List (RK.T RK.apiPageCopy)))∧rE ((l.length:Int):Int)∧rE ((wrap i64 (v0+1)):Int)∧True)∧rE (x1:List Int)∧True) (Sum.inl (wrap i64 (v0+1)))))))) (.lp inferInstance (Q7m m l (0,x1)+1) ((True∧((Els.Nil (Els.recs RK.apiPageCopy l)∨rE (2:Nat))∧rE (l:List (RK.T RK.apiPageCopy)))∧rE ((l.length:Int):Int)∧rE (0:Int)∧True)∧rE (x1:List Int)∧True) (0,x1) λ(v1:Int×List Int)=> .br (decide (v1.1<(l.length:Int))) (.cn (Nat.beq 2 2&&Nat.blt 0 2&&decide (0≤v1.1∧v1.1<(l.length:Int))) (let E1:=l.getD v1.1.toNat (RK.dflt RK.apiPageCopy); .an (Q88 v1.2 E1.Frame E1.D5) (.lv (Q2v v1.2 E1.Frame E1.D5) λ(x2:List Int×Bool)=> .nx ((True∧((Els.Nil (Els.recs RK.apiPageCopy l)∨rE (2:Nat))∧rE (l:List (RK.T RK.apiPageCopy)))∧rE ((l.length:Int):Int)∧rE ((wrap i64 (v1.1+1)):Int)∧True)∧rE x2.1∧True) (Sum.inl (wrap i64 (v1.1+1),x2.1))))) (.lf (Sum.inr (Sum.inr (v1.2,true)))))))
def Qc7(m:(List Int))(l:(List Q0i)):((List Int)×Bool):=(Q5i m l).m
abbrev Q9m(m:(List Int))(l:(List Q0i)):Prop:=(Q5i m l).p
def Qt2:LInv:={
 α:=(Int)
 F:=λst a=>([(1,(lk st 1)),(6,(lk st 6)),(7, .all 0),(19,(lk st 19)),(20,(lk st 20)),(21, .int i64 a)],[⟨false,25,1,esOf st.rows (rN st 7)⟩])
 a0:=λst=>(lk st 21).toInt
 ex0:=λst=>[]++[(Q0o (lk st 7) (st.rows.length+0))]
 next:=λst=>(lk st 21).toInt
 ex:=λst=>[]++[(Q0o (lk st 7) (st.rows.length+0))]}
def Qta:LInv:={
 α:=(Int)×(List Int)
 F:=λst a=>([(7, .all 0),(42,(lk st 42)),(43,(lk st 43)),(44, .int i64 a.1)],[⟨false,25,1, .ints u32 a.2⟩])
 a0:=λst=>((lk st 44).toInt,(Q37 st.rows (rN st 7)))
 ex0:=λst=>[]++[(Q0o (lk st 7) (st.rows.length+0))]
 next:=λst=>((lk st 44).toInt,(Q37 st.rows (rN st 7)))
 ex:=λst=>[]++[(Q0o (lk st 7) (st.rows.length+0))]}
def Qpe:List (Nat×LInv):=[(6,Qt2),(12,Qta)]
def Qx7:Q09:=mkP 47 [] true [.one (.ints .u32), .one (.recs .apiPageCopy)] [] (λargs rows=>Q9m (argL .u32 args 0) (argR .apiPageCopy args 1)) (λargs rows=>Qc7 (argL .u32 args 0) (argR .apiPageCopy args 1)) (λX=> .tup [.all 0, .bool (X.2)]) (λX=>[⟨false,25,1, .ints .u32 (X.1)⟩])
theorem Qte:Q01 Tryz.prog Qx7:=Q0j drawn Q0g (.cons Q1a (.cons Q0u (.cons Qfz (.nil)))) Tryz.func47 Tryz.call47 (λargs rows=>Q5i (argL .u32 args 0) (argR .apiPageCopy args 1)) [.row 25 1 (.ints .u32)] Qpe 3 (λ_ _ _=>by kernel_rfl) (λ_ _=>rfl) (λ_ _ h=>h) (λ_ X=>by kernel_rfl)
def Qbr(a:(List Int))(b:(List Int))(z:(Int)×(List Int)):Nat:=(40-z.1).toNat
def Q4t(a:(List Int))(b:(List Int)):Tree (List Int):=
.lv (Q0f a) λ(x0:Int)=> .lv (Q0f b) λ(x1:Int)=> .br (x0 !=x1) (.lf ([])) (.lp inferInstance (Qbr a b (0,[])+1) ((((Els.Nil (Els.ints u32 a)∨rE (1:Nat))∧rE (a:List Int))∧((Els.Nil (Els.ints u32 b)∨rE (1:Nat))∧rE (b:List Int))∧True∧rE (x0:Int)∧rE (0:Int)∧True)∧rE ([]:List Int)∧True) (0,[]) λ(v0:Int×List Int)=> .br (decide (v0.1<x0)) (.cn (Nat.beq 1 1&&Nat.blt 0 1&&decide (0≤wrap i64 (v0.1*32)∧wrap i64 (v0.1*32)≤wrap i64 (wrap i64 (v0.1+1)*32)∧wrap i64 (wrap i64 (v0.1+1)*32)≤(a.length:Int))) (.cn (Nat.beq 1 1&&Nat.blt 0 1&&decide (0≤wrap i64 (v0.1*32)∧wrap i64 (v0.1*32)≤wrap i64 (wrap i64 (v0.1+1)*32)∧wrap i64 (wrap i64 (v0.1+1)*32)≤(b.length:Int))) (let E1:=Int.toNat (wrap i64 (wrap i64 (v0.1+1)*32))-Int.toNat (wrap i64 (v0.1*32));let E2:=Int.toNat (wrap i64 (v0.1*32)); .an (Q1n (List.take E1 (List.drop E2 a)) (List.take E1 (List.drop E2 b))) (.lv (Q22 (List.take E1 (List.drop E2 a)) (List.take E1 (List.drop E2 b))) λ(x2:Bool)=> .br (!x2) (.cn (decide (8*(v0.2.length+1)≤140737488355328)) (.nx ((((Els.Nil (Els.ints u32 a)∨rE (1:Nat))∧rE (a:List Int))∧((Els.Nil (Els.ints u32 b)∨rE (1:Nat))∧rE (b:List Int))∧True∧rE (x0:Int)∧rE ((wrap i64 (v0.1+1)):Int)∧True)∧rE ((v0.2++[v0.1]):List Int)∧True) (Sum.inl (wrap i64 (v0.1+1),v0.2++[v0.1])))) (.nx ((((Els.Nil (Els.ints u32 a)∨rE (1:Nat))∧rE (a:List Int))∧((Els.Nil (Els.ints u32 b)∨rE (1:Nat))∧rE (b:List Int))∧True∧rE (x0:Int)∧rE ((wrap i64 (v0.1+1)):Int)∧True)∧rE v0.2∧True) (Sum.inl (wrap i64 (v0.1+1),v0.2))))))) (.lf (Sum.inr v0.2)))
def Q6n(a:(List Int))(b:(List Int)):(List Int):=(Q4t a b).m
abbrev Q8p(a:(List Int))(b:(List Int)):Prop:=(Q4t a b).p
def Qps:LInv:={
 α:=(Int)×(List Int)
 F:=λst a=>([(0,(lk st 0)),(1,(lk st 1)),(6, .all 0),(16,(lk st 16)),(17, .int i64 a.1)],[⟨false,3,1, .ints i64 a.2⟩])
 a0:=λst=>((lk st 17).toInt,(Q37 st.rows (rN st 6)))
 ex0:=λst=>[]++[(Q0o (lk st 6) (st.rows.length+0))]
 next:=λst=>((lk st 17).toInt,(Q37 st.rows (rN st 6)))
 ex:=λst=>[]++[(Q0o (lk st 6) (st.rows.length+0))]}
def Qmq:List (Nat×LInv):=[(6,Qps)]
def Qt6:Q09:=mkP 52 [] true [.one (.ints .u32), .one (.ints .u32)] [] (λargs rows=>Q8p (argL .u32 args 0) (argL .u32 args 1)) (λargs rows=>Q6n (argL .u32 args 0) (argL .u32 args 1)) (λX=> .all 0) (λX=>[⟨false,3,1, .ints .i64 X⟩])
theorem Qq1:Q01 Tryz.prog Qt6:=Q0j drawn Q0g (.cons Q1a (.cons Qbk (.nil))) Tryz.func52 Tryz.call52 (λargs rows=>Q4t (argL .u32 args 0) (argL .u32 args 1)) [.row 3 1 (.ints .i64)] Qmq 3 (λ_ _ _=>by kernel_rfl) (λ_ _=>rfl) (λ_ _ h=>h) (λ_ X=>by kernel_rfl)
end
noncomputable section
instance sumInhQc {α β:Type} [Inhabited β]:Inhabited (α⊕β):=⟨.inr default⟩
def Q8q:Tree Bool:=
.an (Q6c 3) (.lv (Q61 3) λ(x0:Q03×Bool)=> .an (Qa1 3) (.lv (Qcd 3) λ(x1:List Int)=> .an (Q64 x0.1 x1) (.lv (Q5x x0.1 x1) λ(x2:Q03×List Q0i)=> .an (Q7a x2.1 [1]) (.lv (Q7n x2.1 [1]) λ(x3:Q03)=> .an (Q4p x3) (.lv (Q4c x3) λ(x4:List Int)=> .br x0.2 (.br ((x2.2.length:Int)==(3:Int)) (.br ((x4.length:Int)==(1:Int)) (.cn (Nat.beq 1 1&&Nat.blt 0 1&&decide ((0:Int)≤(0:Int)∧0<(x4.length:Int))) (.br (x4.getD (Int.toNat 0) (0:Int)==(1:Int)) (.br (x3.C1==1) (.br (x3.C8==3) (.an (Q7b x3 1) (.lv (Q7p x3 1) λ(x5:Bool)=> .br x5 (.an (Q7b x3 0) (.lv (Q7p x3 0) λ(x6:Bool)=> .br (!x6) (.an (Q6f x3 5) (.lv (Q73 x3 5) λ(x7:Int)=> .lf (x7==1))) (.lf false))) (.lf false))) (.lf false)) (.lf false)) (.lf false))) (.lf false)) (.lf false)) (.lf false))))))
def Q7j:Bool:=(Q8q).m
abbrev Q4a:Prop:=(Q8q).p
def Z3g:Q09:=mkP 40 [] true [] [] (λargs rows=>Q4a) (λargs rows=>Q7j) (λX=> .bool X) (λX=>[])
theorem Qyu:Q01 Tryz.prog Z3g:=Q0j drawn Q0g (.cons Qhj (.cons Qov (.cons Qhd (.cons Qk (.cons Qer (.cons Qwo (.cons Qmy (.nil)))))))) Tryz.func40 Tryz.call40 (λargs rows=>Q8q) [] [] 2 (λ_ _ _=>by kernel_rfl) (λ_ _=>rfl) (λ_ _ h=>h) (λ_ X=>by kernel_rfl)
def Q47(a:(List Int))(b:(List Int))(c:Q03)(z:(Int)):Nat:=(a.length-z).toNat
def Q8u(a:(List Int))(b:(List Int))(c:Q03):Tree Bool:=
.br ((a.length:Int) !=(b.length:Int)) (.lf false) (.br ((a.length:Int) !=wrap i64 ((c.A7.length:Int)*(32:Int))) (.lf false) (.lp inferInstance (Q47 a b c 0+1) ((((Els.Nil (Els.ints u32 a)∨rE (1:Nat))∧rE (a:List Int))∧((Els.Nil (Els.ints u32 b)∨rE (1:Nat))∧rE (b:List Int))∧(rE (0:Nat)∧rE (0:Nat))∧rE (0:Int)∧True)∧(((Els.Nil (Els.bools c.A7)∨rE (1:Nat))∧rE c.A7)∧rE c.C1∧rE c.C8∧True)∧True) 0 λ(v0:Int)=> .br (decide (v0<(a.length:Int))) (.cn (Nat.beq 1 1&&Nat.blt 0 1&&decide (0≤wrap i64 (Int.tdiv v0 32)∧wrap i64 (Int.tdiv v0 32)<(c.A7.length:Int))) (let T1:Tree ((Int)⊕(Bool)):= .nx ((((Els.Nil (Els.ints u32 a)∨rE (1:Nat))∧rE (a:List Int))∧((Els.Nil (Els.ints u32 b)∨rE (1:Nat))∧rE (b:List Int))∧(rE (0:Nat)∧rE (0:Nat))∧rE ((wrap i64 (v0+1)):Int)∧True)∧(((Els.Nil (Els.bools c.A7)∨rE (1:Nat))∧rE c.A7)∧rE c.C1∧rE c.C8∧True)∧True) (Sum.inl (wrap i64 (v0+1))); .br (!c.A7.getD (Int.toNat (wrap i64 (Int.tdiv v0 32))) false) (.cn (Nat.beq 1 1&&Nat.blt 0 1&&decide (0≤v0∧v0<(a.length:Int))) (.cn (Nat.beq 1 1&&Nat.blt 0 1&&decide (0≤v0∧v0<(b.length:Int))) (.br (a.getD v0.toNat 0 !=b.getD v0.toNat 0) (.lf (Sum.inr false)) T1))) T1)) (.lf (Sum.inr true))))
def Qgi(a:(List Int))(b:(List Int))(c:Q03):Bool:=(Q8u a b c).m
abbrev Q96(a:(List Int))(b:(List Int))(c:Q03):Prop:=(Q8u a b c).p
def Z06:LInv:={
 α:=(Int)
 F:=λst a=>([(0,(lk st 0)),(1,(lk st 1)),(5, .ptr 0 0 0),(7, .int i64 a)],[⟨true,76,3, .gen [[(cT st 5 0),(cT st 5 1),(cT st 5 2)]]⟩])
 a0:=λst=>(lk st 7).toInt
 ex0:=λst=>[]++[(Q0o (lk st 5) (st.rows.length+0))]
 next:=λst=>(lk st 7).toInt
 ex:=λst=>[]++[(Q0o (lk st 5) (st.rows.length+0))]}
def Qtt:List (Nat×LInv):=[(4,Z06)]
def Z3p:Q09:=mkP 48 [] true [.one (.ints .u32), .one (.ints .u32), .agg Q03.sig] [] (λargs rows=>Q96 (argL .u32 args 0) (argL .u32 args 1) (Q03.of (args.getD 2 .dead).cells)) (λargs rows=>Qgi (argL .u32 args 0) (argL .u32 args 1) (Q03.of (args.getD 2 .dead).cells)) (λX=> .bool X) (λX=>[])
theorem Z05:Q01 Tryz.prog Z3p:=Q0j drawn Q0g (.nil) Tryz.func48 Tryz.call48 (λargs rows=>Q8u (argL .u32 args 0) (argL .u32 args 1) (Q03.of (args.getD 2 .dead).cells)) [] Qtt 3 (λ_ _ _=>by kernel_rfl) (λ_ _=>rfl) (λ_ _ h=>h) (λ_ X=>by kernel_rfl)
def Q3x(kind:Int)(prog:(List Int))(rounds:(List Int))(z:(List Int)×(Int)×(Int)×Q00×Q03):Nat:=(9-z.2.2.1).toNat
def Q3w(kind:Int)(prog:(List Int))(rounds:(List Int))(z:(Int)×Q00):Nat:=(40-z.1).toNat
def Q2b(kind:Int)(prog:(List Int))(rounds:(List Int)):Tree Bool:=
.br (decide ((prog.length:Int)>(60:Int))) (.an Q4a (.lv Q7j λ(x0:Bool)=> .lf x0)) (.br (decide ((rounds.length:Int)>(8:Int))) (.an Q4a (.lv Q7j λ(x1:Bool)=> .lf x1)) (.an (Qhn kind prog) (.lv (Qs8 kind prog) λ(x2:Q00)=> .lv (Q0f x2.Mem) λ(x3:Int)=> .an (Q6c x3) (.lv (Q61 x3) λ(x4:Q03×Bool)=> .lv (Q0f x2.Mem) λ(x5:Int)=> .an (Qa1 x5) (.lv (Qcd x5) λ(x6:List Int)=> .br (!x4.2) (.lf false) (.lp inferInstance (Q3x kind prog rounds (x6,0,0,x2,x4.1)+1) ((((Els.Nil (Els.ints i64 rounds)∨rE (1:Nat))∧rE (rounds:List Int))∧(rE (0:Nat)∧rE (0:Nat))∧(rE (0:Nat)∧rE (0:Nat))∧rE (x6:List Int)∧rE (0:Int)∧rE (0:Int)∧True)∧(mE x2 (rE x2.Mem) True)∧(True∧rE x4.1.C1∧rE x4.1.C8∧True)∧rE x4.1.A7∧True) (x6,0,0,x2,x4.1) λ(v0:List Int×Int×Int×Q00×Q03)=> .br (decide (v0.2.2.1≤(rounds.length:Int))) (.an (Q4p v0.2.2.2.2) (.lv (Q4c v0.2.2.2.2) λ(x7:List Int)=> .an (Q64 v0.2.2.2.2 v0.2.2.2.1.Mem) (.lv (Q5x v0.2.2.2.2 v0.2.2.2.1.Mem) λ(x8:Q03×List Q0i)=> .br ((x8.2.length:Int) !=(x7.length:Int)) (.lf (Sum.inr false)) (.br (x8.1.C1 !=wrap i64 (v0.2.2.1+1)) (.lf (Sum.inr false)) (.br (x8.1.C8 !=wrap i64 (v0.2.1+(x8.2.length:Int))) (.lf (Sum.inr false)) (.an (Q9m v0.1 x8.2) (.lv (Qc7 v0.1 x8.2) λ(x9:List Int×Bool)=> .br (!x9.2) (.lf (Sum.inr false)) (.an (Q96 v0.2.2.2.1.Mem x9.1 x8.1) (.lv (Qgi v0.2.2.2.1.Mem x9.1 x8.1) λ(x10:Bool)=> .br (!x10) (.lf (Sum.inr false)) (.br (v0.2.2.1==(rounds.length:Int)) (.an (Q52 v0.2.2.2.1.Mem x9.1) (.lv (Qfa v0.2.2.2.1.Mem x9.1) λ(x11:Bool)=> .br x11 (.an Q4a (.lv Q7j λ(x12:Bool)=> .lf (Sum.inr x12))) (.lf (Sum.inr false)))) (.lp inferInstance (Q3w kind prog rounds (0,v0.2.2.2.1)+1) ((((Els.Nil (Els.ints i64 rounds)∨rE (1:Nat))∧rE (rounds:List Int))∧(rE (0:Nat)∧rE (0:Nat))∧(rE (0:Nat)∧rE (0:Nat))∧True∧rE x8.1.C8∧rE v0.2.2.1∧((Els.Nil (Els.ints u32 v0.2.2.2.1.Mem)∨rE (1:Nat))∧rE v0.2.2.2.1.Mem)∧rE (0:Int)∧(rE (0:Nat)∧rE (1:Nat))∧rE x8.1.C1∧rE v0.2.2.1∧rE ((wrap i64 (v0.2.2.1+1)):Int)∧rE ((x8.1.C1 !=wrap i64 (v0.2.2.1+1)):Bool)∧(rE (0:Nat)∧rE (2:Nat))∧rE x8.1.C8∧rE v0.2.1∧True∧rE ((x8.2.length:Int):Int)∧rE ((wrap i64 (v0.2.1+(x8.2.length:Int))):Int)∧rE ((x8.1.C8 !=wrap i64 (v0.2.1+(x8.2.length:Int))):Bool)∧(rE (0:Nat)∧rE (2:Nat))∧rE x8.1.C8∧(rE (0:Nat)∧rE (25:Nat))∧((Els.Nil (Els.ints u32 v0.2.2.2.1.Mem)∨rE (1:Nat))∧rE v0.2.2.2.1.Mem)∧True∧rE (x10:Bool)∧eqAt Bool (!x10) !x10∧True)∧(mE v0.2.2.2.1 (((Els.Nil (Els.ints u32 v0.2.2.2.1.Mem)∨eqAt Nat 1 1)∧rE v0.2.2.2.1.Mem)) True)∧(True∧rE x8.1.C1∧rE x8.1.C8∧True)∧rE x8.1.A7∧rE x9.1∧(True∧rE x8.1.C1∧rE x8.1.C8∧True)∧rE x8.2∧True) (0,v0.2.2.2.1) λ(v1:Int×Q00)=> .cn (Nat.beq 1 1&&Nat.blt 0 1&&decide (0≤v0.2.2.1∧v0.2.2.1<(rounds.length:Int))) (let E1:=rounds.getD v0.2.2.1.toNat 0; .an (Q28 E1 30) (.lv (Q3d E1 30) λ(x13:Int)=> .br (decide (v1.1<x13)) (.an (Qhg v1.2 (wrap u32 v1.1)) (.lv (Qsh v1.2 (wrap u32 v1.1)) λ(x14:Q00×List Q0e)=> .nx ((((Els.Nil (Els.ints i64 rounds)∨rE (1:Nat))∧rE (rounds:List Int))∧(rE (0:Nat)∧rE (0:Nat))∧(rE (0:Nat)∧rE (0:Nat))∧True∧rE x8.1.C8∧rE v0.2.2.1∧((Els.Nil (Els.ints u32 v0.2.2.2.1.Mem)∨rE (1:Nat))∧rE v0.2.2.2.1.Mem)∧rE ((wrap i64 (v1.1+1)):Int)∧(rE (0:Nat)∧rE (1:Nat))∧rE x8.1.C1∧rE v0.2.2.1∧rE ((wrap i64 (v0.2.2.1+1)):Int)∧rE ((x8.1.C1 !=wrap i64 (v0.2.2.1+1)):Bool)∧(rE (0:Nat)∧rE (2:Nat))∧rE x8.1.C8∧rE v0.2.1∧True∧rE ((x8.2.length:Int):Int)∧rE ((wrap i64 (v0.2.1+(x8.2.length:Int))):Int)∧rE ((x8.1.C8 !=wrap i64 (v0.2.1+(x8.2.length:Int))):Bool)∧(rE (0:Nat)∧rE (2:Nat))∧rE x8.1.C8∧(rE (0:Nat)∧rE (25:Nat))∧((Els.Nil (Els.ints u32 v0.2.2.2.1.Mem)∨rE (1:Nat))∧rE v0.2.2.2.1.Mem)∧True∧rE (x10:Bool)∧eqAt Bool (!x10) !x10∧True)∧(mE x14.1 (((Els.Nil (Els.ints u32 x14.1.Mem)∨rE (1:Nat))∧rE x14.1.Mem)) True)∧(True∧rE x8.1.C1∧rE x8.1.C8∧True)∧rE x8.1.A7∧rE x9.1∧(True∧rE x8.1.C1∧rE x8.1.C8∧True)∧rE x8.2∧True) (Sum.inl (wrap i64 (v1.1+1),x14.1)))) (.an (Q8p v0.2.2.2.1.Mem v1.2.Mem) (.lv (Q6n v0.2.2.2.1.Mem v1.2.Mem) λ(x15:List Int)=> .an (Q7a x8.1 x15) (.lv (Q7n x8.1 x15) λ(x16:Q03)=> .an (Q96 v1.2.Mem x9.1 x16) (.lv (Qgi v1.2.Mem x9.1 x16) λ(x17:Bool)=> .br (!x17) (.lf (Sum.inr (Sum.inr false))) (.nx ((((Els.Nil (Els.ints i64 rounds)∨rE (1:Nat))∧rE (rounds:List Int))∧(rE (0:Nat)∧rE (0:Nat))∧(rE (0:Nat)∧rE (0:Nat))∧rE x9.1∧rE x8.1.C8∧rE ((wrap i64 (v0.2.2.1+1)):Int)∧True)∧(mE v1.2 (((Els.Nil (Els.ints u32 v1.2.Mem)∨eqAt Nat 1 1)∧rE v1.2.Mem)) True)∧(True∧rE x16.C1∧rE x16.C8∧True)∧rE x16.A7∧True) (Sum.inr (Sum.inl (x9.1,x8.1.C8,wrap i64 (v0.2.2.1+1),v1.2,x16))))))))))))))))))))) (.lf (Sum.inr false))))))))
def Q7i(kind:Int)(prog:(List Int))(rounds:(List Int)):Bool:=(Q2b kind prog rounds).m
abbrev Qh(kind:Int)(prog:(List Int))(rounds:(List Int)):Prop:=(Q2b kind prog rounds).p
def Qi7:LInv:={
 α:=(List Int)×(Int)×(Int)×Q00×Q03
 F:=λst a=>([(2,(lk st 2)),(7, .ptr 0 0 0),(8, .ptr 1 0 0),(10, .sl 1 (.ints u32 a.1) false),(11, .int i64 a.2.1),(12, .int i64 a.2.2.1)],[⟨true,43,49, .gen [[.int u32 a.2.2.2.1.B1.X.a0, .int u32 a.2.2.2.1.B1.X.a1, .int u32 a.2.2.2.1.B1.X.a2, .int u32 a.2.2.2.1.B1.X.a3, .int u32 a.2.2.2.1.B1.X.a4, .int u32 a.2.2.2.1.B1.X.a5, .int u32 a.2.2.2.1.B1.X.a6, .int u32 a.2.2.2.1.B1.X.a7, .int u32 a.2.2.2.1.B1.X.a8, .int u32 a.2.2.2.1.B1.X.a9, .int u32 a.2.2.2.1.B1.X.a10, .int u32 a.2.2.2.1.B1.X.a11, .int u32 a.2.2.2.1.B1.X.a12, .int u32 a.2.2.2.1.B1.X.a13, .int u32 a.2.2.2.1.B1.X.a14, .int u32 a.2.2.2.1.B1.X.a15, .int u32 a.2.2.2.1.B1.Pc, .int u32 a.2.2.2.1.B1.B5.a0, .int u32 a.2.2.2.1.B1.B5.a1, .int u32 a.2.2.2.1.B1.B5.a2, .int u32 a.2.2.2.1.B1.B5.a3, .int u32 a.2.2.2.1.B1.B5.a4, .int u32 a.2.2.2.1.B1.B5.a5, .int u32 a.2.2.2.1.B1.B5.a6, .int u32 a.2.2.2.1.B1.B5.a7, .sl 1 (.ints u32 a.2.2.2.1.Mem) false, .str a.2.2.2.1.A1.D0, .bool a.2.2.2.1.A9.D6, .int u32 a.2.2.2.1.A9.C4, .bool a.2.2.2.1.A9.D4, .int u32 a.2.2.2.1.B0.Blocks, .int u32 a.2.2.2.1.B0.B6, .int u32 a.2.2.2.1.B0.Frame, .int i64 a.2.2.2.1.B0.C0, .int i64 a.2.2.2.1.B0.D7, .int u32 a.2.2.2.1.B0.B3, .int u32 a.2.2.2.1.B0.B4, .str a.2.2.2.1.B0.B7, .int u32 a.2.2.2.1.C2.Frame, .int u32 a.2.2.2.1.C2.D9, .bool a.2.2.2.1.C2.B8, .int u32 a.2.2.2.1.C2.B9, .bool a.2.2.2.1.C2.B2, .int u32 a.2.2.2.1.C2.E0, .int u32 a.2.2.2.1.A0.C3, .int u32 a.2.2.2.1.A0.C5, .int u64 a.2.2.2.1.A4, .bool a.2.2.2.1.A2, .bool a.2.2.2.1.A6]]⟩,⟨true,76,3, .gen [[.all 2, .int i64 a.2.2.2.2.C1, .int i64 a.2.2.2.2.C8]]⟩,⟨false,4,1, .bools a.2.2.2.2.A7⟩])
 a0:=λst=>((frzI u32 st.rows (lk st 10)),(lk st 11).toInt,(lk st 12).toInt,(⟨(⟨(⟨(cT st 7 0).toInt,(cT st 7 1).toInt,(cT st 7 2).toInt,(cT st 7 3).toInt,(cT st 7 4).toInt,(cT st 7 5).toInt,(cT st 7 6).toInt,(cT st 7 7).toInt,(cT st 7 8).toInt,(cT st 7 9).toInt,(cT st 7 10).toInt,(cT st 7 11).toInt,(cT st 7 12).toInt,(cT st 7 13).toInt,(cT st 7 14).toInt,(cT st 7 15).toInt⟩:(A16 Int)),(cT st 7 16).toInt,(⟨(cT st 7 17).toInt,(cT st 7 18).toInt,(cT st 7 19).toInt,(cT st 7 20).toInt,(cT st 7 21).toInt,(cT st 7 22).toInt,(cT st 7 23).toInt,(cT st 7 24).toInt⟩:(A8 Int))⟩:Q02),(frzI u32 st.rows (cT st 7 25)),(⟨(cT st 7 26).toStr⟩:Q0a),(⟨(cT st 7 27).toBool,(cT st 7 28).toInt,(cT st 7 29).toBool⟩:Q0k),(⟨(cT st 7 30).toInt,(cT st 7 31).toInt,(cT st 7 32).toInt,(cT st 7 33).toInt,(cT st 7 34).toInt,(cT st 7 35).toInt,(cT st 7 36).toInt,(cT st 7 37).toStr⟩:Q0b),(⟨(cT st 7 38).toInt,(cT st 7 39).toInt,(cT st 7 40).toBool,(cT st 7 41).toInt,(cT st 7 42).toBool,(cT st 7 43).toInt⟩:Q0m),(⟨(cT st 7 44).toInt,(cT st 7 45).toInt⟩:Q07),(cT st 7 46).toInt,(cT st 7 47).toBool,(cT st 7 48).toBool⟩:Q00),(⟨(Qrm st.rows (Q0o (cT st 8 0) 1000000)),(cT st 8 1).toInt,(cT st 8 2).toInt⟩:Q03))
 ex0:=λst=>[]++[(Q0o (lk st 7) (st.rows.length+0)),(Q0o (lk st 8) (st.rows.length+1)),(Q0o (cT st 8 0) (st.rows.length+2))]
 next:=λst=>((frzI u32 st.rows (lk st 10)),(lk st 11).toInt,(lk st 12).toInt,(⟨(⟨(⟨(cT st 7 0).toInt,(cT st 7 1).toInt,(cT st 7 2).toInt,(cT st 7 3).toInt,(cT st 7 4).toInt,(cT st 7 5).toInt,(cT st 7 6).toInt,(cT st 7 7).toInt,(cT st 7 8).toInt,(cT st 7 9).toInt,(cT st 7 10).toInt,(cT st 7 11).toInt,(cT st 7 12).toInt,(cT st 7 13).toInt,(cT st 7 14).toInt,(cT st 7 15).toInt⟩:(A16 Int)),(cT st 7 16).toInt,(⟨(cT st 7 17).toInt,(cT st 7 18).toInt,(cT st 7 19).toInt,(cT st 7 20).toInt,(cT st 7 21).toInt,(cT st 7 22).toInt,(cT st 7 23).toInt,(cT st 7 24).toInt⟩:(A8 Int))⟩:Q02),(frzI u32 st.rows (cT st 7 25)),(⟨(cT st 7 26).toStr⟩:Q0a),(⟨(cT st 7 27).toBool,(cT st 7 28).toInt,(cT st 7 29).toBool⟩:Q0k),(⟨(cT st 7 30).toInt,(cT st 7 31).toInt,(cT st 7 32).toInt,(cT st 7 33).toInt,(cT st 7 34).toInt,(cT st 7 35).toInt,(cT st 7 36).toInt,(cT st 7 37).toStr⟩:Q0b),(⟨(cT st 7 38).toInt,(cT st 7 39).toInt,(cT st 7 40).toBool,(cT st 7 41).toInt,(cT st 7 42).toBool,(cT st 7 43).toInt⟩:Q0m),(⟨(cT st 7 44).toInt,(cT st 7 45).toInt⟩:Q07),(cT st 7 46).toInt,(cT st 7 47).toBool,(cT st 7 48).toBool⟩:Q00),(⟨(Qrm st.rows (Q0o (cT st 8 0) 1000000)),(cT st 8 1).toInt,(cT st 8 2).toInt⟩:Q03))
 ex:=λst=>[]++[(Q0o (lk st 7) (st.rows.length+0)),(Q0o (lk st 8) (st.rows.length+1)),(Q0o (cT st 8 0) (st.rows.length+2))]}
def Qi8:LInv:={
 α:=(Int)×Q00
 F:=λst a=>([(2,(lk st 2)),(7, .ptr 0 0 0),(8, .ptr 1 0 0),(10, .all 3),(11,(lk st 11)),(12,(lk st 12)),(16,(lk st 16)),(17, .int i64 a.1),(64, .ptr 4 0 1),(65,(lk st 65)),(66,(lk st 66)),(67,(lk st 67)),(68,(lk st 68)),(71, .ptr 4 0 2),(72,(lk st 72)),(73,(lk st 73)),(74, .all 5),(75,(lk st 75)),(76,(lk st 76)),(77,(lk st 77)),(80, .ptr 4 0 2),(81,(lk st 81)),(91, .ptr 0 0 25),(92,(lk st 92)),(93, .all 3),(95,(lk st 95)),(96,(lk st 96))],[⟨true,43,49, .gen [[.int u32 a.2.B1.X.a0, .int u32 a.2.B1.X.a1, .int u32 a.2.B1.X.a2, .int u32 a.2.B1.X.a3, .int u32 a.2.B1.X.a4, .int u32 a.2.B1.X.a5, .int u32 a.2.B1.X.a6, .int u32 a.2.B1.X.a7, .int u32 a.2.B1.X.a8, .int u32 a.2.B1.X.a9, .int u32 a.2.B1.X.a10, .int u32 a.2.B1.X.a11, .int u32 a.2.B1.X.a12, .int u32 a.2.B1.X.a13, .int u32 a.2.B1.X.a14, .int u32 a.2.B1.X.a15, .int u32 a.2.B1.Pc, .int u32 a.2.B1.B5.a0, .int u32 a.2.B1.B5.a1, .int u32 a.2.B1.B5.a2, .int u32 a.2.B1.B5.a3, .int u32 a.2.B1.B5.a4, .int u32 a.2.B1.B5.a5, .int u32 a.2.B1.B5.a6, .int u32 a.2.B1.B5.a7, .sl 1 (.ints u32 a.2.Mem) false, .str a.2.A1.D0, .bool a.2.A9.D6, .int u32 a.2.A9.C4, .bool a.2.A9.D4, .int u32 a.2.B0.Blocks, .int u32 a.2.B0.B6, .int u32 a.2.B0.Frame, .int i64 a.2.B0.C0, .int i64 a.2.B0.D7, .int u32 a.2.B0.B3, .int u32 a.2.B0.B4, .str a.2.B0.B7, .int u32 a.2.C2.Frame, .int u32 a.2.C2.D9, .bool a.2.C2.B8, .int u32 a.2.C2.B9, .bool a.2.C2.B2, .int u32 a.2.C2.E0, .int u32 a.2.A0.C3, .int u32 a.2.A0.C5, .int u64 a.2.A4, .bool a.2.A2, .bool a.2.A6]]⟩,⟨true,76,3, .gen [[.all 2,(cT st 8 1),(cT st 8 2)]]⟩,⟨false,4,1,esOf st.rows (Q0o (cT st 8 0) 1000000)⟩,⟨false,25,1,esOf st.rows (rN st 10)⟩,⟨true,76,3, .gen [[.all 2,(cT st 64 1),(cT st 64 2)]]⟩,⟨false,210,2,esOf st.rows (rN st 74)⟩])
 a0:=λst=>((lk st 17).toInt,(⟨(⟨(⟨(cT st 7 0).toInt,(cT st 7 1).toInt,(cT st 7 2).toInt,(cT st 7 3).toInt,(cT st 7 4).toInt,(cT st 7 5).toInt,(cT st 7 6).toInt,(cT st 7 7).toInt,(cT st 7 8).toInt,(cT st 7 9).toInt,(cT st 7 10).toInt,(cT st 7 11).toInt,(cT st 7 12).toInt,(cT st 7 13).toInt,(cT st 7 14).toInt,(cT st 7 15).toInt⟩:(A16 Int)),(cT st 7 16).toInt,(⟨(cT st 7 17).toInt,(cT st 7 18).toInt,(cT st 7 19).toInt,(cT st 7 20).toInt,(cT st 7 21).toInt,(cT st 7 22).toInt,(cT st 7 23).toInt,(cT st 7 24).toInt⟩:(A8 Int))⟩:Q02),(slI u32 (cT st 7 25)),(⟨(cT st 7 26).toStr⟩:Q0a),(⟨(cT st 7 27).toBool,(cT st 7 28).toInt,(cT st 7 29).toBool⟩:Q0k),(⟨(cT st 7 30).toInt,(cT st 7 31).toInt,(cT st 7 32).toInt,(cT st 7 33).toInt,(cT st 7 34).toInt,(cT st 7 35).toInt,(cT st 7 36).toInt,(cT st 7 37).toStr⟩:Q0b),(⟨(cT st 7 38).toInt,(cT st 7 39).toInt,(cT st 7 40).toBool,(cT st 7 41).toInt,(cT st 7 42).toBool,(cT st 7 43).toInt⟩:Q0m),(⟨(cT st 7 44).toInt,(cT st 7 45).toInt⟩:Q07),(cT st 7 46).toInt,(cT st 7 47).toBool,(cT st 7 48).toBool⟩:Q00))
 ex0:=λst=>[]++[(Q0o (lk st 7) (st.rows.length+0)),(Q0o (lk st 8) (st.rows.length+1)),(Q0o (cT st 8 0) (st.rows.length+2)),(Q0o (lk st 10) (st.rows.length+3)),(Q0o (lk st 64) (st.rows.length+4)),(Q0o (lk st 74) (st.rows.length+5))]
 next:=λst=>((lk st 17).toInt,(⟨(⟨(⟨(cT st 7 0).toInt,(cT st 7 1).toInt,(cT st 7 2).toInt,(cT st 7 3).toInt,(cT st 7 4).toInt,(cT st 7 5).toInt,(cT st 7 6).toInt,(cT st 7 7).toInt,(cT st 7 8).toInt,(cT st 7 9).toInt,(cT st 7 10).toInt,(cT st 7 11).toInt,(cT st 7 12).toInt,(cT st 7 13).toInt,(cT st 7 14).toInt,(cT st 7 15).toInt⟩:(A16 Int)),(cT st 7 16).toInt,(⟨(cT st 7 17).toInt,(cT st 7 18).toInt,(cT st 7 19).toInt,(cT st 7 20).toInt,(cT st 7 21).toInt,(cT st 7 22).toInt,(cT st 7 23).toInt,(cT st 7 24).toInt⟩:(A8 Int))⟩:Q02),(slI u32 (cT st 7 25)),(⟨(cT st 7 26).toStr⟩:Q0a),(⟨(cT st 7 27).toBool,(cT st 7 28).toInt,(cT st 7 29).toBool⟩:Q0k),(⟨(cT st 7 30).toInt,(cT st 7 31).toInt,(cT st 7 32).toInt,(cT st 7 33).toInt,(cT st 7 34).toInt,(cT st 7 35).toInt,(cT st 7 36).toInt,(cT st 7 37).toStr⟩:Q0b),(⟨(cT st 7 38).toInt,(cT st 7 39).toInt,(cT st 7 40).toBool,(cT st 7 41).toInt,(cT st 7 42).toBool,(cT st 7 43).toInt⟩:Q0m),(⟨(cT st 7 44).toInt,(cT st 7 45).toInt⟩:Q07),(cT st 7 46).toInt,(cT st 7 47).toBool,(cT st 7 48).toBool⟩:Q00))
 ex:=λst=>[]++[(Q0o (lk st 7) (st.rows.length+0)),(Q0o (lk st 8) (st.rows.length+1)),(Q0o (cT st 8 0) (st.rows.length+2)),(Q0o (lk st 10) (st.rows.length+3)),(Q0o (lk st 64) (st.rows.length+4)),(Q0o (lk st 74) (st.rows.length+5))]}
def Qff:List (Nat×LInv):=[(10,Qi7),(24,Qi8)]
def Qie:Q09:=mkP 6 [] true [.one (.int .i64), .one (.ints .i64), .one (.ints .i64)] [] (λargs rows=>Qh (argI args 0) (argL .i64 args 1) (argL .i64 args 2)) (λargs rows=>Q7i (argI args 0) (argL .i64 args 1) (argL .i64 args 2)) (λX=> .bool X) (λX=>[])
theorem Qi6:Q01 Tryz.prog Qie:=Q0j drawn Q0g (.cons Qyu (.cons Qyf (.cons Qhj (.cons Q1a (.cons Qov (.cons Qer (.cons Qhd (.cons Qte (.cons Z05 (.cons Qrc (.cons Qgg (.cons Quz (.cons Qk (.cons Qq1 (.nil))))))))))))))) Tryz.func6 Tryz.call6 (λargs rows=>Q2b (argI args 0) (argL .i64 args 1) (argL .i64 args 2)) [] Qff 3 (λ_ _ _=>by kernel_rfl) (λ_ _=>rfl) (λ_ _ h=>h) (λ_ X=>by kernel_rfl)
end
end Go.Proofs.YtmalmklaonainaaGreat

/-
  A part of the proof.
-/
import Derived.Test.YtpcbkbalabgnlaaGreatRecordTimerBase
import Derived.Test.YtpcbkbalabgnlaaGreatRecordTimerZd
import Derived.Test.YtpcbkbalabgnlaaGreatRecordTimerYe
import Derived.Test.YtpcbkbalabgnlaaGreatRecordTimerZa
import Derived.Test.YtpcbkbalabgnlaaGreatRecordTimerZg
import Derived.Test.YtpcbkbalabgnlaaGreatRecordTimerZc
import Derived.Test.YtpcbkbalabgnlaaGreatRecordTimerYa
import Derived.Test.YtpcbkbalabgnlaaGreatRecordTimerYd
import Derived.Test.YtpcbkbalabgnlaaGreatRecordTimerYc
set_option linter.unusedVariables false
set_option linter.unusedSimpArgs false
namespace Go.Proofs.YtpcbkbalabgnlaaGreat
open Go Go.GD Go.IntKind
set_option maxRecDepth 100000
noncomputable section
instance sumInhZi {α β:Type} [Inhabited β]:Inhabited (α⊕β):=⟨.inr default⟩
def Qln(src:(List UInt8))(z:(Int)×(List Int)):Nat:=((Qsj src).2.1.length-z.1).toNat
def Qm7(src:(List UInt8))(v0:Int×List Int)(z:(Int)×(List Int)):Nat:=(1024-z.1).toNat
def Q87(src:(List UInt8)):Tree ((List Int)×Q19):=
.an (Qhq src) (.lv (Qsj src) λ(x0:List Q1y×List Q06×Q19)=> .br (x0.2.2.Err !=0) (.lf ([],x0.2.2)) (.lp inferInstance (Qln src (0,[])+1) ((True∧(rE (0:Nat)∧rE (0:Nat))∧True∧True∧True∧rE (0:Int)∧True)∧(rE (0:Int)∧rE (0:Int)∧True)∧rE x0.1∧rE x0.2.1∧rE ([]:List Int)∧True) (0,[]) λ(v0:Int×List Int)=> .br (decide (v0.1<(x0.2.1.length:Int))) (.cn (Nat.beq 6 6&&Nat.blt 0 6&&decide (0≤v0.1∧v0.1<(x0.2.1.length:Int))) (let E4:=x0.2.1.getD v0.1.toNat (RK.dflt RK.vmfleetref1Statement);let T1:Tree ((Int×List Int)⊕(((List Int)×Q19))):= .lp inferInstance (Qm7 src v0 (0,v0.2)+1) ((True∧(rE (0:Nat)∧rE (0:Nat))∧True∧True∧True∧rE v0.1∧(rE (0:Nat)∧rE (0:Nat))∧rE (0:Int)∧True)∧(rE (0:Int)∧rE (0:Int)∧True)∧rE x0.1∧rE x0.2.1∧(rE ((x0.2.1.getD v0.1.toNat (RK.dflt RK.vmfleetref1Statement)).what:List UInt8)∧rE ((x0.2.1.getD v0.1.toNat (RK.dflt RK.vmfleetref1Statement)).op:Int)∧((Els.Nil (D.toEs (List.getD (Els.get (Els.recs RK.vmfleetref1Statement x0.2.1) v0.1.toNat) ((0:Nat)+(1:Nat)+(1:Nat)) D.dead))∨rE (3:Nat))∧rE ((x0.2.1.getD v0.1.toNat (RK.dflt RK.vmfleetref1Statement)).l:List (RK.T RK.vmfleetref1Arg)))∧rE ((x0.2.1.getD v0.1.toNat (RK.dflt RK.vmfleetref1Statement)).D7:Int)∧rE ((x0.2.1.getD v0.1.toNat (RK.dflt RK.vmfleetref1Statement)).at_:Int)∧rE ((x0.2.1.getD v0.1.toNat (RK.dflt RK.vmfleetref1Statement)).size:Int)∧True)∧rE v0.2∧True) (0,v0.2) λ(v1:Int×List Int)=> .br (decide (v1.1<E4.size)) (.cn (decide (4*(v1.2.length+1)≤140737488355328)) (.nx ((True∧(rE (0:Nat)∧rE (0:Nat))∧True∧True∧True∧rE v0.1∧(rE (0:Nat)∧rE (0:Nat))∧rE ((wrap i64 (v1.1+1)):Int)∧True)∧(rE (0:Int)∧rE (0:Int)∧True)∧rE x0.1∧rE x0.2.1∧(rE ((x0.2.1.getD v0.1.toNat (RK.dflt RK.vmfleetref1Statement)).what:List UInt8)∧rE ((x0.2.1.getD v0.1.toNat (RK.dflt RK.vmfleetref1Statement)).op:Int)∧((Els.Nil (Els.recs RK.vmfleetref1Arg (x0.2.1.getD v0.1.toNat (RK.dflt RK.vmfleetref1Statement)).l)∨rE (3:Nat))∧rE ((x0.2.1.getD v0.1.toNat (RK.dflt RK.vmfleetref1Statement)).l:List (RK.T RK.vmfleetref1Arg)))∧rE ((x0.2.1.getD v0.1.toNat (RK.dflt RK.vmfleetref1Statement)).D7:Int)∧rE ((x0.2.1.getD v0.1.toNat (RK.dflt RK.vmfleetref1Statement)).at_:Int)∧rE ((x0.2.1.getD v0.1.toNat (RK.dflt RK.vmfleetref1Statement)).size:Int)∧True)∧rE ((v1.2++[0]):List Int)∧True) (Sum.inl (wrap i64 (v1.1+1),v1.2++[0])))) (.nx ((True∧(rE (0:Nat)∧rE (0:Nat))∧True∧True∧True∧rE ((wrap i64 (v0.1+1)):Int)∧True)∧(rE (0:Int)∧rE (0:Int)∧True)∧rE x0.1∧rE x0.2.1∧rE v1.2∧True) (Sum.inr (Sum.inl (wrap i64 (v0.1+1),v1.2))));let E5:=Nat.beq 3 3&&Nat.blt 0 3&&decide ((0:Int)≤(0:Int)∧0<(↑(List.length E4.l):Int));let E7:=List.getD E4.l (Int.toNat 0) (RK.dflt RK.vmfleetref1Arg);let E8:=decide (4*(v0.2.length+1)≤140737488355328);let T2:Tree ((Int×List Int)⊕(((List Int)×Q19))):= .cn E5 (.cn (Nat.beq 3 3&&Nat.blt 0 3&&decide ((0:Int)≤(1:Int)∧1<(↑(List.length E4.l):Int))) (.lv (Q1i {Op:=16,A:=E7.reg,B:=(List.getD E4.l (Int.toNat 1) (RK.dflt RK.vmfleetref1Arg)).reg,C:=0,Imm:=0}) λ(x4:Int×Bool)=> .cn E8 (.nx ((True∧(rE (0:Nat)∧rE (0:Nat))∧True∧True∧True∧rE ((wrap i64 (v0.1+1)):Int)∧True)∧(rE (0:Int)∧rE (0:Int)∧True)∧rE x0.1∧rE x0.2.1∧rE ((v0.2++[x4.1]):List Int)∧True) (Sum.inl (wrap i64 (v0.1+1),v0.2++[x4.1])))));let T3:Tree ((Int×List Int)⊕(((List Int)×Q19))):= .lv (Q1i {Op:=16,A:=0,B:=0,C:=0,Imm:=0}) λ(x5:Int×Bool)=> .cn E8 (.nx ((True∧(rE (0:Nat)∧rE (0:Nat))∧True∧True∧True∧rE ((wrap i64 (v0.1+1)):Int)∧True)∧(rE (0:Int)∧rE (0:Int)∧True)∧rE x0.1∧rE x0.2.1∧rE ((v0.2++[x5.1]):List Int)∧True) (Sum.inl (wrap i64 (v0.1+1),v0.2++[x5.1])));let E9:=decide (E4.what=[(46:UInt8),115,112,97,99,101]);let E10:=decide (E4.what=[(46:UInt8),119,111,114,100]);let E12:=decide (E4.what=[(110:UInt8),111,112]);let E13:=decide (4*(v0.2.length+2)≤140737488355328);let E14:=decide (E4.what=[(108:UInt8),105]);let E15:=decide (E4.what=[(109:UInt8),118]); .br (decide ((↑(List.length E4.l):Int)>(0:Int))) (.cn (Nat.beq 3 3&&Nat.blt 0 3&&decide (0≤wrap i64 ((↑(List.length E4.l):Int)-(1:Int))∧wrap i64 ((↑(List.length E4.l):Int)-(1:Int))<(↑(List.length E4.l):Int))) (let E6:=List.getD E4.l (Int.toNat (wrap i64 ((↑(List.length E4.l):Int)-(1:Int)))) (RK.dflt RK.vmfleetref1Arg); .br (!decide (E6.label=[])) (.an (Q3k x0.1 E6.label) (.lv (Qjf x0.1 E6.label) λ(x1:Int×Bool)=> .br (!x1.2) (.lf (Sum.inr ([],{Err:=302,Line:=E4.D7}))) (.br (decide (E4.op>0)) (let E11:=wrap i64 (wrap i64 (Int.tdiv (wrap i64 x1.1) 4)-E4.at_); .br E10 (.cn E8 (.nx ((True∧(rE (0:Nat)∧rE (0:Nat))∧True∧True∧True∧rE ((wrap i64 (v0.1+1)):Int)∧True)∧(rE (0:Int)∧rE (0:Int)∧True)∧rE x0.1∧rE x0.2.1∧rE ((v0.2++[wrap u32 (wrap i64 (wrap i64 (Int.tdiv (wrap i64 x1.1) 4)-(x0.2.1.getD v0.1.toNat (RK.dflt RK.vmfleetref1Statement)).at_))]):List Int)∧True) (Sum.inl (wrap i64 (v0.1+1),v0.2++[wrap u32 E11])))) (.br E9 T1 (.br E14 (.cn E5 (.lv (Q1i {Op:=24,A:=E7.reg,B:=0,C:=0,Imm:=wrap i32 (ishr u32 (wrap u32 E11) 16)}) λ(x2:Int×Bool)=> .cn E5 (.cn E5 (.lv (Q1i {Op:=18,A:=E7.reg,B:=E7.reg,C:=0,Imm:=wrap i32 (iand u32 (wrap u32 E11) 65535)}) λ(x3:Int×Bool)=> .cn E13 (.nx ((True∧(rE (0:Nat)∧rE (0:Nat))∧True∧True∧True∧rE ((wrap i64 (v0.1+1)):Int)∧True)∧(rE (0:Int)∧rE (0:Int)∧True)∧rE x0.1∧rE x0.2.1∧rE ((v0.2++[x2.1,x3.1]):List Int)∧True) (Sum.inl (wrap i64 (v0.1+1),v0.2++[x2.1,x3.1]))))))) (.br E15 T2 (.br E12 T3 (.an (Q98 E4 E11) (.lv (Qjd E4 E11) λ(x6:Int×Bool)=> .br (!x6.2) (.lf (Sum.inr ([],{Err:=304,Line:=E4.D7}))) (.cn E8 (.nx ((True∧(rE (0:Nat)∧rE (0:Nat))∧True∧True∧True∧rE ((wrap i64 (v0.1+1)):Int)∧True)∧(rE (0:Int)∧rE (0:Int)∧True)∧rE x0.1∧rE x0.2.1∧rE ((v0.2++[x6.1]):List Int)∧True) (Sum.inl (wrap i64 (v0.1+1),v0.2++[x6.1]))))))))))) (.br E10 (.cn E8 (.nx ((True∧(rE (0:Nat)∧rE (0:Nat))∧True∧True∧True∧rE ((wrap i64 (v0.1+1)):Int)∧True)∧(rE (0:Int)∧rE (0:Int)∧True)∧rE x0.1∧rE x0.2.1∧rE ((v0.2++[wrap u32 (wrap i64 x1.1)]):List Int)∧True) (Sum.inl (wrap i64 (v0.1+1),v0.2++[wrap u32 (wrap i64 x1.1)])))) (.br E9 T1 (.br E14 (.cn E5 (.lv (Q1i {Op:=24,A:=E7.reg,B:=0,C:=0,Imm:=wrap i32 (ishr u32 (wrap u32 (wrap i64 x1.1)) 16)}) λ(x7:Int×Bool)=> .cn E5 (.cn E5 (.lv (Q1i {Op:=18,A:=E7.reg,B:=E7.reg,C:=0,Imm:=wrap i32 (iand u32 (wrap u32 (wrap i64 x1.1)) 65535)}) λ(x8:Int×Bool)=> .cn E13 (.nx ((True∧(rE (0:Nat)∧rE (0:Nat))∧True∧True∧True∧rE ((wrap i64 (v0.1+1)):Int)∧True)∧(rE (0:Int)∧rE (0:Int)∧True)∧rE x0.1∧rE x0.2.1∧rE ((v0.2++[x7.1,x8.1]):List Int)∧True) (Sum.inl (wrap i64 (v0.1+1),v0.2++[x7.1,x8.1]))))))) (.br E15 T2 (.br E12 T3 (.an (Q98 E4 (wrap i64 x1.1)) (.lv (Qjd E4 (wrap i64 x1.1)) λ(x11:Int×Bool)=> .br (!x11.2) (.lf (Sum.inr ([],{Err:=304,Line:=E4.D7}))) (.cn E8 (.nx ((True∧(rE (0:Nat)∧rE (0:Nat))∧True∧True∧True∧rE ((wrap i64 (v0.1+1)):Int)∧True)∧(rE (0:Int)∧rE (0:Int)∧True)∧rE x0.1∧rE x0.2.1∧rE ((v0.2++[x11.1]):List Int)∧True) (Sum.inl (wrap i64 (v0.1+1),v0.2++[x11.1])))))))))))))) (.br E10 (.cn E8 (.nx ((True∧(rE (0:Nat)∧rE (0:Nat))∧True∧True∧True∧rE ((wrap i64 (v0.1+1)):Int)∧True)∧(rE (0:Int)∧rE (0:Int)∧True)∧rE x0.1∧rE x0.2.1∧rE ((v0.2++[wrap u32 (List.getD (x0.2.1.getD v0.1.toNat (RK.dflt RK.vmfleetref1Statement)).l (Int.toNat (wrap i64 ((↑(List.length (x0.2.1.getD v0.1.toNat (RK.dflt RK.vmfleetref1Statement)).l):Int)-(1:Int)))) (RK.dflt RK.vmfleetref1Arg)).num]):List Int)∧True) (Sum.inl (wrap i64 (v0.1+1),v0.2++[wrap u32 E6.num])))) (.br E9 T1 (.br E14 (.cn E5 (.lv (Q1i {Op:=24,A:=E7.reg,B:=0,C:=0,Imm:=wrap i32 (ishr u32 (wrap u32 E6.num) 16)}) λ(x12:Int×Bool)=> .cn E5 (.cn E5 (.lv (Q1i {Op:=18,A:=E7.reg,B:=E7.reg,C:=0,Imm:=wrap i32 (iand u32 (wrap u32 E6.num) 65535)}) λ(x13:Int×Bool)=> .cn E13 (.nx ((True∧(rE (0:Nat)∧rE (0:Nat))∧True∧True∧True∧rE ((wrap i64 (v0.1+1)):Int)∧True)∧(rE (0:Int)∧rE (0:Int)∧True)∧rE x0.1∧rE x0.2.1∧rE ((v0.2++[x12.1,x13.1]):List Int)∧True) (Sum.inl (wrap i64 (v0.1+1),v0.2++[x12.1,x13.1]))))))) (.br E15 T2 (.br E12 T3 (.an (Q98 E4 E6.num) (.lv (Qjd E4 E6.num) λ(x16:Int×Bool)=> .br (!x16.2) (.lf (Sum.inr ([],{Err:=304,Line:=E4.D7}))) (.cn E8 (.nx ((True∧(rE (0:Nat)∧rE (0:Nat))∧True∧True∧True∧rE ((wrap i64 (v0.1+1)):Int)∧True)∧(rE (0:Int)∧rE (0:Int)∧True)∧rE x0.1∧rE x0.2.1∧rE ((v0.2++[x16.1]):List Int)∧True) (Sum.inl (wrap i64 (v0.1+1),v0.2++[x16.1]))))))))))))) (.br E10 (.cn E8 (.nx ((True∧(rE (0:Nat)∧rE (0:Nat))∧True∧True∧True∧rE ((wrap i64 (v0.1+1)):Int)∧True)∧(rE (0:Int)∧rE (0:Int)∧True)∧rE x0.1∧rE x0.2.1∧rE ((v0.2++[wrap u32 0]):List Int)∧True) (Sum.inl (wrap i64 (v0.1+1),v0.2++[wrap u32 0])))) (.br E9 T1 (.br E14 (.cn E5 (.lv (Q1i {Op:=24,A:=E7.reg,B:=0,C:=0,Imm:=wrap i32 (ishr u32 (wrap u32 0) 16)}) λ(x17:Int×Bool)=> .cn E5 (.cn E5 (.lv (Q1i {Op:=18,A:=E7.reg,B:=E7.reg,C:=0,Imm:=wrap i32 (iand u32 (wrap u32 0) 65535)}) λ(x18:Int×Bool)=> .cn E13 (.nx ((True∧(rE (0:Nat)∧rE (0:Nat))∧True∧True∧True∧rE ((wrap i64 (v0.1+1)):Int)∧True)∧(rE (0:Int)∧rE (0:Int)∧True)∧rE x0.1∧rE x0.2.1∧rE ((v0.2++[x17.1,x18.1]):List Int)∧True) (Sum.inl (wrap i64 (v0.1+1),v0.2++[x17.1,x18.1]))))))) (.br E15 T2 (.br E12 T3 (.an (Q98 E4 0) (.lv (Qjd E4 0) λ(x21:Int×Bool)=> .br (!x21.2) (.lf (Sum.inr ([],{Err:=304,Line:=E4.D7}))) (.cn E8 (.nx ((True∧(rE (0:Nat)∧rE (0:Nat))∧True∧True∧True∧rE ((wrap i64 (v0.1+1)):Int)∧True)∧(rE (0:Int)∧rE (0:Int)∧True)∧rE x0.1∧rE x0.2.1∧rE ((v0.2++[x21.1]):List Int)∧True) (Sum.inl (wrap i64 (v0.1+1),v0.2++[x21.1]))))))))))))) (.lf (Sum.inr (v0.2,{Err:=0,Line:=0})))))
def Q2y(src:(List UInt8)):((List Int)×Q19):=(Q87 src).m
abbrev Qbv(src:(List UInt8)):Prop:=(Q87 src).p
def Qrg:LInv:={
 α:=(Int)×(List Int)
 F:=λst a=>([(2,(lk st 2)),(3, .ptr 0 0 0),(4, .all 1),(5, .all 2),(7, .all 3),(8, .int i64 a.1)],[⟨true,89,2, .gen [[(cT st 3 0),(cT st 3 1)]]⟩,⟨false,175,2,esOf st.rows (rN st 4)⟩,⟨false,131,6,esOf st.rows (rN st 5)⟩,⟨false,23,1, .ints u32 a.2⟩])
 a0:=λst=>((lk st 8).toInt,(Qlc st.rows (rN st 7)))
 ex0:=λst=>[]++[(Q2b (lk st 3) (st.rows.length+0)),(Q2b (lk st 4) (st.rows.length+1)),(Q2b (lk st 5) (st.rows.length+2)),(Q2b (lk st 7) (st.rows.length+3))]
 next:=λst=>((lk st 8).toInt,(Qlc st.rows (rN st 7)))
 ex:=λst=>[]++[(Q2b (lk st 3) (st.rows.length+0)),(Q2b (lk st 4) (st.rows.length+1)),(Q2b (lk st 5) (st.rows.length+2)),(Q2b (lk st 7) (st.rows.length+3))]}
def Qr4:LInv:={
 α:=(Int)×(List Int)
 F:=λst a=>([(2,(lk st 2)),(3, .ptr 0 0 0),(4, .all 1),(5, .all 2),(7, .all 4),(8,(lk st 8)),(9, .ptr 3 0 0),(14, .int i64 a.1)],[⟨true,89,2, .gen [[(cT st 3 0),(cT st 3 1)]]⟩,⟨false,175,2,esOf st.rows (rN st 4)⟩,⟨false,131,6,esOf st.rows (rN st 5)⟩,⟨true,131,6, .gen [[(cT st 9 0),(cT st 9 1),(cT st 9 2),(cT st 9 3),(cT st 9 4),(cT st 9 5)]]⟩,⟨false,23,1, .ints u32 a.2⟩])
 a0:=λst=>((lk st 14).toInt,(Qlc st.rows (rN st 7)))
 ex0:=λst=>[]++[(Q2b (lk st 3) (st.rows.length+0)),(Q2b (lk st 4) (st.rows.length+1)),(Q2b (lk st 5) (st.rows.length+2)),(Q2b (lk st 9) (st.rows.length+3)),(Q2b (lk st 7) (st.rows.length+4))]
 next:=λst=>((lk st 14).toInt,(Qlc st.rows (rN st 7)))
 ex:=λst=>[]++[(Q2b (lk st 3) (st.rows.length+0)),(Q2b (lk st 4) (st.rows.length+1)),(Q2b (lk st 5) (st.rows.length+2)),(Q2b (lk st 9) (st.rows.length+3)),(Q2b (lk st 7) (st.rows.length+4))]}
def Qnz:List (Nat×LInv):=[(6,Qrg),(29,Qr4)]
def Qv4:Q0f:=mkP 40 [] true [.one (.str)] [] (λargs rows=>Qbv (argS args 0)) (λargs rows=>Q2y (argS args 0)) (λX=> .tup [.all 0, .agg (Q19.cells (X.2))]) (λX=>[⟨false,23,1, .ints .u32 (X.1)⟩])
theorem Qrl:Q08 Tryz.prog Qv4:=Q0z Q0s Q0t (.cons Z4k (.cons Qja (.cons Qld (.cons Z2a (.nil))))) Tryz.func40 Tryz.call40 (λargs rows=>Q87 (argS args 0)) [.row 23 1 (.ints .u32)] Qnz 3 (λ_ _ _=>by kernel_rfl) (λ_ _=>rfl) (λ_ _ h=>h) (λ_ X=>by kernel_rfl)
end
end Go.Proofs.YtpcbkbalabgnlaaGreat
namespace Go.Proofs.YtpcbkbalabgnlaaGreat
open Go Go.GD Go.IntKind
set_option maxRecDepth 100000
noncomputable section
instance sumInhZh {α β:Type} [Inhabited β]:Inhabited (α⊕β):=⟨.inr default⟩
end
end Go.Proofs.YtpcbkbalabgnlaaGreat
namespace Go.Proofs.YtpcbkbalabgnlaaGreat
open Go Go.GD Go.IntKind
set_option maxRecDepth 100000
noncomputable section
instance sumInhZe {α β:Type} [Inhabited β]:Inhabited (α⊕β):=⟨.inr default⟩
end
end Go.Proofs.YtpcbkbalabgnlaaGreat
namespace Go.Proofs.YtpcbkbalabgnlaaGreat
open Go Go.GD Go.IntKind
set_option maxRecDepth 100000
noncomputable section
def Qji(t:Q0g):Tree (Q0g×Bool):=
.br (!t.D4) (.lf (t,false)) (.lf ({D4:=false,C6:=t.C6,D6:=true},true))
def Qgu(t:Q0g):(Q0g×Bool):=(Qji t).m
def Z1v:Q0f:=mkR 91 [] true [.agg Q0g.sig] [] (λargs rows=>Qgu (Q0g.of (args.getD 0 .dead).cells)) (λX=> .tup [.agg (Q0g.cells (X.1)), .bool (X.2)]) (λX=>[])
theorem Qzd:Q08 Tryz.prog Z1v:=Q2c Q0s Q0t (.nil) Tryz.func91 Tryz.call91 (λargs rows=>Qji (Q0g.of (args.getD 0 .dead).cells)) [] [] 2 (λ_ _ _=>by kernel_rfl) (λ_ _=>rfl) (λ_ _=>Tree.free_ok (by kernel_rfl)) (λ_ X=>by kernel_rfl)
def Q6i(c:Q0d)(b:Int):Tree (Q0d×Bool):=
.br (decide ((c.D3.length:Int)≥(16:Int))) (.lf (c,false)) (.cn (decide (c.D3.length+1≤maxLen)) (.lf ({D3:=c.D3++[(λ(n:Int)=>UInt8.ofNat n.toNat) b]},true)))
def Qj1(c:Q0d)(b:Int):(Q0d×Bool):=(Q6i c b).m
abbrev Qdf(c:Q0d)(b:Int):Prop:=(Q6i c b).p
def Qwc:Q0f:=mkP 92 [] true [.agg Q0d.sig, .one (.int .u8)] [] (λargs rows=>Qdf (Q0d.of (args.getD 0 .dead).cells) (argI args 1)) (λargs rows=>Qj1 (Q0d.of (args.getD 0 .dead).cells) (argI args 1)) (λX=> .tup [.agg (Q0d.cells (X.1)), .bool (X.2)]) (λX=>[])
theorem Qtv:Q08 Tryz.prog Qwc:=Q0z Q0s Q0t (.nil) Tryz.func92 Tryz.call92 (λargs rows=>Q6i (Q0d.of (args.getD 0 .dead).cells) (argI args 1)) [] [] 2 (λ_ _ _=>by kernel_rfl) (λ_ _=>rfl) (λ_ _ h=>h) (λ_ X=>by kernel_rfl)
def Q4a(d0:Q0b)(m:(List Int))(e:Q09):Tree (Q0b×(List Int)×Bool):=
let T2:Tree ((Q0b×(List Int)×Bool)):= .an (Q04 m) (.lv (Q02 m) λ(x0:List Int)=> .lf (d0,x0,false)); .br (d0.B8 !=1) T2 (.br (e.C3 !=4) T2 (.br (decide (e.N>1)) T2 (.an (Q04 m) (.lv (Q02 m) λ(x3:List Int)=>let E3:=({Blocks:=d0.Blocks,C0:=d0.C0,B1:=d0.B1,B8:=2,D9:=0,B6:=0,A9:=0,C2:=[]}:Q0b);let E4:=({Blocks:=d0.Blocks,C0:=d0.C0,B1:=d0.B1,B8:=3,D9:=0,B6:=0,A9:=0,C2:=[]}:Q0b);let T1:Tree ((Q0b×(List Int)×Bool)):= .br (!decide (e.C8=[])) (.lf (d0,x3,false)) (.br (e.N==1) (.lf (E3,x3,true)) (.lf (E4,x3,true))); .br (e.N==1) (.br (d0.D9==1) (.lv (Q8a m d0.A9) λ(x4:Bool)=> .br (!x4) (.lf (d0,x3,false)) (.an (Q3e m (wrap i64 d0.A9) e.C8) (.lv (Q2t m (wrap i64 d0.A9) e.C8) λ(x5:List Int×Bool)=> .br (!x5.2) (.lf (d0,x5.1,false)) (.br (e.N==1) (.lf (E3,x5.1,true)) (.lf (E4,x5.1,true)))))) T1) T1))))
def Qe0(d0:Q0b)(m:(List Int))(e:Q09):(Q0b×(List Int)×Bool):=(Q4a d0 m e).m
abbrev Qc(d0:Q0b)(m:(List Int))(e:Q09):Prop:=(Q4a d0 m e).p
def Qt6:Q0f:=mkP 93 [] true [.agg Q0b.sig, .one (.ints .u32), .agg Q09.sig] [] (λargs rows=>Qc (Q0b.of (args.getD 0 .dead).cells) (argL .u32 args 1) (Q09.of (args.getD 2 .dead).cells)) (λargs rows=>Qe0 (Q0b.of (args.getD 0 .dead).cells) (argL .u32 args 1) (Q09.of (args.getD 2 .dead).cells)) (λX=> .tup [.agg (Q0b.cells (X.1)), .all 0, .bool (X.2.2)]) (λX=>[⟨false,23,1, .ints .u32 (X.2.1)⟩])
theorem Qr8:Q08 Tryz.prog Qt6:=Q0z Q0s Q0t (.cons Q0n (.cons Ql5 (.cons Qc4 (.nil)))) Tryz.func93 Tryz.call93 (λargs rows=>Q4a (Q0b.of (args.getD 0 .dead).cells) (argL .u32 args 1) (Q09.of (args.getD 2 .dead).cells)) [.row 23 1 (.ints .u32)] [] 2 (λ_ _ _=>by kernel_rfl) (λ_ _=>rfl) (λ_ _ h=>h) (λ_ X=>by kernel_rfl)
def Q6f(n:Q0m)(m:(List Int))(frame:(List UInt8)):Tree (Q0m×(List Int)×Bool):=
let T1:Tree ((Q0m×(List Int)×Bool)):= .an (Q04 m) (.lv (Q02 m) λ(x0:List Int)=> .lf (n,x0,false)); .br (!n.C4) T1 (.br (decide ((frame.length:Int)<(1:Int))) T1 (.br (decide ((frame.length:Int)>(128:Int))) T1 (.lv (Q97 m n.B9) λ(x3:Bool)=> .br (!x3) T1 (.an (Q5r m (wrap i64 n.B9)) (.lv (Q5n m (wrap i64 n.B9)) λ(x5:List UInt8×Bool)=> .cn (decide (0≤(frame.length:Int)∧(frame.length:Int)≤(x5.1.length:Int)∧(x5.1.length:Int)≤(x5.1.length:Int))) (let E2:=Int.toNat (x5.1.length:Int)-Int.toNat (frame.length:Int);let E3:=List.drop (Int.toNat (frame.length:Int)) x5.1; .cn (decide (frame.length+List.length (List.take E2 E3)≤maxLen)) (.an (Q3e m (wrap i64 n.B9) (frame++List.take E2 E3)) (.lv (Q2t m (wrap i64 n.B9) (frame++List.take E2 E3)) λ(x6:List Int×Bool)=> .lf ({B1:=n.B1,F1:=n.F1,C4:=false,B9:=0,B7:=true,F3:=wrap u32 (frame.length:Int)},x6.1,true)))))))))
def Qhs(n:Q0m)(m:(List Int))(frame:(List UInt8)):(Q0m×(List Int)×Bool):=(Q6f n m frame).m
abbrev Qej(n:Q0m)(m:(List Int))(frame:(List UInt8)):Prop:=(Q6f n m frame).p
def Qyp:Q0f:=mkP 94 [] true [.agg Q0m.sig, .one (.ints .u32), .one (.str)] [] (λargs rows=>Qej (Q0m.of (args.getD 0 .dead).cells) (argL .u32 args 1) (argS args 2)) (λargs rows=>Qhs (Q0m.of (args.getD 0 .dead).cells) (argL .u32 args 1) (argS args 2)) (λX=> .tup [.agg (Q0m.cells (X.1)), .all 0, .bool (X.2.2)]) (λX=>[⟨false,23,1, .ints .u32 (X.2.1)⟩])
theorem Qwl:Q08 Tryz.prog Qyp:=Q0z Q0s Q0t (.cons Qhx (.cons Q0n (.cons Qg9 (.cons Qc4 (.nil))))) Tryz.func94 Tryz.call94 (λargs rows=>Q6f (Q0m.of (args.getD 0 .dead).cells) (argL .u32 args 1) (argS args 2)) [.row 23 1 (.ints .u32)] [] 2 (λ_ _ _=>by kernel_rfl) (λ_ _=>rfl) (λ_ _ h=>h) (λ_ X=>by kernel_rfl)
def Q2r(m:Q00)(e:Q09):Tree (Q00×Bool):=
.an (Q04 m.Mem) (.lv (Q02 m.Mem) λ(x0:List Int)=>let E2:=({B2:=m.B2,Mem:=x0,A2:=m.A2,A7:=m.A7,B0:=m.B0,C5:=m.C5,A1:=m.A1,A4:=m.A4,A3:=m.A3,A6:=m.A6}:Q00); .an (Q5l E2) (.lv (Q1c E2) λ(x1:Bool)=>let T1:Tree ((Q00×Bool)):= .lf (E2,false); .br (!x1) T1 (.br m.A6 T1 (.br (e.C3==2) (.br (e.N==0) (.br (decide (e.C8=[])) (.lv (Qgu m.A7) λ(x2:Q0g×Bool)=> .lf ({B2:=m.B2,Mem:=x0,A2:=m.A2,A7:=x2.1,B0:=m.B0,C5:=m.C5,A1:=m.A1,A4:=m.A4,A3:=m.A3,A6:=m.A6},x2.2)) T1) T1) (.br (e.C3==3) (.br (decide (e.N≤255)) (.br (decide (e.C8=[])) (.an (Qdf m.A2 (wrap u8 e.N)) (.lv (Qj1 m.A2 (wrap u8 e.N)) λ(x3:Q0d×Bool)=> .lf ({B2:=m.B2,Mem:=x0,A2:=x3.1,A7:=m.A7,B0:=m.B0,C5:=m.C5,A1:=m.A1,A4:=m.A4,A3:=m.A3,A6:=m.A6},x3.2))) T1) T1) (.br (e.C3==4) (.an (Qc m.B0 x0 e) (.lv (Qe0 m.B0 x0 e) λ(x4:Q0b×List Int×Bool)=> .lf ({B2:=m.B2,Mem:=x4.2.1,A2:=m.A2,A7:=m.A7,B0:=x4.1,C5:=m.C5,A1:=m.A1,A4:=m.A4,A3:=m.A3,A6:=m.A6},x4.2.2))) (.br (e.C3==5) (.br (e.N==0) (.an (Qej m.C5 x0 e.C8) (.lv (Qhs m.C5 x0 e.C8) λ(x5:Q0m×List Int×Bool)=> .lf ({B2:=m.B2,Mem:=x5.2.1,A2:=m.A2,A7:=m.A7,B0:=m.B0,C5:=x5.1,A1:=m.A1,A4:=m.A4,A3:=m.A3,A6:=m.A6},x5.2.2))) T1) (.br (e.C3==6) (.br (decide (e.C8=[])) (.lf ({B2:=m.B2,Mem:=x0,A2:=m.A2,A7:=m.A7,B0:=m.B0,C5:=m.C5,A1:={C7:=e.N,C1:=m.A1.C1},A4:=m.A4,A3:=m.A3,A6:=m.A6},true)) T1) T1))))))))
def Q76(m:Q00)(e:Q09):(Q00×Bool):=(Q2r m e).m
abbrev Q90(m:Q00)(e:Q09):Prop:=(Q2r m e).p
def Qub:Q0f:=mkP 54 [] true [.agg Q00.sig, .agg Q09.sig] [] (λargs rows=>Q90 (Q00.of (args.getD 0 .dead).cells) (Q09.of (args.getD 1 .dead).cells)) (λargs rows=>Q76 (Q00.of (args.getD 0 .dead).cells) (Q09.of (args.getD 1 .dead).cells)) (λX=> .tup [.agg (Q00.cellsW (X.1) (.all 0)), .bool (X.2)]) (λX=>[⟨false,23,1, .ints .u32 (X.1).Mem⟩])
theorem Qr9:Q08 Tryz.prog Qub:=Q0z Q0s Q0t (.cons Q0n (.cons Qgf (.cons Qzd (.cons Qtv (.cons Qr8 (.cons Qwl (.nil))))))) Tryz.func54 Tryz.call54 (λargs rows=>Q2r (Q00.of (args.getD 0 .dead).cells) (Q09.of (args.getD 1 .dead).cells)) [.row 23 1 (.ints .u32)] [] 2 (λ_ _ _=>by kernel_rfl) (λ_ _=>rfl) (λ_ _ h=>h) (λ_ X=>by kernel_rfl)
end
end Go.Proofs.YtpcbkbalabgnlaaGreat
namespace Go.Proofs.YtpcbkbalabgnlaaGreat
open Go Go.GD Go.IntKind
set_option maxRecDepth 100000
noncomputable section
instance sumInhRa {α β:Type} [Inhabited β]:Inhabited (α⊕β):=⟨.inr default⟩
def Q0y(s:(List Q1h)):(List Q1h):=
s
def Q0q(s:(List Q1h)):Prop:=
s.length≤3518437208883
def Q2k(s:(List Q1h)):List D:=[.sl 4 (.recs .apiEntry s) false]
def Q1m(s:(List Q1h)):List Row:=[]
def Q1(X:(List Q1h)):D:= .all 0
def Q10(X:(List Q1h)):List Row:=[⟨false,73,4, .recs .apiEntry X⟩]
def Q99:List Dir:=[.row 73 4 (.recs .apiEntry)]
def Q56:List PT:=[.one (.recs .apiEntry)]
def Q4s:List RT:=[]
def Q9j(args:List D)(rows:List Row):(List Q1h):=Q0y (argR .apiEntry args 0)
def Q9z(args:List D)(rows:List Row):Prop:=Q0q (argR .apiEntry args 0)
def Qav:Q0f:=mkP 87 [] true Q56 Q4s Q9z Q9j Q1 Q10
def Q38(s:(List Q1h))(Leaf:(List Q1h)→Prop):Prop:=
(s=[]→Leaf [])∧cand (decide ((40:Nat)*((0:Nat)+s.length)≤(140737488355328:Nat))) (Leaf s)
set_option maxRecDepth 100000 in
theorem Qaa(s:(List Q1h))(Q:D→List Row→Prop):(fnVC tab [] (LL tab [] Tryz.f87.ntmps 0 [] 2) Tryz.f87 (Q2k s) (Q1m s) λd R=>Qaz (Q1m s).length Q99 d R Q)=Q38 s (λX=>Q (Q1 X) (Q10 X)):=by kernel_rfl
theorem Q9f(s:(List Q1h))(Leaf:(List Q1h)→Prop)(hw:Q0q s)(h:Leaf (Q0y s)):
Q38 s Leaf:=by
 delta Q38
 refine⟨λe=>by rw[e]at h;exact h,?_⟩
 rw[Q05]
 refine⟨decide_eq_true ?_,h⟩
 have:s.length≤3518437208883:=hw
 omega
set_option maxRecDepth 100000 in
theorem Q8r(s:(List Q1h))(hw:Q0q s):Q4u Tryz.prog 87 (Q2k s) (Q1m s) (Q1 (Q0y s)) (Q10 (Q0y s)):=
 have hG:Q82 Tryz.prog []:= .nil
 FnOK.calls Q0s Q0t hG Tryz.func87 (Za Q0s Q0t hG 2 (invs:=[])) (FnOK.of (Qaa s _) (Q9f s (λX=>Q1 X=Q1 (Q0y s)∧Q10 X=Q10 (Q0y s)) hw ⟨rfl,rfl⟩))
set_option maxRecDepth 100000 in
theorem Q9g(args:List D)(rows:List Row):Qh7 Q56 args 0=Q2k (argR .apiEntry args 0):=by kernel_rfl
set_option maxRecDepth 100000 in
theorem Q92(args:List D)(rows:List Row):Q7z Q4s rows 0=Q1m (argR .apiEntry args 0):=by kernel_rfl
set_option maxRecDepth 100000 in
theorem Qab(X:(List Q1h)):(ffB (Q1 X)&&ffBR (Q10 X))=true:=by kernel_rfl
theorem Qag:Q08 Tryz.prog Qav:=Qtz Tryz.call87 (λargs rows hp=>by rw[Q9g args rows,Q92 args rows];exact Q8r (argR .apiEntry args 0) hp) (λ_ X=>Qab X)
def Q0x(s:(List Q09)):(List Q09):=
s
def Q0r(s:(List Q09)):Prop:=
s.length≤3518437208883
def Q2l(s:(List Q09)):List D:=[.sl 3 (.recs .apiEvent s) false]
def Q1o(s:(List Q09)):List Row:=[]
def Q12(X:(List Q09)):D:= .all 0
def Q11(X:(List Q09)):List Row:=[⟨false,47,3, .recs .apiEvent X⟩]
def Q9i:List Dir:=[.row 47 3 (.recs .apiEvent)]
def Q53:List PT:=[.one (.recs .apiEvent)]
def Q4q:List RT:=[]
def Q9t(args:List D)(rows:List Row):(List Q09):=Q0x (argR .apiEvent args 0)
def Q9q(args:List D)(rows:List Row):Prop:=Q0r (argR .apiEvent args 0)
def Qau:Q0f:=mkP 88 [] true Q53 Q4q Q9q Q9t Q12 Q11
def Q37(s:(List Q09))(Leaf:(List Q09)→Prop):Prop:=
(s=[]→Leaf [])∧cand (decide ((32:Nat)*((0:Nat)+s.length)≤(140737488355328:Nat))) (Leaf s)
set_option maxRecDepth 100000 in
theorem Qae(s:(List Q09))(Q:D→List Row→Prop):(fnVC tab [] (LL tab [] Tryz.f88.ntmps 0 [] 2) Tryz.f88 (Q2l s) (Q1o s) λd R=>Qaz (Q1o s).length Q9i d R Q)=Q37 s (λX=>Q (Q12 X) (Q11 X)):=by kernel_rfl
theorem Q9d(s:(List Q09))(Leaf:(List Q09)→Prop)(hw:Q0r s)(h:Leaf (Q0x s)):
Q37 s Leaf:=by
 delta Q37
 refine⟨λe=>by rw[e]at h;exact h,?_⟩
 rw[Q05]
 refine⟨decide_eq_true ?_,h⟩
 have:s.length≤3518437208883:=hw
 omega
set_option maxRecDepth 100000 in
theorem Q95(s:(List Q09))(hw:Q0r s):Q4u Tryz.prog 88 (Q2l s) (Q1o s) (Q12 (Q0x s)) (Q11 (Q0x s)):=
 have hG:Q82 Tryz.prog []:= .nil
 FnOK.calls Q0s Q0t hG Tryz.func88 (Za Q0s Q0t hG 2 (invs:=[])) (FnOK.of (Qae s _) (Q9d s (λX=>Q12 X=Q12 (Q0x s)∧Q11 X=Q11 (Q0x s)) hw ⟨rfl,rfl⟩))
set_option maxRecDepth 100000 in
theorem Q9a(args:List D)(rows:List Row):Qh7 Q53 args 0=Q2l (argR .apiEvent args 0):=by kernel_rfl
set_option maxRecDepth 100000 in
theorem Q8v(args:List D)(rows:List Row):Q7z Q4q rows 0=Q1o (argR .apiEvent args 0):=by kernel_rfl
set_option maxRecDepth 100000 in
theorem Qai(X:(List Q09)):(ffB (Q12 X)&&ffBR (Q11 X))=true:=by kernel_rfl
theorem Qam:Q08 Tryz.prog Qau:=Qtz Tryz.call88 (λargs rows hp=>by rw[Q9a args rows,Q8v args rows];exact Q95 (argR .apiEvent args 0) hp) (λ_ X=>Qai X)
def Q5j(r:Q01):Tree Q01:=
.an (Q04 r.A0.Mem) (.lv (Q02 r.A0.Mem) λ(x0:List Int)=> .an (Q0q r.D1) (.lv (Q0y r.D1) λ(x1:List Q1h)=> .an (Q0r r.B3) (.lv (Q0x r.B3) λ(x2:List Q09)=> .lf ({A0:={B2:=r.A0.B2,Mem:=x0,A2:=r.A0.A2,A7:=r.A0.A7,B0:=r.A0.B0,C5:=r.A0.C5,A1:=r.A0.A1,A4:=r.A0.A4,A3:=r.A0.A3,A6:=r.A0.A6},B4:=r.B4,D1:=x1,B3:=x2}))))
def Q93(r:Q01):Q01:=(Q5j r).m
abbrev Q3u(r:Q01):Prop:=(Q5j r).p
def Qta:Q0f:=mkP 48 [] true [.agg Q01.sig] [] (λargs rows=>Q3u (Q01.of (args.getD 0 .dead).cells)) (λargs rows=>Q93 (Q01.of (args.getD 0 .dead).cells)) (λX=> .agg (Q01.cellsW X (.all 0) (.all 1) (.all 2))) (λX=>[⟨false,23,1, .ints .u32 X.A0.Mem⟩,⟨false,73,4, .recs .apiEntry X.D1⟩,⟨false,47,3, .recs .apiEvent X.B3⟩])
theorem Qa6:Q08 Tryz.prog Qta:=Q0z Q0s Q0t (.cons Q0n (.cons Qag (.cons Qam (.nil)))) Tryz.func48 Tryz.call48 (λargs rows=>Q5j (Q01.of (args.getD 0 .dead).cells)) [.row 23 1 (.ints .u32), .row 73 4 (.recs .apiEntry), .row 47 3 (.recs .apiEvent)] [] 2 (λ_ _ _=>by kernel_rfl) (λ_ _=>rfl) (λ_ _ h=>h) (λ_ X=>by kernel_rfl)
def Q89(m:Q00):Tree Q01:=
.an (Q3u {A0:=m,B4:=0,D1:=[],B3:=[]}) (.lv (Q93 {A0:=m,B4:=0,D1:=[],B3:=[]}) λ(x0:Q01)=> .lf x0)
def Qp6(m:Q00):Q01:=(Q89 m).m
abbrev Qcl(m:Q00):Prop:=(Q89 m).p
def Z37:Q0f:=mkP 27 [] true [.agg Q00.sig] [] (λargs rows=>Qcl (Q00.of (args.getD 0 .dead).cells)) (λargs rows=>Qp6 (Q00.of (args.getD 0 .dead).cells)) (λX=> .agg (Q01.cellsW X (.all 0) (.all 1) (.all 2))) (λX=>[⟨false,23,1, .ints .u32 X.A0.Mem⟩,⟨false,73,4, .recs .apiEntry X.D1⟩,⟨false,47,3, .recs .apiEvent X.B3⟩])
theorem Qnt:Q08 Tryz.prog Z37:=Q0z Q0s Q0t (.cons Qa6 (.nil)) Tryz.func27 Tryz.call27 (λargs rows=>Q89 (Q00.of (args.getD 0 .dead).cells)) [.row 23 1 (.ints .u32), .row 73 4 (.recs .apiEntry), .row 47 3 (.recs .apiEvent)] [] 2 (λ_ _ _=>by kernel_rfl) (λ_ _=>rfl) (λ_ _ h=>h) (λ_ X=>by kernel_rfl)
def Qi8(e:Q09):Tree Bool:=
.br (e.C3==1) (.lf (decide (e.C8=[]))) (.br (e.C3==6) (.lf (decide (e.C8=[]))) (.br (e.C3==2) (.br (e.N==0) (.lf (decide (e.C8=[]))) (.lf false)) (.br (e.C3==3) (.br (decide (e.N≤255)) (.lf (decide (e.C8=[]))) (.lf false)) (.br (e.C3==4) (.br (e.N==1) (.br (decide (e.C8=[])) (.lf true) (.lf ((e.C8.length:Int)==(128:Int)))) (.br (e.N==0) (.lf (decide (e.C8=[]))) (.lf false))) (.br (e.C3==5) (.br (e.N==0) (.br (decide ((e.C8.length:Int)≥(1:Int))) (.lf (decide ((e.C8.length:Int)≤(128:Int)))) (.lf false)) (.lf false)) (.lf false))))))
def Ql4(e:Q09):Bool:=(Qi8 e).m
def Qqr:Q0f:=mkR 49 [] true [.agg Q09.sig] [] (λargs rows=>Ql4 (Q09.of (args.getD 0 .dead).cells)) (λX=> .bool X) (λX=>[])
theorem Qoz:Q08 Tryz.prog Qqr:=Q2c Q0s Q0t (.nil) Tryz.func49 Tryz.call49 (λargs rows=>Qi8 (Q09.of (args.getD 0 .dead).cells)) [] [] 2 (λ_ _ _=>by kernel_rfl) (λ_ _=>rfl) (λ_ _=>Tree.free_ok (by kernel_rfl)) (λ_ X=>by kernel_rfl)
def Q88(r:Q01)(e:Q09):Tree (Q01×Bool):=
.an (Q3u r) (.lv (Q93 r) λ(x0:Q01)=> .lv (Ql4 e) λ(x1:Bool)=> .br (!x1) (.lf (x0,false)) (.br (e.C3==1) (.lf (x0,false)) (.br (decide ((x0.B3.length:Int)≥(16:Int))) (.lf (x0,false)) (.cn (decide (32*(x0.B3.length+1)≤140737488355328)) (.lf ({A0:=x0.A0,B4:=x0.B4,D1:=x0.D1,B3:=x0.B3++[e]},true))))))
def Qhe(r:Q01)(e:Q09):(Q01×Bool):=(Q88 r e).m
abbrev Q96(r:Q01)(e:Q09):Prop:=(Q88 r e).p
def Qtt:Q0f:=mkP 18 [] true [.agg Q01.sig, .agg Q09.sig] [] (λargs rows=>Q96 (Q01.of (args.getD 0 .dead).cells) (Q09.of (args.getD 1 .dead).cells)) (λargs rows=>Qhe (Q01.of (args.getD 0 .dead).cells) (Q09.of (args.getD 1 .dead).cells)) (λX=> .tup [.agg (Q01.cellsW (X.1) (.all 0) (.all 1) (.all 2)), .bool (X.2)]) (λX=>[⟨false,23,1, .ints .u32 (X.1).A0.Mem⟩,⟨false,73,4, .recs .apiEntry (X.1).D1⟩,⟨false,47,3, .recs .apiEvent (X.1).B3⟩])
theorem Qr5:Q08 Tryz.prog Qtt:=Q0z Q0s Q0t (.cons Qa6 (.cons Qoz (.nil))) Tryz.func18 Tryz.call18 (λargs rows=>Q88 (Q01.of (args.getD 0 .dead).cells) (Q09.of (args.getD 1 .dead).cells)) [.row 23 1 (.ints .u32), .row 73 4 (.recs .apiEntry), .row 47 3 (.recs .apiEvent)] [] 2 (λ_ _ _=>by kernel_rfl) (λ_ _=>rfl) (λ_ _ h=>h) (λ_ X=>by kernel_rfl)
def Qd6(r:Q01):Tree (Q01×(List Q1h)×Int):=
.an (Q3u r) (.lv (Q93 r) λ(x0:Q01)=> .lf ({A0:=x0.A0,B4:=x0.B4,D1:=[],B3:=x0.B3},x0.D1,x0.A0.A4))
def Qxt(r:Q01):(Q01×(List Q1h)×Int):=(Qd6 r).m
abbrev Qgd(r:Q01):Prop:=(Qd6 r).p
def Z28:Q0f:=mkP 24 [] true [.agg Q01.sig] [] (λargs rows=>Qgd (Q01.of (args.getD 0 .dead).cells)) (λargs rows=>Qxt (Q01.of (args.getD 0 .dead).cells)) (λX=> .tup [.agg (Q01.cellsW (X.1) (.all 0) (.sl 4 (.recs .apiEntry X.1.D1) true) (.all 1)), .all 2, .int .u64 (X.2.2)]) (λX=>[⟨false,23,1, .ints .u32 (X.1).A0.Mem⟩,⟨false,47,3, .recs .apiEvent (X.1).B3⟩,⟨false,73,4, .recs .apiEntry (X.2.1)⟩])
theorem Qyz:Q08 Tryz.prog Z28:=Q0z Q0s Q0t (.cons Qa6 (.nil)) Tryz.func24 Tryz.call24 (λargs rows=>Qd6 (Q01.of (args.getD 0 .dead).cells)) [.row 23 1 (.ints .u32), .sl (.recs .apiEntry) true, .row 47 3 (.recs .apiEvent), .row 73 4 (.recs .apiEntry)] [] 2 (λ_ _ _=>by kernel_rfl) (λ_ _=>rfl) (λ_ _ h=>h) (λ_ X=>by kernel_rfl)
def Qtm(t:Q0g)(now:Int):Tree Bool:=
.br t.D4 (.lf (decide (now≥t.C6))) (.lf false)
def Z22(t:Q0g)(now:Int):Bool:=(Qtm t now).m
def Z5b:Q0f:=mkR 55 [] true [.agg Q0g.sig, .one (.int .u32)] [] (λargs rows=>Z22 (Q0g.of (args.getD 0 .dead).cells) (argI args 1)) (λX=> .bool X) (λX=>[])
theorem Z4n:Q08 Tryz.prog Z5b:=Q2c Q0s Q0t (.nil) Tryz.func55 Tryz.call55 (λargs rows=>Qtm (Q0g.of (args.getD 0 .dead).cells) (argI args 1)) [] [] 2 (λ_ _ _=>by kernel_rfl) (λ_ _=>rfl) (λ_ _=>Tree.free_ok (by kernel_rfl)) (λ_ X=>by kernel_rfl)
def Q3i(e:Q09)(fr0:Q01):Tree Q01:=
.cn (decide (40*(fr0.D1.length+1)≤140737488355328)) (.lf ({A0:=fr0.A0,B4:=fr0.B4,D1:=fr0.D1++[{At:=fr0.A0.A4,D8:=e}],B3:=fr0.B3}))
def Qdh(e:Q09)(fr0:Q01):Q01:=(Q3i e fr0).m
abbrev Q6p(e:Q09)(fr0:Q01):Prop:=(Q3i e fr0).p
def Qmp:Q0f:=mkKP 1 52 [false,true] [.agg Q09.sig, .ptr 0] [.box 45 52 (Q01.sigW (.ints .u32) (.row 1) (.recs .apiEvent)), .arr 73 4 (.recs .apiEntry)] (λargs rows=>Q6p (Q09.of (args.getD 0 .dead).cells) (Q01.ofW (rows.getD 0 default).cs (slI .u32 (((rows.getD 0 default).cs).getD 25 .dead)) (rowR .apiEntry rows 1) (slR .apiEvent (((rows.getD 0 default).cs).getD 51 .dead)))) (λargs rows=>Qdh (Q09.of (args.getD 0 .dead).cells) (Q01.ofW (rows.getD 0 default).cs (slI .u32 (((rows.getD 0 default).cs).getD 25 .dead)) (rowR .apiEntry rows 1) (slR .apiEvent (((rows.getD 0 default).cs).getD 51 .dead)))) (λX=> .tup []) (λX=>[⟨true,45,52, .gen [(Q01.cellsW X (.sl 1 (.ints .u32 X.A0.Mem) false) (.all 1) (.sl 3 (.recs .apiEvent X.B3) false))]⟩,⟨false,73,4, .recs .apiEntry X.D1⟩])
theorem Qlu:Q08 Tryz.prog Qmp:=Z5l Q0s Q0t (.nil) Tryz.func52 Tryz.call52 (λargs rows=>Q3i (Q09.of (args.getD 0 .dead).cells) (Q01.ofW (rows.getD 0 default).cs (slI .u32 (((rows.getD 0 default).cs).getD 25 .dead)) (rowR .apiEntry rows 1) (slR .apiEvent (((rows.getD 0 default).cs).getD 51 .dead)))) [.sl (.ints .u32) false, .row 73 4 (.recs .apiEntry), .sl (.recs .apiEvent) false] [] 2 (λ_ _ _=>by kernel_rfl) (λ_ _=>rfl) (λ_ _ h=>h)
def Q31(e:Q09)(fr0:Q01):Tree Q01:=
.cn (decide (40*(fr0.D1.length+1)≤140737488355328)) (.lf ({A0:=fr0.A0,B4:=fr0.B4,D1:=fr0.D1++[{At:=fr0.A0.A4,D8:=e}],B3:=fr0.B3}))
def Qgi(e:Q09)(fr0:Q01):Q01:=(Q31 e fr0).m
abbrev Q8h(e:Q09)(fr0:Q01):Prop:=(Q31 e fr0).p
def Qlh:Q0f:=mkKP 1 52 [false,true] [.agg Q09.sig, .ptr 0] [.box 45 52 (Q01.sigW (.row 1) (.row 2) (.recs .apiEvent)), .arr 23 1 (.ints .u32), .arr 73 4 (.recs .apiEntry)] (λargs rows=>Q8h (Q09.of (args.getD 0 .dead).cells) (Q01.ofW (rows.getD 0 default).cs (rowL .u32 rows 1) (rowR .apiEntry rows 2) (slR .apiEvent (((rows.getD 0 default).cs).getD 51 .dead)))) (λargs rows=>Qgi (Q09.of (args.getD 0 .dead).cells) (Q01.ofW (rows.getD 0 default).cs (rowL .u32 rows 1) (rowR .apiEntry rows 2) (slR .apiEvent (((rows.getD 0 default).cs).getD 51 .dead)))) (λX=> .tup []) (λX=>[⟨true,45,52, .gen [(Q01.cellsW X (.all 1) (.all 2) (.sl 3 (.recs .apiEvent X.B3) false))]⟩,⟨false,23,1, .ints .u32 X.A0.Mem⟩,⟨false,73,4, .recs .apiEntry X.D1⟩])
theorem Qku:Q08 Tryz.prog Qlh:=Z5l Q0s Q0t (.nil) Tryz.func52 Tryz.call52 (λargs rows=>Q31 (Q09.of (args.getD 0 .dead).cells) (Q01.ofW (rows.getD 0 default).cs (rowL .u32 rows 1) (rowR .apiEntry rows 2) (slR .apiEvent (((rows.getD 0 default).cs).getD 51 .dead)))) [.row 23 1 (.ints .u32), .row 73 4 (.recs .apiEntry), .sl (.recs .apiEvent) false] [] 2 (λ_ _ _=>by kernel_rfl) (λ_ _=>rfl) (λ_ _ h=>h)
def Q3h(e:Q09)(fr0:Q01):Tree Q01:=
.an (Q90 fr0.A0 e) (.lv (Q76 fr0.A0 e) λ(x0:Q00×Bool)=> .br x0.2 (let E1:=({A0:=x0.1,B4:=fr0.B4,D1:=fr0.D1,B3:=fr0.B3}:Q01); .an (Q8h e E1) (.lv (Qgi e E1) λ(x1:Q01)=> .lf x1)) (.lf fr0))
def Qdj(e:Q09)(fr0:Q01):Q01:=(Q3h e fr0).m
abbrev Q6n(e:Q09)(fr0:Q01):Prop:=(Q3h e fr0).p
def Qnp:Q0f:=mkKP 2 53 [false,true,true] [.agg Q09.sig, .ptr 0, .ptr 1] [.box 45 52 (Q01.sigW (.ints .u32) (.row 2) (.recs .apiEvent)), .box 102 1 [.clo 52 [.ptr 0 0 0]], .arr 73 4 (.recs .apiEntry)] (λargs rows=>Q6n (Q09.of (args.getD 0 .dead).cells) (Q01.ofW (rows.getD 0 default).cs (slI .u32 (((rows.getD 0 default).cs).getD 25 .dead)) (rowR .apiEntry rows 2) (slR .apiEvent (((rows.getD 0 default).cs).getD 51 .dead)))) (λargs rows=>Qdj (Q09.of (args.getD 0 .dead).cells) (Q01.ofW (rows.getD 0 default).cs (slI .u32 (((rows.getD 0 default).cs).getD 25 .dead)) (rowR .apiEntry rows 2) (slR .apiEvent (((rows.getD 0 default).cs).getD 51 .dead)))) (λX=> .tup []) (λX=>[⟨true,45,52, .gen [(Q01.cellsW X (.sl 1 (.ints .u32 X.A0.Mem) false) (.all 2) (.sl 3 (.recs .apiEvent X.B3) false))]⟩,⟨true,102,1, .gen [[.clo 52 [.ptr 0 0 0]]]⟩,⟨false,73,4, .recs .apiEntry X.D1⟩])
theorem Qlr:Q08 Tryz.prog Qnp:=Z5l Q0s Q0t (.cons Qr9 (.cons Qku (.nil))) Tryz.func53 Tryz.call53 (λargs rows=>Q3h (Q09.of (args.getD 0 .dead).cells) (Q01.ofW (rows.getD 0 default).cs (slI .u32 (((rows.getD 0 default).cs).getD 25 .dead)) (rowR .apiEntry rows 2) (slR .apiEvent (((rows.getD 0 default).cs).getD 51 .dead)))) [.sl (.ints .u32) false, .row 73 4 (.recs .apiEntry), .sl (.recs .apiEvent) false] [] 2 (λ_ _ _=>by kernel_rfl) (λ_ _=>rfl) (λ_ _ h=>h)
def Qdq(r:Q01)(steps:Int)(clock:Int)(z:(Int)×Q01):Nat:=(z.2.B3.length-z.1).toNat
def Q6o(r:Q01)(steps:Int)(clock:Int)(v0:Int×Q01)(z:(Int)×Q01×(List Q0a)):Nat:=(4000-z.1).toNat
def Q4i(r:Q01)(steps:Int)(clock:Int):Tree (Q01×(List Q0a)):=
.an (Q3u r) (.lv (Q93 r) λ(x0:Q01)=> .an (Q5l x0.A0) (.lv (Q1c x0.A0) λ(x1:Bool)=> .br (!x1) (.lf (x0,[])) (let E1:=({A0:=x0.A0,B4:=if clock>x0.B4 then clock else x0.B4,D1:=x0.D1,B3:=x0.B3}:Q01); .lp inferInstance (Qdq r steps clock (0,E1)+1) ((rE (steps:Int)∧(rE (0:Nat)∧rE (0:Nat))∧(rE (0:Nat)∧rE (0:Nat))∧(rE (0:Nat)∧rE (0:Nat))∧True∧rE x0.B3∧rE ((x0.B3.length:Int):Int)∧rE (0:Int)∧True)∧(mE x0.A0 (rE x0.A0.Mem) (rE ((if clock>x0.B4 then clock else x0.B4):Int)∧True∧rE x0.B3∧True))∧rE x0.D1∧(mE zM True (rE (0:Int)∧True∧True∧True))∧(True∧True)∧True) (0,E1) λ(v0:Int×Q01)=> .br (decide (v0.1<(x0.B3.length:Int))) (.cn (Nat.beq 3 3&&Nat.blt 0 3&&decide (0≤v0.1∧v0.1<(x0.B3.length:Int))) (let E3:=x0.B3.getD v0.1.toNat (RK.dflt RK.apiEvent); .an (Q6n E3 v0.2) (.lv (Qdj E3 v0.2) λ(x2:Q01)=> .nx ((rE (steps:Int)∧(rE (0:Nat)∧rE (0:Nat))∧(rE (0:Nat)∧rE (0:Nat))∧(rE (0:Nat)∧rE (0:Nat))∧True∧((Els.Nil (Els.recs RK.apiEvent x0.B3)∨eqAt Nat 3 3)∧rE x0.B3)∧rE ((x0.B3.length:Int):Int)∧rE ((wrap i64 (v0.1+1)):Int)∧True)∧(mE x2.A0 (((Els.Nil (Els.ints u32 x2.A0.Mem)∨rE (1:Nat))∧rE x2.A0.Mem)) (rE x2.B4∧True∧((Els.Nil (Els.recs RK.apiEvent x2.B3)∨rE (3:Nat))∧rE x2.B3)∧True))∧rE x2.D1∧(mE zM True (rE (0:Int)∧True∧True∧True))∧(True∧True)∧True) (Sum.inl (wrap i64 (v0.1+1),x2))))) (let E2:=({A0:=v0.2.A0,B4:=v0.2.B4,D1:=v0.2.D1,B3:=[]}:Q01); .lp inferInstance (Q6o r steps clock v0 (0,E2,[])+1) (((rE (0:Nat)∧rE (0:Nat))∧(rE (0:Nat)∧rE (0:Nat))∧(rE (0:Nat)∧rE (0:Nat))∧True∧True∧rE ((if 4000<if 0>steps then 0 else steps then 4000 else if 0>steps then 0 else steps):Int)∧rE (0:Int)∧True)∧(mE v0.2.A0 (((Els.Nil (Els.ints u32 v0.2.A0.Mem)∨eqAt Nat 1 1)∧rE v0.2.A0.Mem)) (rE v0.2.B4∧True∧rE ([]:List (RK.T RK.apiEvent))∧True))∧rE v0.2.D1∧(mE zM True (rE (0:Int)∧True∧True∧True))∧(True∧True)∧rE ([]:List (RK.T RK.apiOutput))∧True) (0,E2,[]) λ(v1:Int×Q01×List Q0a)=> .br (decide (v1.1<if 4000<if 0>steps then 0 else steps then 4000 else if 0>steps then 0 else steps)) (.lv (Z22 v1.2.1.A0.A7 v1.2.1.B4) λ(x3:Bool)=> .br x3 (.an (Q6n {C3:=2,N:=0,C8:=[]} v1.2.1) (.lv (Qdj {C3:=2,N:=0,C8:=[]} v1.2.1) λ(x4:Q01)=> .br x4.A0.A6 (.lf (Sum.inr (Sum.inr (x4,v1.2.2)))) (.an (Q3 x4.A0) (.lv (Q60 x4.A0) λ(x5:Bool)=> .br x5 (.lf (Sum.inr (Sum.inr (x4,v1.2.2)))) (.br (x4.A0.A4==1152921504606846976) (.lf (Sum.inr (Sum.inr (x4,v1.2.2)))) (.an (Q22 x4.A0) (.lv (Q68 x4.A0) λ(x6:Bool)=> .br x6 (.an (Q6p {C3:=1,N:=x4.B4,C8:=[]} x4) (.lv (Qdh {C3:=1,N:=x4.B4,C8:=[]} x4) λ(x7:Q01)=> .an (Q2x x7.A0 x7.B4) (.lv (Q36 x7.A0 x7.B4) λ(x8:Q00×List Q0a)=> .cn (decide (40*(v1.2.2.length+x8.2.length)≤140737488355328)) (.nx (((rE (0:Nat)∧rE (0:Nat))∧(rE (0:Nat)∧rE (0:Nat))∧(rE (0:Nat)∧rE (0:Nat))∧True∧True∧rE ((if 4000<if 0>steps then 0 else steps then 4000 else if 0>steps then 0 else steps):Int)∧rE ((wrap i64 (v1.1+1)):Int)∧True)∧(mE x8.1 (((Els.Nil (Els.ints u32 x8.1.Mem)∨rE (1:Nat))∧rE x8.1.Mem)) (rE ((wrap u32 (x7.B4+1)):Int)∧True∧((Els.Nil (Els.recs RK.apiEvent x7.B3)∨rE (3:Nat))∧rE x7.B3)∧True))∧rE x7.D1∧(mE zM True (rE (0:Int)∧True∧True∧True))∧(True∧True)∧rE ((v1.2.2++x8.2):List (RK.T RK.apiOutput))∧True) (Sum.inl (wrap i64 (v1.1+1),{A0:=x8.1,B4:=wrap u32 (x7.B4+1),D1:=x7.D1,B3:=x7.B3},v1.2.2++x8.2)))))) (.an (Q2x x4.A0 x4.B4) (.lv (Q36 x4.A0 x4.B4) λ(x9:Q00×List Q0a)=> .cn (decide (40*(v1.2.2.length+x9.2.length)≤140737488355328)) (.nx (((rE (0:Nat)∧rE (0:Nat))∧(rE (0:Nat)∧rE (0:Nat))∧(rE (0:Nat)∧rE (0:Nat))∧True∧True∧rE ((if 4000<if 0>steps then 0 else steps then 4000 else if 0>steps then 0 else steps):Int)∧rE ((wrap i64 (v1.1+1)):Int)∧True)∧(mE x9.1 (((Els.Nil (Els.ints u32 x9.1.Mem)∨rE (1:Nat))∧rE x9.1.Mem)) (rE ((wrap u32 (x4.B4+1)):Int)∧True∧((Els.Nil (Els.recs RK.apiEvent x4.B3)∨rE (3:Nat))∧rE x4.B3)∧True))∧rE x4.D1∧(mE zM True (rE (0:Int)∧True∧True∧True))∧(True∧True)∧rE ((v1.2.2++x9.2):List (RK.T RK.apiOutput))∧True) (Sum.inl (wrap i64 (v1.1+1),{A0:=x9.1,B4:=wrap u32 (x4.B4+1),D1:=x4.D1,B3:=x4.B3},v1.2.2++x9.2)))))))))))) (.br v1.2.1.A0.A6 (.lf (Sum.inr (Sum.inr (v1.2.1,v1.2.2)))) (.an (Q3 v1.2.1.A0) (.lv (Q60 v1.2.1.A0) λ(x10:Bool)=> .br x10 (.lf (Sum.inr (Sum.inr (v1.2.1,v1.2.2)))) (.br (v1.2.1.A0.A4==1152921504606846976) (.lf (Sum.inr (Sum.inr (v1.2.1,v1.2.2)))) (.an (Q22 v1.2.1.A0) (.lv (Q68 v1.2.1.A0) λ(x11:Bool)=> .br x11 (.an (Q6p {C3:=1,N:=v1.2.1.B4,C8:=[]} v1.2.1) (.lv (Qdh {C3:=1,N:=v1.2.1.B4,C8:=[]} v1.2.1) λ(x12:Q01)=> .an (Q2x x12.A0 x12.B4) (.lv (Q36 x12.A0 x12.B4) λ(x13:Q00×List Q0a)=> .cn (decide (40*(v1.2.2.length+x13.2.length)≤140737488355328)) (.nx (((rE (0:Nat)∧rE (0:Nat))∧(rE (0:Nat)∧rE (0:Nat))∧(rE (0:Nat)∧rE (0:Nat))∧True∧True∧rE ((if 4000<if 0>steps then 0 else steps then 4000 else if 0>steps then 0 else steps):Int)∧rE ((wrap i64 (v1.1+1)):Int)∧True)∧(mE x13.1 (((Els.Nil (Els.ints u32 x13.1.Mem)∨rE (1:Nat))∧rE x13.1.Mem)) (rE ((wrap u32 (x12.B4+1)):Int)∧True∧((Els.Nil (Els.recs RK.apiEvent x12.B3)∨rE (3:Nat))∧rE x12.B3)∧True))∧rE x12.D1∧(mE zM True (rE (0:Int)∧True∧True∧True))∧(True∧True)∧rE ((v1.2.2++x13.2):List (RK.T RK.apiOutput))∧True) (Sum.inl (wrap i64 (v1.1+1),{A0:=x13.1,B4:=wrap u32 (x12.B4+1),D1:=x12.D1,B3:=x12.B3},v1.2.2++x13.2)))))) (.an (Q2x v1.2.1.A0 v1.2.1.B4) (.lv (Q36 v1.2.1.A0 v1.2.1.B4) λ(x14:Q00×List Q0a)=> .cn (decide (40*(v1.2.2.length+x14.2.length)≤140737488355328)) (.nx (((rE (0:Nat)∧rE (0:Nat))∧(rE (0:Nat)∧rE (0:Nat))∧(rE (0:Nat)∧rE (0:Nat))∧True∧True∧rE ((if 4000<if 0>steps then 0 else steps then 4000 else if 0>steps then 0 else steps):Int)∧rE ((wrap i64 (v1.1+1)):Int)∧True)∧(mE x14.1 (((Els.Nil (Els.ints u32 x14.1.Mem)∨rE (1:Nat))∧rE x14.1.Mem)) (rE ((wrap u32 (v1.2.1.B4+1)):Int)∧True∧((Els.Nil (Els.recs RK.apiEvent v1.2.1.B3)∨eqAt Nat 3 3)∧rE v1.2.1.B3)∧True))∧rE v1.2.1.D1∧(mE zM True (rE (0:Int)∧True∧True∧True))∧(True∧True)∧rE ((v1.2.2++x14.2):List (RK.T RK.apiOutput))∧True) (Sum.inl (wrap i64 (v1.1+1),{A0:=x14.1,B4:=wrap u32 (v1.2.1.B4+1),D1:=v1.2.1.D1,B3:=v1.2.1.B3},v1.2.2++x14.2)))))))))))) (.lf (Sum.inr (Sum.inr (v1.2.1,v1.2.2))))))))
def Qge(r:Q01)(steps:Int)(clock:Int):(Q01×(List Q0a)):=(Q4i r steps clock).m
abbrev Q81(r:Q01)(steps:Int)(clock:Int):Prop:=(Q4i r steps clock).p
def Qob:LInv:={
 α:=(Int)×Q01
 F:=λst a=>([(1,(lk st 1)),(3, .ptr 0 0 0),(6, .ptr 2 0 0),(8, .ptr 3 0 0),(9, .clo 53 [.ptr 0 0 0, .ptr 3 0 0]),(29, .sl 3 (esOf st.rows (rN st 29)) false),(30,(lk st 30)),(31, .int i64 a.1)],[⟨true,45,52, .gen [[.int u32 a.2.A0.B2.X.a0, .int u32 a.2.A0.B2.X.a1, .int u32 a.2.A0.B2.X.a2, .int u32 a.2.A0.B2.X.a3, .int u32 a.2.A0.B2.X.a4, .int u32 a.2.A0.B2.X.a5, .int u32 a.2.A0.B2.X.a6, .int u32 a.2.A0.B2.X.a7, .int u32 a.2.A0.B2.X.a8, .int u32 a.2.A0.B2.X.a9, .int u32 a.2.A0.B2.X.a10, .int u32 a.2.A0.B2.X.a11, .int u32 a.2.A0.B2.X.a12, .int u32 a.2.A0.B2.X.a13, .int u32 a.2.A0.B2.X.a14, .int u32 a.2.A0.B2.X.a15, .int u32 a.2.A0.B2.Pc, .int u32 a.2.A0.B2.B5.a0, .int u32 a.2.A0.B2.B5.a1, .int u32 a.2.A0.B2.B5.a2, .int u32 a.2.A0.B2.B5.a3, .int u32 a.2.A0.B2.B5.a4, .int u32 a.2.A0.B2.B5.a5, .int u32 a.2.A0.B2.B5.a6, .int u32 a.2.A0.B2.B5.a7, .sl 1 (.ints u32 a.2.A0.Mem) false, .str a.2.A0.A2.D3, .bool a.2.A0.A7.D4, .int u32 a.2.A0.A7.C6, .bool a.2.A0.A7.D6, .int u32 a.2.A0.B0.Blocks, .int u32 a.2.A0.B0.C0, .int u32 a.2.A0.B0.B1, .int i64 a.2.A0.B0.B8, .int i64 a.2.A0.B0.D9, .int u32 a.2.A0.B0.B6, .int u32 a.2.A0.B0.A9, .str a.2.A0.B0.C2, .int u32 a.2.A0.C5.B1, .int u32 a.2.A0.C5.F1, .bool a.2.A0.C5.C4, .int u32 a.2.A0.C5.B9, .bool a.2.A0.C5.B7, .int u32 a.2.A0.C5.F3, .int u32 a.2.A0.A1.C7, .int u32 a.2.A0.A1.C1, .int u64 a.2.A0.A4, .bool a.2.A0.A3, .bool a.2.A0.A6, .int u32 a.2.B4, .all 1, .sl 3 (.recs RK.apiEvent a.2.B3) false]]⟩,⟨false,73,4, .recs RK.apiEntry a.2.D1⟩,⟨true,45,52, .gen [[(cT st 6 0),(cT st 6 1),(cT st 6 2),(cT st 6 3),(cT st 6 4),(cT st 6 5),(cT st 6 6),(cT st 6 7),(cT st 6 8),(cT st 6 9),(cT st 6 10),(cT st 6 11),(cT st 6 12),(cT st 6 13),(cT st 6 14),(cT st 6 15),(cT st 6 16),(cT st 6 17),(cT st 6 18),(cT st 6 19),(cT st 6 20),(cT st 6 21),(cT st 6 22),(cT st 6 23),(cT st 6 24),(cT st 6 25),(cT st 6 26),(cT st 6 27),(cT st 6 28),(cT st 6 29),(cT st 6 30),(cT st 6 31),(cT st 6 32),(cT st 6 33),(cT st 6 34),(cT st 6 35),(cT st 6 36),(cT st 6 37),(cT st 6 38),(cT st 6 39),(cT st 6 40),(cT st 6 41),(cT st 6 42),(cT st 6 43),(cT st 6 44),(cT st 6 45),(cT st 6 46),(cT st 6 47),(cT st 6 48),(cT st 6 49),(cT st 6 50),(cT st 6 51)]]⟩,⟨true,102,1, .gen [[.clo 52 [.ptr 0 0 0]]]⟩])
 a0:=λst=>((lk st 31).toInt,(⟨(⟨(⟨(⟨(cT st 3 0).toInt,(cT st 3 1).toInt,(cT st 3 2).toInt,(cT st 3 3).toInt,(cT st 3 4).toInt,(cT st 3 5).toInt,(cT st 3 6).toInt,(cT st 3 7).toInt,(cT st 3 8).toInt,(cT st 3 9).toInt,(cT st 3 10).toInt,(cT st 3 11).toInt,(cT st 3 12).toInt,(cT st 3 13).toInt,(cT st 3 14).toInt,(cT st 3 15).toInt⟩:(A16 Int)),(cT st 3 16).toInt,(⟨(cT st 3 17).toInt,(cT st 3 18).toInt,(cT st 3 19).toInt,(cT st 3 20).toInt,(cT st 3 21).toInt,(cT st 3 22).toInt,(cT st 3 23).toInt,(cT st 3 24).toInt⟩:(A8 Int))⟩:Q03),(frzI u32 st.rows (cT st 3 25)),(⟨(cT st 3 26).toStr⟩:Q0d),(⟨(cT st 3 27).toBool,(cT st 3 28).toInt,(cT st 3 29).toBool⟩:Q0g),(⟨(cT st 3 30).toInt,(cT st 3 31).toInt,(cT st 3 32).toInt,(cT st 3 33).toInt,(cT st 3 34).toInt,(cT st 3 35).toInt,(cT st 3 36).toInt,(cT st 3 37).toStr⟩:Q0b),(⟨(cT st 3 38).toInt,(cT st 3 39).toInt,(cT st 3 40).toBool,(cT st 3 41).toInt,(cT st 3 42).toBool,(cT st 3 43).toInt⟩:Q0m),(⟨(cT st 3 44).toInt,(cT st 3 45).toInt⟩:Q07),(cT st 3 46).toInt,(cT st 3 47).toBool,(cT st 3 48).toBool⟩:Q00),(cT st 3 49).toInt,(Qbp RK.apiEntry st.rows (Q2b (cT st 3 50) 1000000)),(frzR RK.apiEvent st.rows (cT st 3 51))⟩:Q01))
 ex0:=λst=>[]++[(Q2b (lk st 3) (st.rows.length+0)),(Q2b (cT st 3 50) (st.rows.length+1)),(Q2b (lk st 6) (st.rows.length+2)),(Q2b (lk st 8) (st.rows.length+3))]
 next:=λst=>((lk st 31).toInt,(⟨(⟨(⟨(⟨(cT st 3 0).toInt,(cT st 3 1).toInt,(cT st 3 2).toInt,(cT st 3 3).toInt,(cT st 3 4).toInt,(cT st 3 5).toInt,(cT st 3 6).toInt,(cT st 3 7).toInt,(cT st 3 8).toInt,(cT st 3 9).toInt,(cT st 3 10).toInt,(cT st 3 11).toInt,(cT st 3 12).toInt,(cT st 3 13).toInt,(cT st 3 14).toInt,(cT st 3 15).toInt⟩:(A16 Int)),(cT st 3 16).toInt,(⟨(cT st 3 17).toInt,(cT st 3 18).toInt,(cT st 3 19).toInt,(cT st 3 20).toInt,(cT st 3 21).toInt,(cT st 3 22).toInt,(cT st 3 23).toInt,(cT st 3 24).toInt⟩:(A8 Int))⟩:Q03),(frzI u32 st.rows (cT st 3 25)),(⟨(cT st 3 26).toStr⟩:Q0d),(⟨(cT st 3 27).toBool,(cT st 3 28).toInt,(cT st 3 29).toBool⟩:Q0g),(⟨(cT st 3 30).toInt,(cT st 3 31).toInt,(cT st 3 32).toInt,(cT st 3 33).toInt,(cT st 3 34).toInt,(cT st 3 35).toInt,(cT st 3 36).toInt,(cT st 3 37).toStr⟩:Q0b),(⟨(cT st 3 38).toInt,(cT st 3 39).toInt,(cT st 3 40).toBool,(cT st 3 41).toInt,(cT st 3 42).toBool,(cT st 3 43).toInt⟩:Q0m),(⟨(cT st 3 44).toInt,(cT st 3 45).toInt⟩:Q07),(cT st 3 46).toInt,(cT st 3 47).toBool,(cT st 3 48).toBool⟩:Q00),(cT st 3 49).toInt,(Qbp RK.apiEntry st.rows (Q2b (cT st 3 50) 1000000)),(frzR RK.apiEvent st.rows (cT st 3 51))⟩:Q01))
 ex:=λst=>[]++[(Q2b (lk st 3) (st.rows.length+0)),(Q2b (cT st 3 50) (st.rows.length+1)),(Q2b (lk st 6) (st.rows.length+2)),(Q2b (lk st 8) (st.rows.length+3))]}
def Qon:LInv:={
 α:=(Int)×Q01×(List Q0a)
 F:=λst a=>([(3, .ptr 0 0 0),(6, .ptr 2 0 0),(8, .ptr 3 0 0),(9, .clo 53 [.ptr 0 0 0, .ptr 3 0 0]),(12, .all 4),(42,(lk st 42)),(43, .int i64 a.1)],[⟨true,45,52, .gen [[.int u32 a.2.1.A0.B2.X.a0, .int u32 a.2.1.A0.B2.X.a1, .int u32 a.2.1.A0.B2.X.a2, .int u32 a.2.1.A0.B2.X.a3, .int u32 a.2.1.A0.B2.X.a4, .int u32 a.2.1.A0.B2.X.a5, .int u32 a.2.1.A0.B2.X.a6, .int u32 a.2.1.A0.B2.X.a7, .int u32 a.2.1.A0.B2.X.a8, .int u32 a.2.1.A0.B2.X.a9, .int u32 a.2.1.A0.B2.X.a10, .int u32 a.2.1.A0.B2.X.a11, .int u32 a.2.1.A0.B2.X.a12, .int u32 a.2.1.A0.B2.X.a13, .int u32 a.2.1.A0.B2.X.a14, .int u32 a.2.1.A0.B2.X.a15, .int u32 a.2.1.A0.B2.Pc, .int u32 a.2.1.A0.B2.B5.a0, .int u32 a.2.1.A0.B2.B5.a1, .int u32 a.2.1.A0.B2.B5.a2, .int u32 a.2.1.A0.B2.B5.a3, .int u32 a.2.1.A0.B2.B5.a4, .int u32 a.2.1.A0.B2.B5.a5, .int u32 a.2.1.A0.B2.B5.a6, .int u32 a.2.1.A0.B2.B5.a7, .sl 1 (.ints u32 a.2.1.A0.Mem) false, .str a.2.1.A0.A2.D3, .bool a.2.1.A0.A7.D4, .int u32 a.2.1.A0.A7.C6, .bool a.2.1.A0.A7.D6, .int u32 a.2.1.A0.B0.Blocks, .int u32 a.2.1.A0.B0.C0, .int u32 a.2.1.A0.B0.B1, .int i64 a.2.1.A0.B0.B8, .int i64 a.2.1.A0.B0.D9, .int u32 a.2.1.A0.B0.B6, .int u32 a.2.1.A0.B0.A9, .str a.2.1.A0.B0.C2, .int u32 a.2.1.A0.C5.B1, .int u32 a.2.1.A0.C5.F1, .bool a.2.1.A0.C5.C4, .int u32 a.2.1.A0.C5.B9, .bool a.2.1.A0.C5.B7, .int u32 a.2.1.A0.C5.F3, .int u32 a.2.1.A0.A1.C7, .int u32 a.2.1.A0.A1.C1, .int u64 a.2.1.A0.A4, .bool a.2.1.A0.A3, .bool a.2.1.A0.A6, .int u32 a.2.1.B4, .all 1, .sl 3 (.recs RK.apiEvent a.2.1.B3) false]]⟩,⟨false,73,4, .recs RK.apiEntry a.2.1.D1⟩,⟨true,45,52, .gen [[(cT st 6 0),(cT st 6 1),(cT st 6 2),(cT st 6 3),(cT st 6 4),(cT st 6 5),(cT st 6 6),(cT st 6 7),(cT st 6 8),(cT st 6 9),(cT st 6 10),(cT st 6 11),(cT st 6 12),(cT st 6 13),(cT st 6 14),(cT st 6 15),(cT st 6 16),(cT st 6 17),(cT st 6 18),(cT st 6 19),(cT st 6 20),(cT st 6 21),(cT st 6 22),(cT st 6 23),(cT st 6 24),(cT st 6 25),(cT st 6 26),(cT st 6 27),(cT st 6 28),(cT st 6 29),(cT st 6 30),(cT st 6 31),(cT st 6 32),(cT st 6 33),(cT st 6 34),(cT st 6 35),(cT st 6 36),(cT st 6 37),(cT st 6 38),(cT st 6 39),(cT st 6 40),(cT st 6 41),(cT st 6 42),(cT st 6 43),(cT st 6 44),(cT st 6 45),(cT st 6 46),(cT st 6 47),(cT st 6 48),(cT st 6 49),(cT st 6 50),(cT st 6 51)]]⟩,⟨true,102,1, .gen [[.clo 52 [.ptr 0 0 0]]]⟩,⟨false,112,4, .recs RK.apiOutput a.2.2⟩])
 a0:=λst=>((lk st 43).toInt,(⟨(⟨(⟨(⟨(cT st 3 0).toInt,(cT st 3 1).toInt,(cT st 3 2).toInt,(cT st 3 3).toInt,(cT st 3 4).toInt,(cT st 3 5).toInt,(cT st 3 6).toInt,(cT st 3 7).toInt,(cT st 3 8).toInt,(cT st 3 9).toInt,(cT st 3 10).toInt,(cT st 3 11).toInt,(cT st 3 12).toInt,(cT st 3 13).toInt,(cT st 3 14).toInt,(cT st 3 15).toInt⟩:(A16 Int)),(cT st 3 16).toInt,(⟨(cT st 3 17).toInt,(cT st 3 18).toInt,(cT st 3 19).toInt,(cT st 3 20).toInt,(cT st 3 21).toInt,(cT st 3 22).toInt,(cT st 3 23).toInt,(cT st 3 24).toInt⟩:(A8 Int))⟩:Q03),(slI u32 (cT st 3 25)),(⟨(cT st 3 26).toStr⟩:Q0d),(⟨(cT st 3 27).toBool,(cT st 3 28).toInt,(cT st 3 29).toBool⟩:Q0g),(⟨(cT st 3 30).toInt,(cT st 3 31).toInt,(cT st 3 32).toInt,(cT st 3 33).toInt,(cT st 3 34).toInt,(cT st 3 35).toInt,(cT st 3 36).toInt,(cT st 3 37).toStr⟩:Q0b),(⟨(cT st 3 38).toInt,(cT st 3 39).toInt,(cT st 3 40).toBool,(cT st 3 41).toInt,(cT st 3 42).toBool,(cT st 3 43).toInt⟩:Q0m),(⟨(cT st 3 44).toInt,(cT st 3 45).toInt⟩:Q07),(cT st 3 46).toInt,(cT st 3 47).toBool,(cT st 3 48).toBool⟩:Q00),(cT st 3 49).toInt,(Qbp RK.apiEntry st.rows (Q2b (cT st 3 50) 1000000)),(slR RK.apiEvent (cT st 3 51))⟩:Q01),(Qbp RK.apiOutput st.rows (rN st 12)))
 ex0:=λst=>[]++[(Q2b (lk st 3) (st.rows.length+0)),(Q2b (cT st 3 50) (st.rows.length+1)),(Q2b (lk st 6) (st.rows.length+2)),(Q2b (lk st 8) (st.rows.length+3)),(Q2b (lk st 12) (st.rows.length+4))]
 next:=λst=>((lk st 43).toInt,(⟨(⟨(⟨(⟨(cT st 3 0).toInt,(cT st 3 1).toInt,(cT st 3 2).toInt,(cT st 3 3).toInt,(cT st 3 4).toInt,(cT st 3 5).toInt,(cT st 3 6).toInt,(cT st 3 7).toInt,(cT st 3 8).toInt,(cT st 3 9).toInt,(cT st 3 10).toInt,(cT st 3 11).toInt,(cT st 3 12).toInt,(cT st 3 13).toInt,(cT st 3 14).toInt,(cT st 3 15).toInt⟩:(A16 Int)),(cT st 3 16).toInt,(⟨(cT st 3 17).toInt,(cT st 3 18).toInt,(cT st 3 19).toInt,(cT st 3 20).toInt,(cT st 3 21).toInt,(cT st 3 22).toInt,(cT st 3 23).toInt,(cT st 3 24).toInt⟩:(A8 Int))⟩:Q03),(slI u32 (cT st 3 25)),(⟨(cT st 3 26).toStr⟩:Q0d),(⟨(cT st 3 27).toBool,(cT st 3 28).toInt,(cT st 3 29).toBool⟩:Q0g),(⟨(cT st 3 30).toInt,(cT st 3 31).toInt,(cT st 3 32).toInt,(cT st 3 33).toInt,(cT st 3 34).toInt,(cT st 3 35).toInt,(cT st 3 36).toInt,(cT st 3 37).toStr⟩:Q0b),(⟨(cT st 3 38).toInt,(cT st 3 39).toInt,(cT st 3 40).toBool,(cT st 3 41).toInt,(cT st 3 42).toBool,(cT st 3 43).toInt⟩:Q0m),(⟨(cT st 3 44).toInt,(cT st 3 45).toInt⟩:Q07),(cT st 3 46).toInt,(cT st 3 47).toBool,(cT st 3 48).toBool⟩:Q00),(cT st 3 49).toInt,(Qbp RK.apiEntry st.rows (Q2b (cT st 3 50) 1000000)),(slR RK.apiEvent (cT st 3 51))⟩:Q01),(Qbp RK.apiOutput st.rows (rN st 12)))
 ex:=λst=>[]++[(Q2b (lk st 3) (st.rows.length+0)),(Q2b (cT st 3 50) (st.rows.length+1)),(Q2b (lk st 6) (st.rows.length+2)),(Q2b (lk st 8) (st.rows.length+3)),(Q2b (lk st 12) (st.rows.length+4))]}
def Qlg:List (Nat×LInv):=[(8,Qob),(15,Qon)]
def Qra:Q0f:=Q0f.fz<|mkP 21 [] false [.agg Q01.sig, .one (.int .i64), .one (.int .u32)] [] (λargs rows=>Q81 (Q01.of (args.getD 0 .dead).cells) (argI args 1) (argI args 2)) (λargs rows=>Qge (Q01.of (args.getD 0 .dead).cells) (argI args 1) (argI args 2)) (λX=> .tup [.agg (Q01.cellsW (X.1) (.sl 1 (.ints .u32 X.1.A0.Mem) false) (.all 0) (.sl 3 (.recs .apiEvent X.1.B3) false)), .all 1]) (λX=>[⟨false,73,4, .recs .apiEntry (X.1).D1⟩,⟨false,112,4, .recs .apiOutput (X.2)⟩])
theorem Qh8:Q08 Tryz.prog Qra:=fz_ok<|Q0z Q0s Q0t (.cons Qa6 (.cons Qgf (.cons Qlu (.cons Qlr (.cons Z4n (.cons Qiq (.cons Qjm (.cons Qup (.nil))))))))) Tryz.func21 Tryz.call21 (λargs rows=>Q4i (Q01.of (args.getD 0 .dead).cells) (argI args 1) (argI args 2)) [.sl (.ints .u32) false, .row 73 4 (.recs .apiEntry), .sl (.recs .apiEvent) false, .row 112 4 (.recs .apiOutput)] Qlg 3 (λ_ _ _=>by kernel_rfl) (λ_ _=>rfl) (λ_ _ h=>h) (λh=>by cases h)
end
end Go.Proofs.YtpcbkbalabgnlaaGreat
namespace Go.Proofs.YtpcbkbalabgnlaaGreat
open Go Go.GD Go.IntKind
set_option maxRecDepth 100000
noncomputable section
def tblRc0:List UInt8:=[(108:UInt8),111,111,112,58,32,105,110,32,114,49,44,32,49,10,98,101,113,32,114,49,44,32,114,48,44,32,108,111,111,112,10,105,110,32,114,50,44,32,48,10,111,117,116,32,114,50,44,32,48,10,106,97,108,32,114,48,44,32,108,111,111,112,10]
instance sumInhRc {α β:Type} [Inhabited β]:Inhabited (α⊕β):=⟨.inr default⟩
def Qg1(m:Q00)(e:Q09):Tree (Q00×Bool):=
.an (Z27 m) (.lv (Z14 m) λ(x0:Q00)=> .lv (Q7i x0) λ(x1:Bool)=> .br (!x1) (.lf (x0,false)) (.an (Qvo x0 e) (.lv (Q1r x0 e) λ(x2:Bool×Q00)=> .lf (x2.2,x2.1))))
def Qh2(m:Q00)(e:Q09):(Q00×Bool):=(Qg1 m e).m
def Qf7:Tree Q00:=
.an (Qbv tblRc0) (.lv (Q2y tblRc0) λ(x0:List Int×Q19)=> .an (Qaq 1 0 x0.1) (.lv (Qzt 1 0 x0.1) λ(x1:Q00×Bool)=> .lf x1.1))
def Qu4:Q00:=(Qf7).m
abbrev Qht:Prop:=(Qf7).p
def Z6:Q0f:=mkP 30 [] true [] [] (λargs rows=>Qht) (λargs rows=>Qu4) (λX=> .agg (Q00.cellsW X (.all 0))) (λX=>[⟨false,23,1, .ints .u32 X.Mem⟩])
theorem Z4j:Q08 Tryz.prog Z6:=Q0z Q0s Q0t (.cons Qrl (.cons Qt9 (.nil))) Tryz.func30 Tryz.call30 (λargs rows=>Qf7) [.row 23 1 (.ints .u32)] [] 2 (λ_ _ _=>by kernel_rfl) (λ_ _=>rfl) (λ_ _ h=>h) (λ_ X=>by kernel_rfl)
def Qb3:Tree Bool:=
.an (Qaq 1 0 []) (.lv (Qzt 1 0 []) λ(x0:Q00×Bool)=> .an (Qcl x0.1) (.lv (Qp6 x0.1) λ(x1:Q01)=> .an (Q96 x1 {C3:=3,N:=65,C8:=[]}) (.lv (Qhe x1 {C3:=3,N:=65,C8:=[]}) λ(x2:Q01×Bool)=> .an (Q81 x2.1 0 9) (.lv (Qge x2.1 0 9) λ(x3:Q01×List Q0a)=> .an (Qgd x3.1) (.lv (Qxt x3.1) λ(x4:Q01×List Q1h×Int)=> .an (Q96 x3.1 {C3:=1,N:=0,C8:=[]}) (.lv (Qhe x3.1 {C3:=1,N:=0,C8:=[]}) λ(x5:Q01×Bool)=> .br x2.2 (.br (!x5.2) (.br (x3.1.B4==9) (.br ((x4.2.1.length:Int)==(1:Int)) (.cn (Nat.beq 4 4&&Nat.blt 0 4&&decide ((0:Int)≤(0:Int)∧0<(x4.2.1.length:Int))) (let E1:=x4.2.1.getD (Int.toNat 0) (RK.dflt RK.apiEntry); .br (eqs [D.int u64 E1.At,D.int i64 E1.D8.C3,D.int u32 E1.D8.N,D.str E1.D8.C8] [D.int u64 0,D.int i64 3,D.int u32 65,D.str []]) (.br (x4.2.2==0) (.lf ((x4.1.D1.length:Int)==(0:Int))) (.lf false)) (.lf false))) (.lf false)) (.lf false)) (.lf false)) (.lf false)))))))
def Q8m:Bool:=(Qb3).m
abbrev Q46:Prop:=(Qb3).p
def Qzo:Q0f:=mkP 13 [] true [] [] (λargs rows=>Q46) (λargs rows=>Q8m) (λX=> .bool X) (λX=>[])
theorem Qw8:Q08 Tryz.prog Qzo:=Q0z Q0s Q0t (.cons Qt9 (.cons Qr5 (.cons Qnt (.cons Qh8 (.cons Qyz (.nil)))))) Tryz.func13 Tryz.call13 (λargs rows=>Qb3) [] [] 2 (λ_ _ _=>by kernel_rfl) (λ_ _=>rfl) (λ_ _ h=>h) (λ_ X=>by kernel_rfl)
end
end Go.Proofs.YtpcbkbalabgnlaaGreat
namespace Go.Proofs.YtpcbkbalabgnlaaGreat
open Go Go.GD Go.IntKind
set_option maxRecDepth 100000
noncomputable section
instance sumInhRh {α β:Type} [Inhabited β]:Inhabited (α⊕β):=⟨.inr default⟩
def Q73(deadline:Int)(steps:Int)(clock:Int):Tree Bool:=
.br (decide (steps<0)) (.an Q46 (.lv Q8m λ(x0:Bool)=> .lf x0)) (.br (decide (steps>80)) (.an Q46 (.lv Q8m λ(x1:Bool)=> .lf x1)) (.an Qht (.lv Qu4 λ(x2:Q00)=>let E4:=({B2:=x2.B2,Mem:=x2.Mem,A2:=x2.A2,A7:={D4:=true,C6:=wrap u32 (1+Int.tmod deadline 60),D6:=false},B0:=x2.B0,C5:=x2.C5,A1:=x2.A1,A4:=x2.A4,A3:=x2.A3,A6:=x2.A6}:Q00); .an (Qcl E4) (.lv (Qp6 E4) λ(x3:Q01)=> .an (Q81 x3 steps (Int.tmod clock 60)) (.lv (Qge x3 steps (Int.tmod clock 60)) λ(x4:Q01×List Q0a)=>let T1:Tree (Bool):= .br (x4.1.A0.A4==wrap u64 steps) (.an Q46 (.lv Q8m λ(x5:Bool)=> .lf x5)) (.lf false);let T2:Tree (Bool):= .br ((x4.1.D1.length:Int)==(0:Int)) (.br x4.1.A0.A7.D4 T1 (.lf false)) (.lf false);let E3:=x4.1.D1.getD (Int.toNat 0) (RK.dflt RK.apiEntry);let E5:=Nat.beq 4 4&&Nat.blt 0 4&&decide ((0:Int)≤(0:Int)∧0<(x4.1.D1.length:Int)); .br (decide (wrap u32 (1+Int.tmod deadline 60)>Int.tmod clock 60)) (let E6:=wrap u32 (wrap u32 (1+Int.tmod deadline 60)-Int.tmod clock 60); .br (decide (wrap u64 steps≤wrap u64 E6)) T2 (.br ((x4.1.D1.length:Int)==(1:Int)) (.cn E5 (.br (eqs [D.int u64 E3.At,D.int i64 E3.D8.C3,D.int u32 E3.D8.N,D.str E3.D8.C8] [D.int u64 (wrap u64 E6),D.int i64 2,D.int u32 0,D.str []]) (.br x4.1.A0.A7.D6 T1 (.lf false)) (.lf false))) (.lf false))) (.br (decide (wrap u64 steps≤0)) T2 (.br ((x4.1.D1.length:Int)==(1:Int)) (.cn E5 (.br (eqs [D.int u64 E3.At,D.int i64 E3.D8.C3,D.int u32 E3.D8.N,D.str E3.D8.C8] [D.int u64 0,D.int i64 2,D.int u32 0,D.str []]) (.br x4.1.A0.A7.D6 T1 (.lf false)) (.lf false))) (.lf false))))))))
def Qcb(deadline:Int)(steps:Int)(clock:Int):Bool:=(Q73 deadline steps clock).m
abbrev Qcm(deadline:Int)(steps:Int)(clock:Int):Prop:=(Q73 deadline steps clock).p
def Qm5:Q0f:=mkP 6 [] true [.one (.int .u32), .one (.int .i64), .one (.int .u32)] [] (λargs rows=>Qcm (argI args 0) (argI args 1) (argI args 2)) (λargs rows=>Qcb (argI args 0) (argI args 1) (argI args 2)) (λX=> .bool X) (λX=>[])
theorem Qkv:Q08 Tryz.prog Qm5:=Q0z Q0s Q0t (.cons Qw8 (.cons Z4j (.cons Qh8 (.cons Qnt (.nil))))) Tryz.func6 Tryz.call6 (λargs rows=>Q73 (argI args 0) (argI args 1) (argI args 2)) [] [] 2 (λ_ _ _=>by kernel_rfl) (λ_ _=>rfl) (λ_ _ h=>h) (λ_ X=>by kernel_rfl)
end
end Go.Proofs.YtpcbkbalabgnlaaGreat

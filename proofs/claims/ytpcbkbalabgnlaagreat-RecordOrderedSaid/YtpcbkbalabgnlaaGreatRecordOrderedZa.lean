/-
  Functions of the program: models, and that its calls come to them (by a program: gen3.py).
-/
import Derived.Test.YtpcbkbalabgnlaaGreatRecordOrderedBase
import Derived.Test.YtpcbkbalabgnlaaGreatRecordOrderedYe
set_option linter.unusedVariables false
set_option linter.unusedSimpArgs false
namespace Go.Proofs.YtpcbkbalabgnlaaGreat
open Go Go.GD Go.IntKind
set_option maxRecDepth 100000
noncomputable section
def Qe2(m:(List Int)):Tree (List Int):=
.cn (Nat.blt (0:Nat) (1:Nat)&&Nat.beq (1:Nat) (1:Nat)&&List.all [D.int u32 (0:Int)] D.plain&&decide ((0:Int)≤(m.length:Int)∧(m.length:Int)≤(m.length:Int)∧(m.length:Int)≤(9223372036854775807:Int)∧(↑(4:Nat):Int)*(m.length:Int)≤(140737488355328:Int))) (let E1:=List.length (List.replicate (Int.toNat (m.length:Int)) (0:Int)); .lf (List.take (Min.min (m.length) E1) m++List.drop (Min.min (m.length) E1) (List.replicate (Int.toNat (m.length:Int)) (0:Int))))
def Qs3(m:(List Int)):(List Int):=(Qe2 m).m
abbrev Qs2(m:(List Int)):Prop:=(Qe2 m).p
def Ze:Q0d:=mkP 83 [] true [.one (.ints .u32)] [] (λargs rows=>Qs2 (argL .u32 args 0)) (λargs rows=>Qs3 (argL .u32 args 0)) (λX=> .all 0) (λX=>[⟨false,23,1, .ints .u32 X⟩])
theorem Za2:Q05 Tryz.prog Ze:=Q0n Q0i Q0j (.nil) Tryz.func83 Tryz.call83 (λargs rows=>Qe2 (argL .u32 args 0)) [.row 23 1 (.ints .u32)] [] 2 (λ_ _ _=>by kernel_rfl) (λ_ _=>rfl) (λ_ _ h=>h) (λ_ X=>by kernel_rfl)
def Qgj(m:Q00):Tree Q00:=
.an (Qs2 m.Mem) (.lv (Qs3 m.Mem) λ(x0:List Int)=> .lf ({B3:=m.B3,Mem:=x0,A3:=m.A3,B0:=m.B0,B1:=m.B1,C5:=m.C5,A1:=m.A1,A2:=m.A2,A6:=m.A6,A9:=m.A9}))
def Qnk(m:Q00):Q00:=(Qgj m).m
abbrev Qiw(m:Q00):Prop:=(Qgj m).p
def Zjy:Q0d:=mkP 43 [] true [.agg Q00.sig] [] (λargs rows=>Qiw (Q00.of (args.getD 0 .dead).cells)) (λargs rows=>Qnk (Q00.of (args.getD 0 .dead).cells)) (λX=> .agg (Q00.cellsW X (.all 0))) (λX=>[⟨false,23,1, .ints .u32 X.Mem⟩])
theorem Zcw:Q05 Tryz.prog Zjy:=Q0n Q0i Q0j (.cons Za2 (.nil)) Tryz.func43 Tryz.call43 (λargs rows=>Qgj (Q00.of (args.getD 0 .dead).cells)) [.row 23 1 (.ints .u32)] [] 2 (λ_ _ _=>by kernel_rfl) (λ_ _=>rfl) (λ_ _ h=>h) (λ_ X=>by kernel_rfl)
def Qp4(n:Int)(k:Int)(z:(Int)×(List Int)):Prop:=0≤z.1∧(z.2.length:Int)=z.1∧(z.1≤k∨z.1=0)
def Qd9(n:Int)(k:Int)(z:(Int)×(List Int)):Nat:=(k-z.1).toNat
def Qdp(n:Int)(k:Int):Tree (List UInt8):=
.lp inferInstance (Qd9 n k (0,[])+1) ((rE (n:Int)∧rE (k:Int)∧True∧rE (0:Int)∧True)∧rE ([]:List Int)∧True) (0,[]) λ(v0:Int×List Int)=> .br (decide (v0.1<k)) (.lv (Q4x n (wrap i64 (Int.tdiv v0.1 9))) λ(x0:Int)=> .cn (decide (1*(v0.2.length+1)≤140737488355328)) (.nx ((rE (n:Int)∧rE (k:Int)∧True∧rE ((wrap i64 (v0.1+1)):Int)∧True)∧rE ((v0.2++[wrap u8 x0]):List Int)∧True) (Sum.inl (wrap i64 (v0.1+1),v0.2++[wrap u8 x0])))) (.lf (Sum.inr (bytesOf v0.2)))
def Qq9(n:Int)(k:Int):(List UInt8):=(Qdp n k).m
def Qa4(n:Int)(k:Int):Prop:=
k≤1000000000000
theorem Z6g(n:Int)(k:Int)(hw:Qa4 n k):(Qdp n k).p:=by
 simp only[Qa4]at hw
 unfold Tree.p Qdp
 repeat'(first|refine w_lp (inv:=Qp4 n k) (μ:=Qd9 n k) ?_ (Nat.lt_succ_self _) (λ_ _=> ?_)|exact trivial|refine w_br (λ_=> ?_) (λ_=> ?_)|refine w_cn ?_ ?_|refine w_an ?_ ?_|refine w_lv (λ_ _=> ?_)|refine w_nx ?_|refine w_lf ?_|refine And.intro ?_ ?_)
 all_goals((try simp only[Qp4,Qd9]at*);((subst_vars;first|trivial|assumption|omega|((simp(config:={decide:=true,failIfUnchanged:=false}) only[Bool.and_eq_true,Bool.or_eq_true,Bool.and_eq_false_iff,Bool.or_eq_false_iff,Bool.not_eq_true',Bool.not_eq_false',Bool.not_eq_true,Bool.not_eq_false,decide_eq_true_eq,decide_eq_false_iff_not,Q74,Q4y,Q77,Q4u,beq_iff_eq,beq_eq_false_iff_ne,bne_iff_ne,bne_eq_false_iff_eq,ne_eq,List.all_cons,List.all_nil,D.plain,List.length_cons,List.length_nil,List.length_append,List.length_set,List.length_replicate,IntKind.wrap_i64,IntKind.wrap_u64,IntKind.wrap_u32,IntKind.wrap_i32,IntKind.wrap_u8,true_and,and_true,or_false,false_or,or_true,true_or,not_true_eq_false,not_false_eq_true,Prod.fst,Prod.snd]at*);first|done|assumption|omega)|((simp(config:={decide:=true,failIfUnchanged:=false}) only[Bool.and_eq_true,Bool.or_eq_true,Bool.and_eq_false_iff,Bool.or_eq_false_iff,Bool.not_eq_true',Bool.not_eq_false',Bool.not_eq_true,Bool.not_eq_false,decide_eq_true_eq,decide_eq_false_iff_not,Q74,Q4y,Q77,Q4u,beq_iff_eq,beq_eq_false_iff_ne,bne_iff_ne,bne_eq_false_iff_eq,ne_eq,List.all_cons,List.all_nil,D.plain,List.length_cons,List.length_nil,List.length_append,List.length_set,List.length_replicate,IntKind.wrap_i64,IntKind.wrap_u64,IntKind.wrap_u32,IntKind.wrap_i32,IntKind.wrap_u8,true_and,and_true,or_false,false_or,or_true,true_or,not_true_eq_false,not_false_eq_true,Prod.fst,Prod.snd]at*);simp only[←List.length_pos_iff]at*;omega)|(simp_all;done)|(have:= @Qje;simp_all;try omega))))
def Zap:LInv:={
 α:=(Int)×(List Int)
 F:=λst a=>([(0,(lk st 0)),(1,(lk st 1)),(5, .all 0),(6, .int i64 a.1)],[⟨false,5,1, .ints u8 a.2⟩])
 a0:=λst=>((lk st 6).toInt,(Q8 st.rows (rN st 5)))
 ex0:=λst=>[]++[(Q1 (lk st 5) (st.rows.length+0))]
 next:=λst=>((lk st 6).toInt,(Q8 st.rows (rN st 5)))
 ex:=λst=>[]++[(Q1 (lk st 5) (st.rows.length+0))]}
def Z1y:List (Nat×LInv):=[(3,Zap)]
def Zdh:Q0d:=mkP 46 [] true [.one (.int .i64), .one (.int .i64)] [] (λargs rows=>Qa4 (argI args 0) (argI args 1)) (λargs rows=>Qq9 (argI args 0) (argI args 1)) (λX=> .str X) (λX=>[])
theorem Zbb:Q05 Tryz.prog Zdh:=Q0n Q0i Q0j (.cons Qkq (.nil)) Tryz.func46 Tryz.call46 (λargs rows=>Qdp (argI args 0) (argI args 1)) [] Z1y 3 (λ_ _ _=>by kernel_rfl) (λ_ _=>rfl) (λargs rows h=>Z6g (argI args 0) (argI args 1) h) (λ_ X=>by kernel_rfl)
def Qpi(r:Q01):Tree Q01:=
.an (Qiw r.A0) (.lv (Qnk r.A0) λ(x0:Q00)=> .cn (decide (40*(0+r.C4.length)≤140737488355328)) (.cn (decide (32*(0+r.A4.length)≤140737488355328)) (.lf ({A0:=x0,A7:=r.A7,C4:=r.C4,A4:=r.A4}))))
def Qqt(r:Q01):Q01:=(Qpi r).m
abbrev Qrk(r:Q01):Prop:=(Qpi r).p
def Qkj(e:Q09):Tree Bool:=
.br (e.B5==1) (.lf (decide (e.C6=[]))) (.br (e.B5==6) (.lf (decide (e.C6=[]))) (.br (e.B5==2) (.br (e.N==0) (.lf (decide (e.C6=[]))) (.lf false)) (.br (e.B5==3) (.br (decide (e.N≤255)) (.lf (decide (e.C6=[]))) (.lf false)) (.br (e.B5==4) (.br (decide (e.N≤1)) (.br (decide (e.C6=[])) (.lf true) (.br (e.N==1) (.lf ((e.C6.length:Int)==(128:Int))) (.lf false))) (.lf false)) (.br (e.B5==5) (.br (e.N==0) (.br (decide ((e.C6.length:Int)≥(1:Int))) (.lf (decide ((e.C6.length:Int)≤(128:Int)))) (.lf false)) (.lf false)) (.lf false))))))
def Q37(e:Q09):Bool:=(Qkj e).m
def Z78:Q0d:=mkR 34 [] true [.agg Q09.sig] [] (λargs rows=>Q37 (Q09.of (args.getD 0 .dead).cells)) (λX=> .bool X) (λX=>[])
theorem Z0s:Q05 Tryz.prog Z78:=Q0z Q0i Q0j (.nil) Tryz.func34 Tryz.call34 (λargs rows=>Qkj (Q09.of (args.getD 0 .dead).cells)) [] [] 2 (λ_ _ _=>by kernel_rfl) (λ_ _=>rfl) (λ_ _=>Tree.free_ok (by kernel_rfl)) (λ_ X=>by kernel_rfl)
def Qj6(r:Q01)(e:Q09):Tree (Q01×Bool):=
.an (Qrk r) (.lv (Qqt r) λ(x0:Q01)=> .lv (Q37 e) λ(x1:Bool)=> .br (!x1) (.lf (x0,false)) (.br (e.B5==1) (.lf (x0,false)) (.br (decide ((x0.A4.length:Int)≥(16:Int))) (.lf (x0,false)) (.cn (decide (32*(x0.A4.length+1)≤140737488355328)) (.lf ({A0:=x0.A0,A7:=x0.A7,C4:=x0.C4,A4:=x0.A4++[e]},true))))))
def Q2w(r:Q01)(e:Q09):(Q01×Bool):=(Qj6 r e).m
abbrev Qvv(r:Q01)(e:Q09):Prop:=(Qj6 r e).p
def Q9v(n:Int):Tree Q09:=
.lv (Q4x n 2) λ(x0:Int)=> .br (Int.tmod x0 (7:Int)==(0:Int)) (.lf ({B5:=2,N:=0,C6:=[]})) (.br (Int.tmod x0 (7:Int)==(1:Int)) (.lf ({B5:=3,N:=wrap u32 (iand i64 (ishr i64 x0 8) 255),C6:=[]})) (.br (Int.tmod x0 (7:Int)==(2:Int)) (.lf ({B5:=3,N:=wrap u32 (iand i64 (ishr i64 x0 8) 255),C6:=[]})) (.br (Int.tmod x0 (7:Int)==(3:Int)) (.lf ({B5:=4,N:=1,C6:=[]})) (.br (Int.tmod x0 (7:Int)==(4:Int)) (.an (Qa4 x0 128) (.lv (Qq9 x0 128) λ(x1:List UInt8)=> .lf ({B5:=4,N:=1,C6:=x1}))) (.br (Int.tmod x0 (7:Int)==(5:Int)) (let E1:=wrap i64 (1+Int.tmod (ishr i64 x0 8) 40); .an (Qa4 x0 E1) (.lv (Qq9 x0 E1) λ(x2:List UInt8)=> .lf ({B5:=5,N:=0,C6:=x2}))) (.br (Int.tmod (ishr i64 x0 8) (4:Int)==(0:Int)) (.lf ({B5:=4,N:=0,C6:=[]})) (.lf ({B5:=6,N:=wrap u32 (Int.tmod (ishr i64 x0 8) 3),C6:=[]}))))))))
def Q8y(n:Int):Q09:=(Q9v n).m
abbrev Qj7(n:Int):Prop:=(Q9v n).p
def Za7:Q0d:=mkP 17 [] true [.one (.int .i64)] [] (λargs rows=>Qj7 (argI args 0)) (λargs rows=>Q8y (argI args 0)) (λX=> .agg (Q09.cells X)) (λX=>[])
theorem Z7r:Q05 Tryz.prog Za7:=Q0n Q0i Q0j (.cons Qkq (.cons Zbb (.nil))) Tryz.func17 Tryz.call17 (λargs rows=>Q9v (argI args 0)) [] [] 2 (λ_ _ _=>by kernel_rfl) (λ_ _=>rfl) (λ_ _ h=>h) (λ_ X=>by kernel_rfl)
def Qm7(m:(List Int)):Tree Int:=
.br (Int.tmod (m.length:Int) (32:Int) !=(0:Int)) (.lf 0) (.br (decide ((m.length:Int)>(1024:Int))) (.lf 0) (.lf (wrap i64 (Int.tdiv (m.length:Int) 32))))
def Q44(m:(List Int)):Int:=(Qm7 m).m
def Zbq:Q0d:=mkR 65 [] true [.one (.ints .u32)] [] (λargs rows=>Q44 (argL .u32 args 0)) (λX=> .int .i64 X) (λX=>[])
theorem Qcr:Q05 Tryz.prog Zbq:=Q0z Q0i Q0j (.nil) Tryz.func65 Tryz.call65 (λargs rows=>Qm7 (argL .u32 args 0)) [] [] 2 (λ_ _ _=>by kernel_rfl) (λ_ _=>rfl) (λ_ _=>Tree.free_ok (by kernel_rfl)) (λ_ X=>by kernel_rfl)
def Qk(c:Q0b):Tree Bool:=
.lf (decide ((c.D1.length:Int)≤(16:Int)))
def Qi1(c:Q0b):Bool:=(Qk c).m
def Qsn:Q0d:=mkR 66 [] true [.agg Q0b.sig] [] (λargs rows=>Qi1 (Q0b.of (args.getD 0 .dead).cells)) (λX=> .bool X) (λX=>[])
theorem Qru:Q05 Tryz.prog Qsn:=Q0z Q0i Q0j (.nil) Tryz.func66 Tryz.call66 (λargs rows=>Qk (Q0b.of (args.getD 0 .dead).cells)) [] [] 2 (λ_ _ _=>by kernel_rfl) (λ_ _=>rfl) (λ_ _=>Tree.free_ok (by kernel_rfl)) (λ_ X=>by kernel_rfl)
def Qhv(t:Q0h):Tree Bool:=
.br t.D7 (.br t.D6 (.lf false) (.br t.D7 (.lf (t.C8 !=0)) (.br t.D6 (.lf true) (.lf (t.C8==0))))) (.br t.D7 (.lf (t.C8 !=0)) (.br t.D6 (.lf true) (.lf (t.C8==0))))
def Qcq(t:Q0h):Bool:=(Qhv t).m
def Qy6:Q0d:=mkR 67 [] true [.agg Q0h.sig] [] (λargs rows=>Qcq (Q0h.of (args.getD 0 .dead).cells)) (λX=> .bool X) (λX=>[])
theorem Qw6:Q05 Tryz.prog Qy6:=Q0z Q0i Q0j (.nil) Tryz.func67 Tryz.call67 (λargs rows=>Qhv (Q0h.of (args.getD 0 .dead).cells)) [] [] 2 (λ_ _ _=>by kernel_rfl) (λ_ _=>rfl) (λ_ _=>Tree.free_ok (by kernel_rfl)) (λ_ X=>by kernel_rfl)
def Qiz(d0:Q0c)(pages:Int):Tree Bool:=
.br (decide (d0.Blocks>64)) (.lf false) (.br (decide (d0.B9<0)) (.lf false) (.br (decide (d0.B9>3)) (.lf false) (.br (d0.B9 !=1) (.br (d0.D8==0) (.br (d0.B7==0) (.br (d0.B2==0) (.lf (decide (d0.C3=[]))) (.lf false)) (.lf false)) (.lf false)) (.br (decide (d0.B7≥d0.Blocks)) (.lf false) (.br (decide (wrap i64 d0.B2≥pages)) (.lf false) (.br (d0.D8==1) (.br (decide (d0.C3=[])) (.lf true) (.br (d0.D8==2) (.lf ((d0.C3.length:Int)==(128:Int))) (.lf false))) (.br (d0.D8==2) (.lf ((d0.C3.length:Int)==(128:Int))) (.lf false))))))))
def Qeq(d0:Q0c)(pages:Int):Bool:=(Qiz d0 pages).m
def Z2b:Q0d:=mkR 68 [] true [.agg Q0c.sig, .one (.int .i64)] [] (λargs rows=>Qeq (Q0c.of (args.getD 0 .dead).cells) (argI args 1)) (λX=> .bool X) (λX=>[])
theorem Qya:Q05 Tryz.prog Z2b:=Q0z Q0i Q0j (.nil) Tryz.func68 Tryz.call68 (λargs rows=>Qiz (Q0c.of (args.getD 0 .dead).cells) (argI args 1)) [] [] 2 (λ_ _ _=>by kernel_rfl) (λ_ _=>rfl) (λ_ _=>Tree.free_ok (by kernel_rfl)) (λ_ X=>by kernel_rfl)
def Qkr(n:Q0m)(pages:Int):Tree Bool:=
let T1:Tree (Bool):= .br n.B8 (.br (decide (n.F2≥1)) (.lf (decide (n.F2≤128))) (.lf false)) (.lf (n.F2==0)); .br n.C7 (.br n.B8 (.lf false) (.br (decide (wrap i64 n.C0≥pages)) (.lf false) (.br (!n.C7) (.br (n.C0 !=0) (.lf false) T1) T1))) (.br (!n.C7) (.br (n.C0 !=0) (.lf false) T1) T1)
def Qgr(n:Q0m)(pages:Int):Bool:=(Qkr n pages).m
def Z4z:Q0d:=mkR 69 [] true [.agg Q0m.sig, .one (.int .i64)] [] (λargs rows=>Qgr (Q0m.of (args.getD 0 .dead).cells) (argI args 1)) (λX=> .bool X) (λX=>[])
theorem Z1:Q05 Tryz.prog Z4z:=Q0z Q0i Q0j (.nil) Tryz.func69 Tryz.call69 (λargs rows=>Qkr (Q0m.of (args.getD 0 .dead).cells) (argI args 1)) [] [] 2 (λ_ _ _=>by kernel_rfl) (λ_ _=>rfl) (λ_ _=>Tree.free_ok (by kernel_rfl)) (λ_ X=>by kernel_rfl)
def Qfu(b:Q06)(pages:Int)(z:(Int)):Prop:=0≤z∧z≤32
def Q6m(b:Q06)(pages:Int)(z:(Int)):Nat:=(32-z).toNat
def Q5r(b:Q06)(pages:Int):Tree Bool:=
.lp inferInstance (Q6m b pages 0+1) ((rE (pages:Int)∧(rE (0:Nat)∧rE (0:Nat))∧rE (0:Int)∧True)∧(rE b.C9∧rE b.C1∧True)∧True) 0 λ(v0:Int)=> .br (decide (v0<32)) (.cn (decide (0≤wrap u64 v0)) (let T1:Tree ((Int)⊕(Bool)):= .nx ((rE (pages:Int)∧(rE (0:Nat)∧rE (0:Nat))∧rE ((wrap i64 (v0+1)):Int)∧True)∧(rE b.C9∧rE b.C1∧True)∧True) (Sum.inl (wrap i64 (v0+1))); .br (iand u32 (ishr u32 b.C1 (wrap u64 v0)) (1:Int)==(1:Int)) (.br (decide (v0≥pages)) (.lf (Sum.inr false)) T1) T1)) (.lf (Sum.inr true))
def Q9i(b:Q06)(pages:Int):Bool:=(Q5r b pages).m
theorem Qpd(b:Q06)(pages:Int):(Q5r b pages).p:=by
 unfold Tree.p Q5r
 repeat'(first|refine w_lp (inv:=Qfu b pages) (μ:=Q6m b pages) ?_ (Nat.lt_succ_self _) (λ_ _=> ?_)|exact trivial|refine w_br (λ_=> ?_) (λ_=> ?_)|refine w_cn ?_ ?_|refine w_an ?_ ?_|refine w_lv (λ_ _=> ?_)|refine w_nx ?_|refine w_lf ?_|refine And.intro ?_ ?_)
 all_goals((try simp only[Qfu,Q6m]at*);((subst_vars;first|trivial|assumption|omega|((simp(config:={decide:=true,failIfUnchanged:=false}) only[Bool.and_eq_true,Bool.or_eq_true,Bool.and_eq_false_iff,Bool.or_eq_false_iff,Bool.not_eq_true',Bool.not_eq_false',Bool.not_eq_true,Bool.not_eq_false,decide_eq_true_eq,decide_eq_false_iff_not,Q74,Q4y,Q77,Q4u,beq_iff_eq,beq_eq_false_iff_ne,bne_iff_ne,bne_eq_false_iff_eq,ne_eq,List.all_cons,List.all_nil,D.plain,List.length_cons,List.length_nil,List.length_append,List.length_set,List.length_replicate,IntKind.wrap_i64,IntKind.wrap_u64,IntKind.wrap_u32,IntKind.wrap_i32,IntKind.wrap_u8,true_and,and_true,or_false,false_or,or_true,true_or,not_true_eq_false,not_false_eq_true,Prod.fst,Prod.snd]at*);first|done|assumption|omega)|((simp(config:={decide:=true,failIfUnchanged:=false}) only[Bool.and_eq_true,Bool.or_eq_true,Bool.and_eq_false_iff,Bool.or_eq_false_iff,Bool.not_eq_true',Bool.not_eq_false',Bool.not_eq_true,Bool.not_eq_false,decide_eq_true_eq,decide_eq_false_iff_not,Q74,Q4y,Q77,Q4u,beq_iff_eq,beq_eq_false_iff_ne,bne_iff_ne,bne_eq_false_iff_eq,ne_eq,List.all_cons,List.all_nil,D.plain,List.length_cons,List.length_nil,List.length_append,List.length_set,List.length_replicate,IntKind.wrap_i64,IntKind.wrap_u64,IntKind.wrap_u32,IntKind.wrap_i32,IntKind.wrap_u8,true_and,and_true,or_false,false_or,or_true,true_or,not_true_eq_false,not_false_eq_true,Prod.fst,Prod.snd]at*);simp only[←List.length_pos_iff]at*;omega)|(simp_all;done)|(have:= @Qje;simp_all;try omega))))
def Qs4:LInv:={
 α:=(Int)
 F:=λst a=>([(1,(lk st 1)),(2, .ptr 0 0 0),(5, .int i64 a)],[⟨true,38,2, .gen [[(cT st 2 0),(cT st 2 1)]]⟩])
 a0:=λst=>(lk st 5).toInt
 ex0:=λst=>[]++[(Q1 (lk st 2) (st.rows.length+0))]
 next:=λst=>(lk st 5).toInt
 ex:=λst=>[]++[(Q1 (lk st 2) (st.rows.length+0))]}
def Qoe:List (Nat×LInv):=[(2,Qs4)]
def Qt8:Q0d:=mkR 70 [] true [.agg Q06.sig, .one (.int .i64)] [] (λargs rows=>Q9i (Q06.of (args.getD 0 .dead).cells) (argI args 1)) (λX=> .bool X) (λX=>[])
theorem Qqu:Q05 Tryz.prog Qt8:=Q0z Q0i Q0j (.nil) Tryz.func70 Tryz.call70 (λargs rows=>Q5r (Q06.of (args.getD 0 .dead).cells) (argI args 1)) [] Qoe 3 (λ_ _ _=>by kernel_rfl) (λ_ _=>rfl) (λargs rows=>Qpd (Q06.of (args.getD 0 .dead).cells) (argI args 1)) (λ_ X=>by kernel_rfl)
def Qta(m:Q00):Tree Bool:=
.lv (Q44 m.Mem) λ(x0:Int)=> .br (decide (x0<1)) (.lf false) (.br (m.B3.X.a0 !=0) (.lf false) (.br (decide (m.B3.B6.a0>31)) (.lf false) (.br (decide (m.B3.B6.a7>31)) (.lf false) (.br (decide (m.B3.B6.a6>255)) (.lf false) (.br (Int.tmod m.B3.B6.a1 (4:Int) !=(0:Int)) (.lf false) (.lv (Qi1 m.A3) λ(x1:Bool)=> .br (!x1) (.lf false) (.lv (Qcq m.B0) λ(x2:Bool)=> .br (!x2) (.lf false) (.lv (Qeq m.B1 x0) λ(x3:Bool)=> .br (!x3) (.lf false) (.lv (Qgr m.C5 x0) λ(x4:Bool)=> .br (!x4) (.lf false) (.lv (Q9i m.A1 x0) λ(x5:Bool)=> .br (!x5) (.lf false) (.br (decide (m.A2≤1152921504606846976)) (.br m.A6 (.lf (!m.A9)) (.lf true)) (.lf false))))))))))))
def Q7e(m:Q00):Bool:=(Qta m).m
def Zjo:Q0d:=mkR 32 [] true [.agg Q00.sig] [] (λargs rows=>Q7e (Q00.of (args.getD 0 .dead).cells)) (λX=> .bool X) (λX=>[])
theorem Ze5:Q05 Tryz.prog Zjo:=Q0z Q0i Q0j (.cons Qcr (.cons Qru (.cons Qw6 (.cons Qya (.cons Z1 (.cons Qqu (.nil))))))) Tryz.func32 Tryz.call32 (λargs rows=>Qta (Q00.of (args.getD 0 .dead).cells)) [] [] 2 (λ_ _ _=>by kernel_rfl) (λ_ _=>rfl) (λ_ _=>Tree.free_ok (by kernel_rfl)) (λ_ X=>by kernel_rfl)
def Ql8(t:Q0h):Tree (Q0h×Bool):=
.br (!t.D7) (.lf (t,false)) (.lf ({D7:=false,C8:=t.C8,D6:=true},true))
def Qkc(t:Q0h):(Q0h×Bool):=(Ql8 t).m
def Zei:Q0d:=mkR 107 [] true [.agg Q0h.sig] [] (λargs rows=>Qkc (Q0h.of (args.getD 0 .dead).cells)) (λX=> .tup [.agg (Q0h.cells (X.1)), .bool (X.2)]) (λX=>[])
theorem Zbr:Q05 Tryz.prog Zei:=Q0z Q0i Q0j (.nil) Tryz.func107 Tryz.call107 (λargs rows=>Ql8 (Q0h.of (args.getD 0 .dead).cells)) [] [] 2 (λ_ _ _=>by kernel_rfl) (λ_ _=>rfl) (λ_ _=>Tree.free_ok (by kernel_rfl)) (λ_ X=>by kernel_rfl)
def Qbp(c:Q0b)(b:Int):Tree (Q0b×Bool):=
.br (decide ((c.D1.length:Int)≥(16:Int))) (.lf (c,false)) (.cn (decide (c.D1.length+1≤maxLen)) (.lf ({D1:=c.D1++[(λ(n:Int)=>UInt8.ofNat n.toNat) b]},true)))
def Qk2(c:Q0b)(b:Int):(Q0b×Bool):=(Qbp c b).m
abbrev Qkm(c:Q0b)(b:Int):Prop:=(Qbp c b).p
def Zf:Q0d:=mkP 108 [] true [.agg Q0b.sig, .one (.int .u8)] [] (λargs rows=>Qkm (Q0b.of (args.getD 0 .dead).cells) (argI args 1)) (λargs rows=>Qk2 (Q0b.of (args.getD 0 .dead).cells) (argI args 1)) (λX=> .tup [.agg (Q0b.cells (X.1)), .bool (X.2)]) (λX=>[])
theorem Za1:Q05 Tryz.prog Zf:=Q0n Q0i Q0j (.nil) Tryz.func108 Tryz.call108 (λargs rows=>Qbp (Q0b.of (args.getD 0 .dead).cells) (argI args 1)) [] [] 2 (λ_ _ _=>by kernel_rfl) (λ_ _=>rfl) (λ_ _ h=>h) (λ_ X=>by kernel_rfl)
def Qgk(m:(List Int))(frame:Int):Tree Bool:=
.lv (Q44 m) λ(x0:Int)=> .lf (decide (wrap u64 frame<wrap u64 x0))
def Q25(m:(List Int))(frame:Int):Bool:=(Qgk m frame).m
def Ze1:Q0d:=mkR 162 [] true [.one (.ints .u32), .one (.int .u32)] [] (λargs rows=>Q25 (argL .u32 args 0) (argI args 1)) (λX=> .bool X) (λX=>[])
theorem Qf4:Q05 Tryz.prog Ze1:=Q0z Q0i Q0j (.cons Qcr (.nil)) Tryz.func162 Tryz.call162 (λargs rows=>Qgk (argL .u32 args 0) (argI args 1)) [] [] 2 (λ_ _ _=>by kernel_rfl) (λ_ _=>rfl) (λ_ _=>Tree.free_ok (by kernel_rfl)) (λ_ X=>by kernel_rfl)
def Qdv(m:(List Int))(addr:Int)(size:Int)(v:Int):Tree (List Int):=
let E1:=Nat.beq 1 1&&Nat.blt 0 1&&decide (0≤wrap u32 (Int.tdiv addr 4)∧wrap u32 (Int.tdiv addr 4)<(m.length:Int));let E2:=Int.toNat (wrap u32 (Int.tdiv addr 4)); .br (size==4) (.cn E1 (.lf (List.set m E2 v))) (.cn E1 (let E3:=decide (0≤wrap u32 (8*Int.tmod addr 4)); .cn E3 (.cn E3 (.cn E1 (.lf (List.set m E2 (ior u32 (Qg u32 (m.getD E2 0) (ishl u32 255 (wrap u32 (8*Int.tmod addr 4)))) (ishl u32 (iand u32 v 255) (wrap u32 (8*Int.tmod addr 4))))))))))
def Qa5(m:(List Int))(addr:Int)(size:Int)(v:Int):(List Int):=(Qdv m addr size v).m
abbrev Qes(m:(List Int))(addr:Int)(size:Int)(v:Int):Prop:=(Qdv m addr size v).p
def Zk3:Q0d:=mkP 207 [true,false,false,false] true [.one (.row 0), .one (.int .u32), .one (.int .i64), .one (.int .u32)] [.arr 23 1 (.ints .u32)] (λargs rows=>Qes (rowL .u32 rows 0) (argI args 1) (argI args 2) (argI args 3)) (λargs rows=>Qa5 (rowL .u32 rows 0) (argI args 1) (argI args 2) (argI args 3)) (λX=> .tup []) (λX=>[⟨false,23,1, .ints .u32 X⟩])
theorem Qxl:Q05 Tryz.prog Zk3:=Q0n Q0i Q0j (.nil) Tryz.func207 Tryz.call207 (λargs rows=>Qdv (rowL .u32 rows 0) (argI args 1) (argI args 2) (argI args 3)) [] [] 2 (λ_ _ _=>by kernel_rfl) (λ_ _=>rfl) (λ_ _ h=>h) (λ_ X=>by kernel_rfl)
def Qhf(m:(List Int))(frame:Int)(s:(List UInt8))(z:(Int)×(List Int)):Nat:=(128-z.1).toNat
def Q9z(m:(List Int))(frame:Int)(s:(List UInt8)):Tree (List Int):=
.lp inferInstance (Qhf m frame s (0,m)+1) ((True∧rE (frame:Int)∧rE (s:List UInt8)∧rE (0:Int)∧True)∧rE (m:List Int)∧True) (0,m) λ(v0:Int×List Int)=> .br (decide (v0.1<(s.length:Int))) (.br (decide (v0.1<128)) (.cn (decide (0≤v0.1∧v0.1<(s.length:Int))) (let E1:=wrap u32 (↑(UInt8.toNat (s.getD v0.1.toNat (0:UInt8))):Int);let E2:=wrap u32 (wrap i64 (wrap i64 (frame*128)+v0.1)); .an (Qes v0.2 E2 1 E1) (.lv (Qa5 v0.2 E2 1 E1) λ(x0:List Int)=> .nx ((True∧rE (frame:Int)∧rE (s:List UInt8)∧rE ((wrap i64 (v0.1+1)):Int)∧True)∧rE (x0:List Int)∧True) (Sum.inl (wrap i64 (v0.1+1),x0))))) (.lf (Sum.inr v0.2))) (.lf (Sum.inr v0.2))
def Qk9(m:(List Int))(frame:Int)(s:(List UInt8)):(List Int):=(Q9z m frame s).m
abbrev Qkl(m:(List Int))(frame:Int)(s:(List UInt8)):Prop:=(Q9z m frame s).p
def Zb7:LInv:={
 α:=(Int)×(List Int)
 F:=λst a=>([(0, .all 0),(1,(lk st 1)),(2,(lk st 2)),(6, .int i64 a.1)],[⟨false,23,1, .ints u32 a.2⟩])
 a0:=λst=>((lk st 6).toInt,(Q8 st.rows 0))
 ex0:=λst=>[0]++[]
 next:=λst=>((lk st 6).toInt,(Q8 st.rows 0))
 ex:=λst=>[0]++[]}
def Z1q:List (Nat×LInv):=[(1,Zb7)]
def Zcs:Q0d:=mkP 163 [true,false,false] true [.one (.row 0), .one (.int .i64), .one (.str)] [.arr 23 1 (.ints .u32)] (λargs rows=>Qkl (rowL .u32 rows 0) (argI args 1) (argS args 2)) (λargs rows=>Qk9 (rowL .u32 rows 0) (argI args 1) (argS args 2)) (λX=> .tup []) (λX=>[⟨false,23,1, .ints .u32 X⟩])
theorem Qv8:Q05 Tryz.prog Zcs:=Q0n Q0i Q0j (.cons Qxl (.nil)) Tryz.func163 Tryz.call163 (λargs rows=>Q9z (rowL .u32 rows 0) (argI args 1) (argS args 2)) [] Z1q 3 (λ_ _ _=>by kernel_rfl) (λ_ _=>rfl) (λ_ _ h=>h) (λ_ X=>by kernel_rfl)
def Q6z(d0:Q0c)(m:(List Int))(e:Q09):Tree (Q0c×Bool×(List Int)):=
.br (d0.B9 !=1) (.lf (d0,false,m)) (.br (e.B5 !=4) (.lf (d0,false,m)) (.br (decide (e.N>1)) (.lf (d0,false,m)) (let E4:=({Blocks:=d0.Blocks,C2:=d0.C2,B4:=d0.B4,B9:=2,D8:=0,B7:=0,B2:=0,C3:=[]}:Q0c);let E5:=({Blocks:=d0.Blocks,C2:=d0.C2,B4:=d0.B4,B9:=3,D8:=0,B7:=0,B2:=0,C3:=[]}:Q0c);let T2:Tree ((Q0c×Bool×(List Int))):= .br (e.N==1) (.lf (E4,true,m)) (.lf (E5,true,m));let E6:=decide ((e.C6.length:Int)>(0:Int)); .br (e.N==1) (let T1:Tree ((Q0c×Bool×(List Int))):= .br (d0.D8==1) (.an (Qkl m (wrap i64 d0.B2) e.C6) (.lv (Qk9 m (wrap i64 d0.B2) e.C6) λ(x1:List Int)=> .br (e.N==1) (.lf (E4,true,x1)) (.lf (E5,true,x1)))) T2;let T3:Tree ((Q0c×Bool×(List Int))):= .br (!d0.D8==1) (.br E6 (.lf (d0,false,m)) T1) T1; .br (d0.D8==1) (.br ((e.C6.length:Int) !=(128:Int)) (.lf (d0,false,m)) (.lv (Q25 m d0.B2) λ(x0:Bool)=> .br (!x0) (.lf (d0,false,m)) T3)) T3) (.br E6 (.lf (d0,false,m)) T2))))
def Q8c(d0:Q0c)(m:(List Int))(e:Q09):(Q0c×Bool×(List Int)):=(Q6z d0 m e).m
abbrev Qhg(d0:Q0c)(m:(List Int))(e:Q09):Prop:=(Q6z d0 m e).p
def Z58:Q0d:=mkP 109 [false,true,false] true [.agg Q0c.sig, .one (.row 0), .agg Q09.sig] [.arr 23 1 (.ints .u32)] (λargs rows=>Qhg (Q0c.of (args.getD 0 .dead).cells) (rowL .u32 rows 0) (Q09.of (args.getD 2 .dead).cells)) (λargs rows=>Q8c (Q0c.of (args.getD 0 .dead).cells) (rowL .u32 rows 0) (Q09.of (args.getD 2 .dead).cells)) (λX=> .tup [.agg (Q0c.cells (X.1)), .bool (X.2.1)]) (λX=>[⟨false,23,1, .ints .u32 (X.2.2)⟩])
theorem Z0u:Q05 Tryz.prog Z58:=Q0n Q0i Q0j (.cons Qf4 (.cons Qv8 (.nil))) Tryz.func109 Tryz.call109 (λargs rows=>Q6z (Q0c.of (args.getD 0 .dead).cells) (rowL .u32 rows 0) (Q09.of (args.getD 2 .dead).cells)) [] [] 2 (λ_ _ _=>by kernel_rfl) (λ_ _=>rfl) (λ_ _ h=>h) (λ_ X=>by kernel_rfl)
def Q6v(n:Q0m)(m:(List Int))(frame:(List UInt8)):Tree (Q0m×Bool×(List Int)):=
.br (!n.C7) (.lf (n,false,m)) (.br (decide ((frame.length:Int)<(1:Int))) (.lf (n,false,m)) (.br (decide ((frame.length:Int)>(128:Int))) (.lf (n,false,m)) (.lv (Q25 m n.C0) λ(x0:Bool)=> .br (!x0) (.lf (n,false,m)) (.an (Qkl m (wrap i64 n.C0) frame) (.lv (Qk9 m (wrap i64 n.C0) frame) λ(x1:List Int)=> .lf ({B4:=n.B4,F0:=n.F0,C7:=false,C0:=0,B8:=true,F2:=wrap u32 (frame.length:Int)},true,x1))))))
def Q8i(n:Q0m)(m:(List Int))(frame:(List UInt8)):(Q0m×Bool×(List Int)):=(Q6v n m frame).m
abbrev Qh5(n:Q0m)(m:(List Int))(frame:(List UInt8)):Prop:=(Q6v n m frame).p
def Z4o:Q0d:=mkP 110 [false,true,false] true [.agg Q0m.sig, .one (.row 0), .one (.str)] [.arr 23 1 (.ints .u32)] (λargs rows=>Qh5 (Q0m.of (args.getD 0 .dead).cells) (rowL .u32 rows 0) (argS args 2)) (λargs rows=>Q8i (Q0m.of (args.getD 0 .dead).cells) (rowL .u32 rows 0) (argS args 2)) (λX=> .tup [.agg (Q0m.cells (X.1)), .bool (X.2.1)]) (λX=>[⟨false,23,1, .ints .u32 (X.2.2)⟩])
theorem Z13:Q05 Tryz.prog Z4o:=Q0n Q0i Q0j (.cons Qf4 (.cons Qv8 (.nil))) Tryz.func110 Tryz.call110 (λargs rows=>Q6v (Q0m.of (args.getD 0 .dead).cells) (rowL .u32 rows 0) (argS args 2)) [] [] 2 (λ_ _ _=>by kernel_rfl) (λ_ _=>rfl) (λ_ _ h=>h) (λ_ X=>by kernel_rfl)
def Q6n(m:Q00)(e:Q09):Tree (Bool×Q00):=
.br m.A9 (.lf (false,m)) (let T1:Tree ((Bool×Q00)):= .br (e.B5==4) (.an (Qhg m.B1 m.Mem e) (.lv (Q8c m.B1 m.Mem e) λ(x2:Q0c×Bool×List Int)=> .lf (x2.2.1,{B3:=m.B3,Mem:=x2.2.2,A3:=m.A3,B0:=m.B0,B1:=x2.1,C5:=m.C5,A1:=m.A1,A2:=m.A2,A6:=m.A6,A9:=m.A9}))) (let T3:Tree ((Bool×Q00)):= .br (e.B5==6) (.br (decide (e.C6=[])) (.lf (true,{B3:=m.B3,Mem:=m.Mem,A3:=m.A3,B0:=m.B0,B1:=m.B1,C5:=m.C5,A1:={C9:=e.N,C1:=m.A1.C1},A2:=m.A2,A6:=m.A6,A9:=m.A9})) (.lf (false,m))) (.lf (false,m)); .br (e.B5==5) (.br (e.N==0) (.an (Qh5 m.C5 m.Mem e.C6) (.lv (Q8i m.C5 m.Mem e.C6) λ(x3:Q0m×Bool×List Int)=> .lf (x3.2.1,{B3:=m.B3,Mem:=x3.2.2,A3:=m.A3,B0:=m.B0,B1:=m.B1,C5:=x3.1,A1:=m.A1,A2:=m.A2,A6:=m.A6,A9:=m.A9}))) T3) T3);let T2:Tree ((Bool×Q00)):= .br (e.B5==3) (.br (decide (e.N≤255)) (.br (decide (e.C6=[])) (.an (Qkm m.A3 (wrap u8 e.N)) (.lv (Qk2 m.A3 (wrap u8 e.N)) λ(x1:Q0b×Bool)=> .lf (x1.2,{B3:=m.B3,Mem:=m.Mem,A3:=x1.1,B0:=m.B0,B1:=m.B1,C5:=m.C5,A1:=m.A1,A2:=m.A2,A6:=m.A6,A9:=m.A9}))) T1) T1) T1; .br (e.B5==2) (.br (e.N==0) (.br (decide (e.C6=[])) (.lv (Qkc m.B0) λ(x0:Q0h×Bool)=> .lf (x0.2,{B3:=m.B3,Mem:=m.Mem,A3:=m.A3,B0:=x0.1,B1:=m.B1,C5:=m.C5,A1:=m.A1,A2:=m.A2,A6:=m.A6,A9:=m.A9})) T2) T2) T2)
def Q0w(m:Q00)(e:Q09):(Bool×Q00):=(Q6n m e).m
abbrev Qow(m:Q00)(e:Q09):Prop:=(Q6n m e).p
def Z8q:Q0d:=mkP 73 [true,false] true [.ptr 0, .agg Q09.sig] [.box 41 49 (Q00.sigW (.row 1)), .arr 23 1 (.ints .u32)] (λargs rows=>Qow (Q00.ofW (rows.getD 0 default).cs (rowL .u32 rows 1)) (Q09.of (args.getD 1 .dead).cells)) (λargs rows=>Q0w (Q00.ofW (rows.getD 0 default).cs (rowL .u32 rows 1)) (Q09.of (args.getD 1 .dead).cells)) (λX=> .bool (X.1)) (λX=>[⟨true,41,49, .gen [(Q00.cellsW (X.2) (.all 1))]⟩,⟨false,23,1, .ints .u32 (X.2).Mem⟩])
theorem Z5k:Q05 Tryz.prog Z8q:=Q0n Q0i Q0j (.cons Zbr (.cons Za1 (.cons Z0u (.cons Z13 (.nil))))) Tryz.func73 Tryz.call73 (λargs rows=>Q6n (Q00.ofW (rows.getD 0 default).cs (rowL .u32 rows 1)) (Q09.of (args.getD 1 .dead).cells)) [.row 23 1 (.ints .u32)] [] 2 (λ_ _ _=>by kernel_rfl) (λ_ _=>rfl) (λ_ _ h=>h) (λ_ X=>by kernel_rfl)
def Qj1(m:Q01)(e:Q09):Tree (Bool×Q01):=
.br m.A0.A9 (.lf (false,m)) (let T1:Tree ((Bool×Q01)):= .br (e.B5==4) (.an (Qhg m.A0.B1 m.A0.Mem e) (.lv (Q8c m.A0.B1 m.A0.Mem e) λ(x2:Q0c×Bool×List Int)=> .lf (x2.2.1,{A0:={B3:=m.A0.B3,Mem:=x2.2.2,A3:=m.A0.A3,B0:=m.A0.B0,B1:=x2.1,C5:=m.A0.C5,A1:=m.A0.A1,A2:=m.A0.A2,A6:=m.A0.A6,A9:=m.A0.A9},A7:=m.A7,C4:=m.C4,A4:=m.A4}))) (let T3:Tree ((Bool×Q01)):= .br (e.B5==6) (.br (decide (e.C6=[])) (.lf (true,{A0:={B3:=m.A0.B3,Mem:=m.A0.Mem,A3:=m.A0.A3,B0:=m.A0.B0,B1:=m.A0.B1,C5:=m.A0.C5,A1:={C9:=e.N,C1:=m.A0.A1.C1},A2:=m.A0.A2,A6:=m.A0.A6,A9:=m.A0.A9},A7:=m.A7,C4:=m.C4,A4:=m.A4})) (.lf (false,m))) (.lf (false,m)); .br (e.B5==5) (.br (e.N==0) (.an (Qh5 m.A0.C5 m.A0.Mem e.C6) (.lv (Q8i m.A0.C5 m.A0.Mem e.C6) λ(x3:Q0m×Bool×List Int)=> .lf (x3.2.1,{A0:={B3:=m.A0.B3,Mem:=x3.2.2,A3:=m.A0.A3,B0:=m.A0.B0,B1:=m.A0.B1,C5:=x3.1,A1:=m.A0.A1,A2:=m.A0.A2,A6:=m.A0.A6,A9:=m.A0.A9},A7:=m.A7,C4:=m.C4,A4:=m.A4}))) T3) T3);let T2:Tree ((Bool×Q01)):= .br (e.B5==3) (.br (decide (e.N≤255)) (.br (decide (e.C6=[])) (.an (Qkm m.A0.A3 (wrap u8 e.N)) (.lv (Qk2 m.A0.A3 (wrap u8 e.N)) λ(x1:Q0b×Bool)=> .lf (x1.2,{A0:={B3:=m.A0.B3,Mem:=m.A0.Mem,A3:=x1.1,B0:=m.A0.B0,B1:=m.A0.B1,C5:=m.A0.C5,A1:=m.A0.A1,A2:=m.A0.A2,A6:=m.A0.A6,A9:=m.A0.A9},A7:=m.A7,C4:=m.C4,A4:=m.A4}))) T1) T1) T1; .br (e.B5==2) (.br (e.N==0) (.br (decide (e.C6=[])) (.lv (Qkc m.A0.B0) λ(x0:Q0h×Bool)=> .lf (x0.2,{A0:={B3:=m.A0.B3,Mem:=m.A0.Mem,A3:=m.A0.A3,B0:=x0.1,B1:=m.A0.B1,C5:=m.A0.C5,A1:=m.A0.A1,A2:=m.A0.A2,A6:=m.A0.A6,A9:=m.A0.A9},A7:=m.A7,C4:=m.C4,A4:=m.A4})) T2) T2) T2)
def Qma(m:Q01)(e:Q09):(Bool×Q01):=(Qj1 m e).m
abbrev Qvr(m:Q01)(e:Q09):Prop:=(Qj1 m e).p
def Qi4(m:Q01)(e:Q09):Tree (Bool×Q01):=
.an (Qvr m e) (.lv (Qma m e) λ(x0:Bool×Q01)=> .lf (x0.1,x0.2))
def Ql1(m:Q01)(e:Q09):(Bool×Q01):=(Qi4 m e).m
abbrev Qtj(m:Q01)(e:Q09):Prop:=(Qi4 m e).p
def Qkn(r:Q01)(e:Q09):Tree Q01:=
.an (Qtj r e) (.lv (Ql1 r e) λ(x0:Bool×Q01)=> .br x0.1 (.cn (decide (40*(x0.2.C4.length+1)≤140737488355328)) (.lf ({A0:=x0.2.A0,A7:=x0.2.A7,C4:=x0.2.C4++[{At:=x0.2.A0.A2,D3:=e}],A4:=x0.2.A4}))) (.lf x0.2))
def Ql2(r:Q01)(e:Q09):Q01:=(Qkn r e).m
abbrev Qmi(r:Q01)(e:Q09):Prop:=(Qkn r e).p
def Qhx(is:Bool)(n:Int):Tree Int:=
.br is (.cn (decide (0≤wrap u64 n)) (.lf (ishl u32 1 (wrap u64 n)))) (.lf 0)
def Q9w(is:Bool)(n:Int):Int:=(Qhx is n).m
abbrev Qaf(is:Bool)(n:Int):Prop:=(Qhx is n).p
def Zep:Q0d:=mkP 219 [] true [.one (.bool), .one (.int .i64)] [] (λargs rows=>Qaf (argB args 0) (argI args 1)) (λargs rows=>Q9w (argB args 0) (argI args 1)) (λX=> .int .u32 X) (λX=>[])
theorem Zbp:Q05 Tryz.prog Zep:=Q0n Q0i Q0j (.nil) Tryz.func219 Tryz.call219 (λargs rows=>Qhx (argB args 0) (argI args 1)) [] [] 2 (λ_ _ _=>by kernel_rfl) (λ_ _=>rfl) (λ_ _ h=>h) (λ_ X=>by kernel_rfl)
def Qi2(t:Q0h):Tree Bool:=
.lf t.D6
def Qao(t:Q0h):Bool:=(Qi2 t).m
def Qp7:Q0d:=mkR 220 [] true [.agg Q0h.sig] [] (λargs rows=>Qao (Q0h.of (args.getD 0 .dead).cells)) (λX=> .bool X) (λX=>[])
theorem Qob:Q05 Tryz.prog Qp7:=Q0z Q0i Q0j (.nil) Tryz.func220 Tryz.call220 (λargs rows=>Qi2 (Q0h.of (args.getD 0 .dead).cells)) [] [] 2 (λ_ _ _=>by kernel_rfl) (λ_ _=>rfl) (λ_ _=>Tree.free_ok (by kernel_rfl)) (λ_ X=>by kernel_rfl)
def Qf0(c:Q0b):Tree Bool:=
.lf (decide ((c.D1.length:Int)>(0:Int)))
def Q5w(c:Q0b):Bool:=(Qf0 c).m
def Qmm:Q0d:=mkR 221 [] true [.agg Q0b.sig] [] (λargs rows=>Q5w (Q0b.of (args.getD 0 .dead).cells)) (λX=> .bool X) (λX=>[])
theorem Qlx:Q05 Tryz.prog Qmm:=Q0z Q0i Q0j (.nil) Tryz.func221 Tryz.call221 (λargs rows=>Qf0 (Q0b.of (args.getD 0 .dead).cells)) [] [] 2 (λ_ _ _=>by kernel_rfl) (λ_ _=>rfl) (λ_ _=>Tree.free_ok (by kernel_rfl)) (λ_ X=>by kernel_rfl)
def Qiq(d0:Q0c):Tree Bool:=
.br (d0.B9==2) (.lf true) (.lf (d0.B9==3))
def Qbj(d0:Q0c):Bool:=(Qiq d0).m
def Qqi:Q0d:=mkR 222 [] true [.agg Q0c.sig] [] (λargs rows=>Qbj (Q0c.of (args.getD 0 .dead).cells)) (λX=> .bool X) (λX=>[])
theorem Qp6:Q05 Tryz.prog Qqi:=Q0z Q0i Q0j (.nil) Tryz.func222 Tryz.call222 (λargs rows=>Qiq (Q0c.of (args.getD 0 .dead).cells)) [] [] 2 (λ_ _ _=>by kernel_rfl) (λ_ _=>rfl) (λ_ _=>Tree.free_ok (by kernel_rfl)) (λ_ X=>by kernel_rfl)
def Qjp(n:Q0m):Tree Bool:=
.lf n.B8
def Qd2(n:Q0m):Bool:=(Qjp n).m
def Qsm:Q0d:=mkR 223 [] true [.agg Q0m.sig] [] (λargs rows=>Qd2 (Q0m.of (args.getD 0 .dead).cells)) (λX=> .bool X) (λX=>[])
theorem Qrz:Q05 Tryz.prog Qsm:=Q0z Q0i Q0j (.nil) Tryz.func223 Tryz.call223 (λargs rows=>Qjp (Q0m.of (args.getD 0 .dead).cells)) [] [] 2 (λ_ _ _=>by kernel_rfl) (λ_ _=>rfl) (λ_ _=>Tree.free_ok (by kernel_rfl)) (λ_ X=>by kernel_rfl)
def Qn1(b:Q06)(z:(Int)×(Int)):Prop:=0≤z.2∧z.2≤32
def Qff(b:Q06)(z:(Int)×(Int)):Nat:=(32-z.2).toNat
def Qim(b:Q06):Tree Int:=
.lp inferInstance (Qff b (0,0)+1) (((rE (0:Nat)∧rE (0:Nat))∧rE (0:Int)∧rE (0:Int)∧True)∧(rE b.C9∧rE b.C1∧True)∧True) (0,0) λ(v0:Int×Int)=> .br (decide (v0.2<32)) (.cn (decide (0≤wrap u64 v0.2)) (.nx (((rE (0:Nat)∧rE (0:Nat))∧rE ((wrap i64 (v0.1+wrap i64 (iand u32 (ishr u32 b.C1 (wrap u64 v0.2)) 1))):Int)∧rE ((wrap i64 (v0.2+1)):Int)∧True)∧(rE b.C9∧rE b.C1∧True)∧True) (Sum.inl (wrap i64 (v0.1+wrap i64 (iand u32 (ishr u32 b.C1 (wrap u64 v0.2)) 1)),wrap i64 (v0.2+1))))) (.lf (Sum.inr v0.1))
def Qdo(b:Q06):Int:=(Qim b).m
theorem Z22(b:Q06):(Qim b).p:=by
 unfold Tree.p Qim
 repeat'(first|refine w_lp (inv:=Qn1 b) (μ:=Qff b) ?_ (Nat.lt_succ_self _) (λ_ _=> ?_)|exact trivial|refine w_br (λ_=> ?_) (λ_=> ?_)|refine w_cn ?_ ?_|refine w_an ?_ ?_|refine w_lv (λ_ _=> ?_)|refine w_nx ?_|refine w_lf ?_|refine And.intro ?_ ?_)
 all_goals((try simp only[Qn1,Qff]at*);((subst_vars;first|trivial|assumption|omega|((simp(config:={decide:=true,failIfUnchanged:=false}) only[Bool.and_eq_true,Bool.or_eq_true,Bool.and_eq_false_iff,Bool.or_eq_false_iff,Bool.not_eq_true',Bool.not_eq_false',Bool.not_eq_true,Bool.not_eq_false,decide_eq_true_eq,decide_eq_false_iff_not,Q74,Q4y,Q77,Q4u,beq_iff_eq,beq_eq_false_iff_ne,bne_iff_ne,bne_eq_false_iff_eq,ne_eq,List.all_cons,List.all_nil,D.plain,List.length_cons,List.length_nil,List.length_append,List.length_set,List.length_replicate,IntKind.wrap_i64,IntKind.wrap_u64,IntKind.wrap_u32,IntKind.wrap_i32,IntKind.wrap_u8,true_and,and_true,or_false,false_or,or_true,true_or,not_true_eq_false,not_false_eq_true,Prod.fst,Prod.snd]at*);first|done|assumption|omega)|((simp(config:={decide:=true,failIfUnchanged:=false}) only[Bool.and_eq_true,Bool.or_eq_true,Bool.and_eq_false_iff,Bool.or_eq_false_iff,Bool.not_eq_true',Bool.not_eq_false',Bool.not_eq_true,Bool.not_eq_false,decide_eq_true_eq,decide_eq_false_iff_not,Q74,Q4y,Q77,Q4u,beq_iff_eq,beq_eq_false_iff_ne,bne_iff_ne,bne_eq_false_iff_eq,ne_eq,List.all_cons,List.all_nil,D.plain,List.length_cons,List.length_nil,List.length_append,List.length_set,List.length_replicate,IntKind.wrap_i64,IntKind.wrap_u64,IntKind.wrap_u32,IntKind.wrap_i32,IntKind.wrap_u8,true_and,and_true,or_false,false_or,or_true,true_or,not_true_eq_false,not_false_eq_true,Prod.fst,Prod.snd]at*);simp only[←List.length_pos_iff]at*;omega)|(simp_all;done)|(have:= @Qje;simp_all;try omega))))
def Z5j:LInv:={
 α:=(Int)×(Int)
 F:=λst a=>([(1, .ptr 0 0 0),(3, .int i64 a.1),(4, .int i64 a.2)],[⟨true,38,2, .gen [[(cT st 1 0),(cT st 1 1)]]⟩])
 a0:=λst=>((lk st 3).toInt,(lk st 4).toInt)
 ex0:=λst=>[]++[(Q1 (lk st 1) (st.rows.length+0))]
 next:=λst=>((lk st 3).toInt,(lk st 4).toInt)
 ex:=λst=>[]++[(Q1 (lk st 1) (st.rows.length+0))]}
def Z0d:List (Nat×LInv):=[(3,Z5j)]
def Z85:Q0d:=mkR 211 [] true [.agg Q06.sig] [] (λargs rows=>Qdo (Q06.of (args.getD 0 .dead).cells)) (λX=> .int .i64 X) (λX=>[])
theorem Qr4:Q05 Tryz.prog Z85:=Q0z Q0i Q0j (.nil) Tryz.func211 Tryz.call211 (λargs rows=>Qim (Q06.of (args.getD 0 .dead).cells)) [] Z0d 3 (λ_ _ _=>by kernel_rfl) (λ_ _=>rfl) (λargs rows=>Z22 (Q06.of (args.getD 0 .dead).cells)) (λ_ X=>by kernel_rfl)
def Q9g(b:Q06):Tree Bool:=
.lv (Qdo b) λ(x0:Int)=> .lf (wrap u64 x0 !=wrap u64 b.C9)
def Q47(b:Q06):Bool:=(Q9g b).m
def Qn9:Q0d:=mkR 224 [] true [.agg Q06.sig] [] (λargs rows=>Q47 (Q06.of (args.getD 0 .dead).cells)) (λX=> .bool X) (λX=>[])
theorem Qm:Q05 Tryz.prog Qn9:=Q0z Q0i Q0j (.cons Qr4 (.nil)) Tryz.func224 Tryz.call224 (λargs rows=>Q9g (Q06.of (args.getD 0 .dead).cells)) [] [] 2 (λ_ _ _=>by kernel_rfl) (λ_ _=>rfl) (λ_ _=>Tree.free_ok (by kernel_rfl)) (λ_ X=>by kernel_rfl)
def Qej(m:Q00):Tree Int:=
.lv (Qao m.B0) λ(x0:Bool)=> .an (Qaf x0 0) (.lv (Q9w x0 0) λ(x1:Int)=> .lv (Q5w m.A3) λ(x2:Bool)=> .an (Qaf x2 1) (.lv (Q9w x2 1) λ(x3:Int)=> .lv (Qbj m.B1) λ(x4:Bool)=> .an (Qaf x4 2) (.lv (Q9w x4 2) λ(x5:Int)=> .lv (Qd2 m.C5) λ(x6:Bool)=> .an (Qaf x6 3) (.lv (Q9w x6 3) λ(x7:Int)=> .lv (Q47 m.A1) λ(x8:Bool)=> .an (Qaf x8 4) (.lv (Q9w x8 4) λ(x9:Int)=> .lf (ior u32 (ior u32 (ior u32 (ior u32 x1 x3) x5) x7) x9))))))
def Qgd(m:Q00):Int:=(Qej m).m
abbrev Qot(m:Q00):Prop:=(Qej m).p
def Z99:Q0d:=mkP 169 [] true [.agg Q00.sig] [] (λargs rows=>Qot (Q00.of (args.getD 0 .dead).cells)) (λargs rows=>Qgd (Q00.of (args.getD 0 .dead).cells)) (λX=> .int .u32 X) (λX=>[])
theorem Z5r:Q05 Tryz.prog Z99:=Q0n Q0i Q0j (.cons Zbp (.cons Qob (.cons Qlx (.cons Qp6 (.cons Qrz (.cons Qm (.nil))))))) Tryz.func169 Tryz.call169 (λargs rows=>Qej (Q00.of (args.getD 0 .dead).cells)) [] [] 2 (λ_ _ _=>by kernel_rfl) (λ_ _=>rfl) (λ_ _ h=>h) (λ_ X=>by kernel_rfl)
def Q9(m:Q00):Tree Int:=
.an (Qot m) (.lv (Qgd m) λ(x0:Int)=> .lf (iand u32 x0 m.B3.B6.a7))
def Q3a(m:Q00):Int:=(Q9 m).m
abbrev Qfj(m:Q00):Prop:=(Q9 m).p
def Z2:Q0d:=mkP 115 [] true [.agg Q00.sig] [] (λargs rows=>Qfj (Q00.of (args.getD 0 .dead).cells)) (λargs rows=>Q3a (Q00.of (args.getD 0 .dead).cells)) (λX=> .int .u32 X) (λX=>[])
theorem Qnd:Q05 Tryz.prog Z2:=Q0n Q0i Q0j (.cons Z5r (.nil)) Tryz.func115 Tryz.call115 (λargs rows=>Q9 (Q00.of (args.getD 0 .dead).cells)) [] [] 2 (λ_ _ _=>by kernel_rfl) (λ_ _=>rfl) (λ_ _ h=>h) (λ_ X=>by kernel_rfl)
def Qdm(m:Q00):Tree Bool:=
.br m.A6 (.an (Qfj m) (.lv (Q3a m) λ(x0:Int)=> .lf (x0==0))) (.lf false)
def Qcj(m:Q00):Bool:=(Qdm m).m
abbrev Ql4(m:Q00):Prop:=(Qdm m).p
def Ze8:Q0d:=mkP 81 [] true [.agg Q00.sig] [] (λargs rows=>Ql4 (Q00.of (args.getD 0 .dead).cells)) (λargs rows=>Qcj (Q00.of (args.getD 0 .dead).cells)) (λX=> .bool X) (λX=>[])
theorem Z8j:Q05 Tryz.prog Ze8:=Q0n Q0i Q0j (.cons Qnd (.nil)) Tryz.func81 Tryz.call81 (λargs rows=>Qdm (Q00.of (args.getD 0 .dead).cells)) [] [] 2 (λ_ _ _=>by kernel_rfl) (λ_ _=>rfl) (λ_ _ h=>h) (λ_ X=>by kernel_rfl)
def Qei(m:Q00):Tree Bool:=
.lv (Q7e m) λ(x0:Bool)=> .br (!x0) (.lf true) (.br m.A9 (.lf true) (.an (Ql4 m) (.lv (Qcj m) λ(x1:Bool)=> .br x1 (.lf true) (.lf (decide (m.A2≥1152921504606846976))))))
def Q13(m:Q00):Bool:=(Qei m).m
abbrev Qjc(m:Q00):Prop:=(Qei m).p
end
end Go.Proofs.YtpcbkbalabgnlaaGreat

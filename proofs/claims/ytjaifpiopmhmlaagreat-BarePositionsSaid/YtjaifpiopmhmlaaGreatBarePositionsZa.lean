/-
  Functions of the program: models, and that its calls come to them (by a program: gen3.py).
-/
import Derived.Test.YtjaifpiopmhmlaaGreatBarePositionsBase
import Derived.Test.YtjaifpiopmhmlaaGreatBarePositionsYe
set_option maxRecDepth 100000
set_option linter.unusedVariables false
set_option linter.unusedSimpArgs false
namespace Go.Proofs.YtjaifpiopmhmlaaGreat
open Go Go.GD Go.IntKind
noncomputable section
def Qd0(m:(List Int)):Tree (List Int):=
.cn (Nat.blt (0:Nat) (1:Nat)&&Nat.beq (1:Nat) (1:Nat)&&List.all [D.int u32 (0:Int)] D.plain&&decide ((0:Int)≤(m.length:Int)∧(m.length:Int)≤(m.length:Int)∧(m.length:Int)≤(9223372036854775807:Int)∧(↑(4:Nat):Int)*(m.length:Int)≤(140737488355328:Int))) (let E1:=List.length (List.replicate (Int.toNat (m.length:Int)) (0:Int)); .lf (List.take (Min.min (m.length) E1) m++List.drop (Min.min (m.length) E1) (List.replicate (Int.toNat (m.length:Int)) (0:Int))))
def Qsr(m:(List Int)):(List Int):=(Qd0 m).m
abbrev Qrl(m:(List Int)):Prop:=(Qd0 m).p
def Zgi:Q0c:=mkP 114 [] true [.one (.ints .u32)] [] (λargs rows=>Qrl (argL .u32 args 0)) (λargs rows=>Qsr (argL .u32 args 0)) (λX=> .all 0) (λX=>[⟨false,23,1, .ints .u32 X⟩])
theorem Zaf:Q05 Tryz.prog Zgi:=Q0n Q0k Q0l (.nil) Tryz.func114 Tryz.call114 (λargs rows=>Qd0 (argL .u32 args 0)) [.row 23 1 (.ints .u32)] [] 2 (λ_ _ _=>by kernel_rfl) (λ_ _=>rfl) (λ_ _ h=>h) (λ_ X=>by kernel_rfl)
def Qba(m:Q00):Tree Q00:=
.an (Qrl m.Mem) (.lv (Qsr m.Mem) λ(x0:List Int)=> .lf ({B3:=m.B3,Mem:=x0,A3:=m.A3,B0:=m.B0,B1:=m.B1,C5:=m.C5,A2:=m.A2,A1:=m.A1,A6:=m.A6,A7:=m.A7}))
def Qks(m:Q00):Q00:=(Qba m).m
abbrev Qe4(m:Q00):Prop:=(Qba m).p
def Zky:Q0c:=mkP 53 [] true [.agg Q00.sig] [] (λargs rows=>Qe4 (Q00.of (args.getD 0 .dead).cells)) (λargs rows=>Qks (Q00.of (args.getD 0 .dead).cells)) (λX=> .agg (Q00.cellsW X (.all 0))) (λX=>[⟨false,23,1, .ints .u32 X.Mem⟩])
theorem Qq1:Q05 Tryz.prog Zky:=Q0n Q0k Q0l (.cons Zaf (.nil)) Tryz.func53 Tryz.call53 (λargs rows=>Qba (Q00.of (args.getD 0 .dead).cells)) [.row 23 1 (.ints .u32)] [] 2 (λ_ _ _=>by kernel_rfl) (λ_ _=>rfl) (λ_ _ h=>h) (λ_ X=>by kernel_rfl)
def Qoy(n:Int)(k:Int)(z:(Int)×(List Int)):Prop:=0≤z.1∧(z.2.length:Int)=z.1∧(z.1≤k∨z.1=0)
def Qbu(n:Int)(k:Int)(z:(Int)×(List Int)):Nat:=(k-z.1).toNat
def Qd5(n:Int)(k:Int):Tree (List UInt8):=
.lp inferInstance (Qbu n k (0,[])+1) ((rE (n:Int)∧rE (k:Int)∧True∧rE (0:Int)∧True)∧rE ([]:List Int)∧True) (0,[]) λ(v0:Int×List Int)=> .br (decide (v0.1<k)) (.lv (Q2x n (wrap i64 (Int.tdiv v0.1 9))) λ(x0:Int)=> .cn (decide (1*(v0.2.length+1)≤140737488355328)) (.nx ((rE (n:Int)∧rE (k:Int)∧True∧rE ((wrap i64 (v0.1+1)):Int)∧True)∧rE ((v0.2++[wrap u8 x0]):List Int)∧True) (Sum.inl (wrap i64 (v0.1+1),v0.2++[wrap u8 x0])))) (.lf (Sum.inr (bytesOf v0.2)))
def Qrr(n:Int)(k:Int):(List UInt8):=(Qd5 n k).m
def Q9w(n:Int)(k:Int):Prop:=
k≤1000000000000
theorem Z6h(n:Int)(k:Int)(hw:Q9w n k):(Qd5 n k).p:=by
 simp only[Q9w]at hw
 unfold Tree.p Qd5
 repeat'(first|refine w_lp (inv:=Qoy n k) (μ:=Qbu n k) ?_ (Nat.lt_succ_self _) (λ_ _=> ?_)|exact trivial|refine w_br (λ_=> ?_) (λ_=> ?_)|refine w_cn ?_ ?_|refine w_an ?_ ?_|refine w_lv (λ_ _=> ?_)|refine w_nx ?_|refine w_lf ?_|refine And.intro ?_ ?_)
 all_goals((try simp only[Qoy,Qbu]at*);((subst_vars;first|trivial|assumption|omega|((simp(config:={decide:=true,failIfUnchanged:=false}) only[Bool.and_eq_true,Bool.or_eq_true,Bool.and_eq_false_iff,Bool.or_eq_false_iff,Bool.not_eq_true',Bool.not_eq_false',Bool.not_eq_true,Bool.not_eq_false,decide_eq_true_eq,decide_eq_false_iff_not,Q69,Q4c,Q6a,Q47,beq_iff_eq,beq_eq_false_iff_ne,bne_iff_ne,bne_eq_false_iff_eq,ne_eq,List.all_cons,List.all_nil,D.plain,List.length_cons,List.length_nil,List.length_append,List.length_set,List.length_replicate,IntKind.wrap_i64,IntKind.wrap_u64,IntKind.wrap_u32,IntKind.wrap_i32,IntKind.wrap_u8,true_and,and_true,or_false,false_or,or_true,true_or,not_true_eq_false,not_false_eq_true,Prod.fst,Prod.snd]at*);first|done|assumption|omega)|((simp(config:={decide:=true,failIfUnchanged:=false}) only[Bool.and_eq_true,Bool.or_eq_true,Bool.and_eq_false_iff,Bool.or_eq_false_iff,Bool.not_eq_true',Bool.not_eq_false',Bool.not_eq_true,Bool.not_eq_false,decide_eq_true_eq,decide_eq_false_iff_not,Q69,Q4c,Q6a,Q47,beq_iff_eq,beq_eq_false_iff_ne,bne_iff_ne,bne_eq_false_iff_eq,ne_eq,List.all_cons,List.all_nil,D.plain,List.length_cons,List.length_nil,List.length_append,List.length_set,List.length_replicate,IntKind.wrap_i64,IntKind.wrap_u64,IntKind.wrap_u32,IntKind.wrap_i32,IntKind.wrap_u8,true_and,and_true,or_false,false_or,or_true,true_or,not_true_eq_false,not_false_eq_true,Prod.fst,Prod.snd]at*);simp only[←List.length_pos_iff]at*;omega)|(simp_all;done)|(have:= @Qiw;simp_all;try omega))))
def Zca:LInv:={
 α:=(Int)×(List Int)
 F:=λst a=>([(0,(lk st 0)),(1,(lk st 1)),(5, .all 0),(6, .int i64 a.1)],[⟨false,5,1, .ints u8 a.2⟩])
 a0:=λst=>((lk st 6).toInt,(Q49 st.rows (rN st 5)))
 ex0:=λst=>[]++[(Q0o (lk st 5) (st.rows.length+0))]
 next:=λst=>((lk st 6).toInt,(Q49 st.rows (rN st 5)))
 ex:=λst=>[]++[(Q0o (lk st 5) (st.rows.length+0))]}
def Z2o:List (Nat×LInv):=[(3,Zca)]
def Zfy:Q0c:=mkP 65 [] true [.one (.int .i64), .one (.int .i64)] [] (λargs rows=>Q9w (argI args 0) (argI args 1)) (λargs rows=>Qrr (argI args 0) (argI args 1)) (λX=> .str X) (λX=>[])
theorem Z9v:Q05 Tryz.prog Zfy:=Q0n Q0k Q0l (.cons Qkm (.nil)) Tryz.func65 Tryz.call65 (λargs rows=>Qd5 (argI args 0) (argI args 1)) [] Z2o 3 (λ_ _ _=>by kernel_rfl) (λ_ _=>rfl) (λargs rows h=>Z6h (argI args 0) (argI args 1) h) (λ_ X=>by kernel_rfl)
def Qcx(r:Q01):Tree Q01:=
.an (Qe4 r.A0) (.lv (Qks r.A0) λ(x0:Q00)=> .cn (decide (40*(0+r.C4.length)≤140737488355328)) (.cn (decide (32*(0+r.A4.length)≤140737488355328)) (.lf ({A0:=x0,A9:=r.A9,C4:=r.C4,A4:=r.A4}))))
def Qn2(r:Q01):Q01:=(Qcx r).m
abbrev Qkv(r:Q01):Prop:=(Qcx r).p
def Zgb:Q0c:=mkP 180 [] true [.agg Q01.sig] [] (λargs rows=>Qkv (Q01.of (args.getD 0 .dead).cells)) (λargs rows=>Qn2 (Q01.of (args.getD 0 .dead).cells)) (λX=> .agg (Q01.cellsW X (.all 0) (.all 1) (.all 2))) (λX=>[⟨false,23,1, .ints .u32 X.A0.Mem⟩,⟨false,72,4, .recs .apiEntry X.C4⟩,⟨false,70,3, .recs .apiEvent X.A4⟩])
theorem Qvf:Q05 Tryz.prog Zgb:=Q0n Q0k Q0l (.cons Qq1 (.nil)) Tryz.func180 Tryz.call180 (λargs rows=>Qcx (Q01.of (args.getD 0 .dead).cells)) [.row 23 1 (.ints .u32), .row 72 4 (.recs .apiEntry), .row 70 3 (.recs .apiEvent)] [] 2 (λ_ _ _=>by kernel_rfl) (λ_ _=>rfl) (λ_ _ h=>h) (λ_ X=>by kernel_rfl)
def Qs6(e:Q0f):Tree Bool:=
.br (e.B5==1) (.lf (decide (e.C8=[]))) (.br (e.B5==6) (.lf (decide (e.C8=[]))) (.br (e.B5==2) (.br (e.N==0) (.lf (decide (e.C8=[]))) (.lf false)) (.br (e.B5==3) (.br (decide (e.N≤255)) (.lf (decide (e.C8=[]))) (.lf false)) (.br (e.B5==4) (.br (decide (e.N≤1)) (.br (decide (e.C8=[])) (.lf true) (.br (e.N==1) (.lf ((e.C8.length:Int)==(128:Int))) (.lf false))) (.lf false)) (.br (e.B5==5) (.br (e.N==0) (.br (decide ((e.C8.length:Int)≥(1:Int))) (.lf (decide ((e.C8.length:Int)≤(128:Int)))) (.lf false)) (.lf false)) (.lf false))))))
def Q2n(e:Q0f):Bool:=(Qs6 e).m
def Z8a:Q0c:=mkR 181 [] true [.agg Q0f.sig] [] (λargs rows=>Q2n (Q0f.of (args.getD 0 .dead).cells)) (λX=> .bool X) (λX=>[])
theorem Z3f:Q05 Tryz.prog Z8a:=Q0z Q0k Q0l (.nil) Tryz.func181 Tryz.call181 (λargs rows=>Qs6 (Q0f.of (args.getD 0 .dead).cells)) [] [] 2 (λ_ _ _=>by kernel_rfl) (λ_ _=>rfl) (λ_ _=>Tree.free_ok (by kernel_rfl)) (λ_ X=>by kernel_rfl)
def Q81(r:Q01)(e:Q0f):Tree (Q01×Bool):=
.an (Qkv r) (.lv (Qn2 r) λ(x0:Q01)=> .lv (Q2n e) λ(x1:Bool)=> .br (!x1) (.lf (x0,false)) (.br (e.B5==1) (.lf (x0,false)) (.br (decide ((x0.A4.length:Int)≥(16:Int))) (.lf (x0,false)) (.cn (decide (32*(x0.A4.length+1)≤140737488355328)) (.lf ({A0:=x0.A0,A9:=x0.A9,C4:=x0.C4,A4:=x0.A4++[e]},true))))))
def Q2g(r:Q01)(e:Q0f):(Q01×Bool):=(Q81 r e).m
abbrev Qlk(r:Q01)(e:Q0f):Prop:=(Q81 r e).p
def Z2j:Q0c:=mkP 128 [] true [.agg Q01.sig, .agg Q0f.sig] [] (λargs rows=>Qlk (Q01.of (args.getD 0 .dead).cells) (Q0f.of (args.getD 1 .dead).cells)) (λargs rows=>Q2g (Q01.of (args.getD 0 .dead).cells) (Q0f.of (args.getD 1 .dead).cells)) (λX=> .tup [.agg (Q01.cellsW (X.1) (.all 0) (.all 1) (.all 2)), .bool (X.2)]) (λX=>[⟨false,23,1, .ints .u32 (X.1).A0.Mem⟩,⟨false,72,4, .recs .apiEntry (X.1).C4⟩,⟨false,70,3, .recs .apiEvent (X.1).A4⟩])
theorem Qy7:Q05 Tryz.prog Z2j:=Q0n Q0k Q0l (.cons Qvf (.cons Z3f (.nil))) Tryz.func128 Tryz.call128 (λargs rows=>Q81 (Q01.of (args.getD 0 .dead).cells) (Q0f.of (args.getD 1 .dead).cells)) [.row 23 1 (.ints .u32), .row 72 4 (.recs .apiEntry), .row 70 3 (.recs .apiEvent)] [] 2 (λ_ _ _=>by kernel_rfl) (λ_ _=>rfl) (λ_ _ h=>h) (λ_ X=>by kernel_rfl)
def Q90(n:Int):Tree Q0f:=
.lv (Q2x n 2) λ(x0:Int)=> .br (Int.tmod x0 (7:Int)==(0:Int)) (.lf ({B5:=2,N:=0,C8:=[]})) (.br (Int.tmod x0 (7:Int)==(1:Int)) (.lf ({B5:=3,N:=wrap u32 (iand i64 (ishr i64 x0 8) 255),C8:=[]})) (.br (Int.tmod x0 (7:Int)==(2:Int)) (.lf ({B5:=3,N:=wrap u32 (iand i64 (ishr i64 x0 8) 255),C8:=[]})) (.br (Int.tmod x0 (7:Int)==(3:Int)) (.lf ({B5:=4,N:=1,C8:=[]})) (.br (Int.tmod x0 (7:Int)==(4:Int)) (.an (Q9w x0 128) (.lv (Qrr x0 128) λ(x1:List UInt8)=> .lf ({B5:=4,N:=1,C8:=x1}))) (.br (Int.tmod x0 (7:Int)==(5:Int)) (let E1:=wrap i64 (1+Int.tmod (ishr i64 x0 8) 40); .an (Q9w x0 E1) (.lv (Qrr x0 E1) λ(x2:List UInt8)=> .lf ({B5:=5,N:=0,C8:=x2}))) (.br (Int.tmod (ishr i64 x0 8) (4:Int)==(0:Int)) (.lf ({B5:=4,N:=0,C8:=[]})) (.lf ({B5:=6,N:=wrap u32 (Int.tmod (ishr i64 x0 8) 3),C8:=[]}))))))))
def Q4a(n:Int):Q0f:=(Q90 n).m
abbrev Qp5(n:Int):Prop:=(Q90 n).p
def Zas:Q0c:=mkP 62 [] true [.one (.int .i64)] [] (λargs rows=>Qp5 (argI args 0)) (λargs rows=>Q4a (argI args 0)) (λX=> .agg (Q0f.cells X)) (λX=>[])
theorem Z8i:Q05 Tryz.prog Zas:=Q0n Q0k Q0l (.cons Qkm (.cons Z9v (.nil))) Tryz.func62 Tryz.call62 (λargs rows=>Q90 (argI args 0)) [] [] 2 (λ_ _ _=>by kernel_rfl) (λ_ _=>rfl) (λ_ _ h=>h) (λ_ X=>by kernel_rfl)
def Qmo(m:(List Int)):Tree Int:=
.br (Int.tmod (m.length:Int) (32:Int) !=(0:Int)) (.lf 0) (.br (decide ((m.length:Int)>(1024:Int))) (.lf 0) (.lf (wrap i64 (Int.tdiv (m.length:Int) 32))))
def Q3d(m:(List Int)):Int:=(Qmo m).m
def Za5:Q0c:=mkR 86 [] true [.one (.ints .u32)] [] (λargs rows=>Q3d (argL .u32 args 0)) (λX=> .int .i64 X) (λX=>[])
theorem Qch:Q05 Tryz.prog Za5:=Q0z Q0k Q0l (.nil) Tryz.func86 Tryz.call86 (λargs rows=>Qmo (argL .u32 args 0)) [] [] 2 (λ_ _ _=>by kernel_rfl) (λ_ _=>rfl) (λ_ _=>Tree.free_ok (by kernel_rfl)) (λ_ X=>by kernel_rfl)
def Qk(c:Q0b):Tree Bool:=
.lf (decide ((c.D3.length:Int)≤(16:Int)))
def Qgp(c:Q0b):Bool:=(Qk c).m
def Qul:Q0c:=mkR 87 [] true [.agg Q0b.sig] [] (λargs rows=>Qgp (Q0b.of (args.getD 0 .dead).cells)) (λX=> .bool X) (λX=>[])
theorem Qsh:Q05 Tryz.prog Qul:=Q0z Q0k Q0l (.nil) Tryz.func87 Tryz.call87 (λargs rows=>Qk (Q0b.of (args.getD 0 .dead).cells)) [] [] 2 (λ_ _ _=>by kernel_rfl) (λ_ _=>rfl) (λ_ _=>Tree.free_ok (by kernel_rfl)) (λ_ X=>by kernel_rfl)
def Qgs(t:Q0g):Tree Bool:=
.br t.D2 (.br t.D6 (.lf false) (.br t.D2 (.lf (t.D0 !=0)) (.br t.D6 (.lf true) (.lf (t.D0==0))))) (.br t.D2 (.lf (t.D0 !=0)) (.br t.D6 (.lf true) (.lf (t.D0==0))))
def Qc4(t:Q0g):Bool:=(Qgs t).m
def Qyr:Q0c:=mkR 88 [] true [.agg Q0g.sig] [] (λargs rows=>Qc4 (Q0g.of (args.getD 0 .dead).cells)) (λX=> .bool X) (λX=>[])
theorem Qx0:Q05 Tryz.prog Qyr:=Q0z Q0k Q0l (.nil) Tryz.func88 Tryz.call88 (λargs rows=>Qgs (Q0g.of (args.getD 0 .dead).cells)) [] [] 2 (λ_ _ _=>by kernel_rfl) (λ_ _=>rfl) (λ_ _=>Tree.free_ok (by kernel_rfl)) (λ_ X=>by kernel_rfl)
def Qj0(d0:Q0d)(pages:Int):Tree Bool:=
.br (decide (d0.Blocks>64)) (.lf false) (.br (decide (d0.C0<0)) (.lf false) (.br (decide (d0.C0>3)) (.lf false) (.br (d0.C0 !=1) (.br (d0.D8==0) (.br (d0.B7==0) (.br (d0.B2==0) (.lf (decide (d0.C3=[]))) (.lf false)) (.lf false)) (.lf false)) (.br (decide (d0.B7≥d0.Blocks)) (.lf false) (.br (decide (wrap i64 d0.B2≥pages)) (.lf false) (.br (d0.D8==1) (.br (decide (d0.C3=[])) (.lf true) (.br (d0.D8==2) (.lf ((d0.C3.length:Int)==(128:Int))) (.lf false))) (.br (d0.D8==2) (.lf ((d0.C3.length:Int)==(128:Int))) (.lf false))))))))
def Qee(d0:Q0d)(pages:Int):Bool:=(Qj0 d0 pages).m
def Z2y:Q0c:=mkR 89 [] true [.agg Q0d.sig, .one (.int .i64)] [] (λargs rows=>Qee (Q0d.of (args.getD 0 .dead).cells) (argI args 1)) (λX=> .bool X) (λX=>[])
theorem Qzc:Q05 Tryz.prog Z2y:=Q0z Q0k Q0l (.nil) Tryz.func89 Tryz.call89 (λargs rows=>Qj0 (Q0d.of (args.getD 0 .dead).cells) (argI args 1)) [] [] 2 (λ_ _ _=>by kernel_rfl) (λ_ _=>rfl) (λ_ _=>Tree.free_ok (by kernel_rfl)) (λ_ X=>by kernel_rfl)
def Ql6(n:Q0p)(pages:Int):Tree Bool:=
let T1:Tree (Bool):= .br n.B8 (.br (decide (n.F2≥1)) (.lf (decide (n.F2≤128))) (.lf false)) (.lf (n.F2==0)); .br n.C6 (.br n.B8 (.lf false) (.br (decide (wrap i64 n.C1≥pages)) (.lf false) (.br (!n.C6) (.br (n.C1 !=0) (.lf false) T1) T1))) (.br (!n.C6) (.br (n.C1 !=0) (.lf false) T1) T1)
def Qgf(n:Q0p)(pages:Int):Bool:=(Ql6 n pages).m
def Z7a:Q0c:=mkR 90 [] true [.agg Q0p.sig, .one (.int .i64)] [] (λargs rows=>Qgf (Q0p.of (args.getD 0 .dead).cells) (argI args 1)) (λX=> .bool X) (λX=>[])
theorem Z2x:Q05 Tryz.prog Z7a:=Q0z Q0k Q0l (.nil) Tryz.func90 Tryz.call90 (λargs rows=>Ql6 (Q0p.of (args.getD 0 .dead).cells) (argI args 1)) [] [] 2 (λ_ _ _=>by kernel_rfl) (λ_ _=>rfl) (λ_ _=>Tree.free_ok (by kernel_rfl)) (λ_ X=>by kernel_rfl)
def Qfd(b:Q07)(pages:Int)(z:(Int)):Prop:=0≤z∧z≤32
def Q5y(b:Q07)(pages:Int)(z:(Int)):Nat:=(32-z).toNat
def Q51(b:Q07)(pages:Int):Tree Bool:=
.lp inferInstance (Q5y b pages 0+1) ((rE (pages:Int)∧(rE (0:Nat)∧rE (0:Nat))∧rE (0:Int)∧True)∧(rE b.C9∧rE b.C2∧True)∧True) 0 λ(v0:Int)=> .br (decide (v0<32)) (.cn (decide (0≤wrap u64 v0)) (let T1:Tree ((Int)⊕(Bool)):= .nx ((rE (pages:Int)∧(rE (0:Nat)∧rE (0:Nat))∧rE ((wrap i64 (v0+1)):Int)∧True)∧(rE b.C9∧rE b.C2∧True)∧True) (Sum.inl (wrap i64 (v0+1))); .br (iand u32 (ishr u32 b.C2 (wrap u64 v0)) (1:Int)==(1:Int)) (.br (decide (v0≥pages)) (.lf (Sum.inr false)) T1) T1)) (.lf (Sum.inr true))
def Q8w(b:Q07)(pages:Int):Bool:=(Q51 b pages).m
theorem Qpw(b:Q07)(pages:Int):(Q51 b pages).p:=by
 unfold Tree.p Q51
 repeat'(first|refine w_lp (inv:=Qfd b pages) (μ:=Q5y b pages) ?_ (Nat.lt_succ_self _) (λ_ _=> ?_)|exact trivial|refine w_br (λ_=> ?_) (λ_=> ?_)|refine w_cn ?_ ?_|refine w_an ?_ ?_|refine w_lv (λ_ _=> ?_)|refine w_nx ?_|refine w_lf ?_|refine And.intro ?_ ?_)
 all_goals((try simp only[Qfd,Q5y]at*);((subst_vars;first|trivial|assumption|omega|((simp(config:={decide:=true,failIfUnchanged:=false}) only[Bool.and_eq_true,Bool.or_eq_true,Bool.and_eq_false_iff,Bool.or_eq_false_iff,Bool.not_eq_true',Bool.not_eq_false',Bool.not_eq_true,Bool.not_eq_false,decide_eq_true_eq,decide_eq_false_iff_not,Q69,Q4c,Q6a,Q47,beq_iff_eq,beq_eq_false_iff_ne,bne_iff_ne,bne_eq_false_iff_eq,ne_eq,List.all_cons,List.all_nil,D.plain,List.length_cons,List.length_nil,List.length_append,List.length_set,List.length_replicate,IntKind.wrap_i64,IntKind.wrap_u64,IntKind.wrap_u32,IntKind.wrap_i32,IntKind.wrap_u8,true_and,and_true,or_false,false_or,or_true,true_or,not_true_eq_false,not_false_eq_true,Prod.fst,Prod.snd]at*);first|done|assumption|omega)|((simp(config:={decide:=true,failIfUnchanged:=false}) only[Bool.and_eq_true,Bool.or_eq_true,Bool.and_eq_false_iff,Bool.or_eq_false_iff,Bool.not_eq_true',Bool.not_eq_false',Bool.not_eq_true,Bool.not_eq_false,decide_eq_true_eq,decide_eq_false_iff_not,Q69,Q4c,Q6a,Q47,beq_iff_eq,beq_eq_false_iff_ne,bne_iff_ne,bne_eq_false_iff_eq,ne_eq,List.all_cons,List.all_nil,D.plain,List.length_cons,List.length_nil,List.length_append,List.length_set,List.length_replicate,IntKind.wrap_i64,IntKind.wrap_u64,IntKind.wrap_u32,IntKind.wrap_i32,IntKind.wrap_u8,true_and,and_true,or_false,false_or,or_true,true_or,not_true_eq_false,not_false_eq_true,Prod.fst,Prod.snd]at*);simp only[←List.length_pos_iff]at*;omega)|(simp_all;done)|(have:= @Qiw;simp_all;try omega))))
def Qrv:LInv:={
 α:=(Int)
 F:=λst a=>([(1,(lk st 1)),(2, .ptr 0 0 0),(5, .int i64 a)],[⟨true,38,2, .gen [[(cT st 2 0),(cT st 2 1)]]⟩])
 a0:=λst=>(lk st 5).toInt
 ex0:=λst=>[]++[(Q0o (lk st 2) (st.rows.length+0))]
 next:=λst=>(lk st 5).toInt
 ex:=λst=>[]++[(Q0o (lk st 2) (st.rows.length+0))]}
def Qol:List (Nat×LInv):=[(2,Qrv)]
def Qt4:Q0c:=mkR 91 [] true [.agg Q07.sig, .one (.int .i64)] [] (λargs rows=>Q8w (Q07.of (args.getD 0 .dead).cells) (argI args 1)) (λX=> .bool X) (λX=>[])
theorem Qsg:Q05 Tryz.prog Qt4:=Q0z Q0k Q0l (.nil) Tryz.func91 Tryz.call91 (λargs rows=>Q51 (Q07.of (args.getD 0 .dead).cells) (argI args 1)) [] Qol 3 (λ_ _ _=>by kernel_rfl) (λ_ _=>rfl) (λargs rows=>Qpw (Q07.of (args.getD 0 .dead).cells) (argI args 1)) (λ_ X=>by kernel_rfl)
def Qt1(m:Q00):Tree Bool:=
.lv (Q3d m.Mem) λ(x0:Int)=> .br (decide (x0<1)) (.lf false) (.br (m.B3.X.a0 !=0) (.lf false) (.br (decide (m.B3.B6.a0>31)) (.lf false) (.br (decide (m.B3.B6.a7>31)) (.lf false) (.br (decide (m.B3.B6.a6>255)) (.lf false) (.br (Int.tmod m.B3.B6.a1 (4:Int) !=(0:Int)) (.lf false) (.lv (Qgp m.A3) λ(x1:Bool)=> .br (!x1) (.lf false) (.lv (Qc4 m.B0) λ(x2:Bool)=> .br (!x2) (.lf false) (.lv (Qee m.B1 x0) λ(x3:Bool)=> .br (!x3) (.lf false) (.lv (Qgf m.C5 x0) λ(x4:Bool)=> .br (!x4) (.lf false) (.lv (Q8w m.A2 x0) λ(x5:Bool)=> .br (!x5) (.lf false) (.br (decide (m.A1≤1152921504606846976)) (.br m.A6 (.lf (!m.A7)) (.lf true)) (.lf false))))))))))))
def Q7n(m:Q00):Bool:=(Qt1 m).m
def Zkh:Q0c:=mkR 44 [] true [.agg Q00.sig] [] (λargs rows=>Q7n (Q00.of (args.getD 0 .dead).cells)) (λX=> .bool X) (λX=>[])
theorem Qpz:Q05 Tryz.prog Zkh:=Q0z Q0k Q0l (.cons Qch (.cons Qsh (.cons Qx0 (.cons Qzc (.cons Z2x (.cons Qsg (.nil))))))) Tryz.func44 Tryz.call44 (λargs rows=>Qt1 (Q00.of (args.getD 0 .dead).cells)) [] [] 2 (λ_ _ _=>by kernel_rfl) (λ_ _=>rfl) (λ_ _=>Tree.free_ok (by kernel_rfl)) (λ_ X=>by kernel_rfl)
def Q8z(t:Q0g):Tree (Q0g×Bool):=
.br (!t.D2) (.lf (t,false)) (.lf ({D2:=false,D0:=t.D0,D6:=true},true))
def Q5t(t:Q0g):(Q0g×Bool):=(Q8z t).m
def Zf6:Q0c:=mkR 132 [] true [.agg Q0g.sig] [] (λargs rows=>Q5t (Q0g.of (args.getD 0 .dead).cells)) (λX=> .tup [.agg (Q0g.cells (X.1)), .bool (X.2)]) (λX=>[])
theorem Qv3:Q05 Tryz.prog Zf6:=Q0z Q0k Q0l (.nil) Tryz.func132 Tryz.call132 (λargs rows=>Q8z (Q0g.of (args.getD 0 .dead).cells)) [] [] 2 (λ_ _ _=>by kernel_rfl) (λ_ _=>rfl) (λ_ _=>Tree.free_ok (by kernel_rfl)) (λ_ X=>by kernel_rfl)
def Qb3(c:Q0b)(b:Int):Tree (Q0b×Bool):=
.br (decide ((c.D3.length:Int)≥(16:Int))) (.lf (c,false)) (.cn (decide (c.D3.length+1≤maxLen)) (.lf ({D3:=c.D3++[(λ(n:Int)=>UInt8.ofNat n.toNat) b]},true)))
def Qjj(c:Q0b)(b:Int):(Q0b×Bool):=(Qb3 c b).m
abbrev Qkl(c:Q0b)(b:Int):Prop:=(Qb3 c b).p
def Zef:Q0c:=mkP 133 [] true [.agg Q0b.sig, .one (.int .u8)] [] (λargs rows=>Qkl (Q0b.of (args.getD 0 .dead).cells) (argI args 1)) (λargs rows=>Qjj (Q0b.of (args.getD 0 .dead).cells) (argI args 1)) (λX=> .tup [.agg (Q0b.cells (X.1)), .bool (X.2)]) (λX=>[])
theorem Qw:Q05 Tryz.prog Zef:=Q0n Q0k Q0l (.nil) Tryz.func133 Tryz.call133 (λargs rows=>Qb3 (Q0b.of (args.getD 0 .dead).cells) (argI args 1)) [] [] 2 (λ_ _ _=>by kernel_rfl) (λ_ _=>rfl) (λ_ _ h=>h) (λ_ X=>by kernel_rfl)
def Qh7(m:(List Int))(frame:Int):Tree Bool:=
.lv (Q3d m) λ(x0:Int)=> .lf (decide (wrap u64 frame<wrap u64 x0))
def Q2(m:(List Int))(frame:Int):Bool:=(Qh7 m frame).m
def Zej:Q0c:=mkR 186 [] true [.one (.ints .u32), .one (.int .u32)] [] (λargs rows=>Q2 (argL .u32 args 0) (argI args 1)) (λX=> .bool X) (λX=>[])
theorem Qe3:Q05 Tryz.prog Zej:=Q0z Q0k Q0l (.cons Qch (.nil)) Tryz.func186 Tryz.call186 (λargs rows=>Qh7 (argL .u32 args 0) (argI args 1)) [] [] 2 (λ_ _ _=>by kernel_rfl) (λ_ _=>rfl) (λ_ _=>Tree.free_ok (by kernel_rfl)) (λ_ X=>by kernel_rfl)
def Qdi(m:(List Int))(addr:Int)(size:Int)(v:Int):Tree (List Int):=
let E1:=Nat.beq 1 1&&Nat.blt 0 1&&decide (0≤wrap u32 (Int.tdiv addr 4)∧wrap u32 (Int.tdiv addr 4)<(m.length:Int));let E2:=Int.toNat (wrap u32 (Int.tdiv addr 4)); .br (size==4) (.cn E1 (.lf (List.set m E2 v))) (.cn E1 (let E3:=decide (0≤wrap u32 (8*Int.tmod addr 4)); .cn E3 (.cn E3 (.cn E1 (.lf (List.set m E2 (ior u32 (Qfg u32 (m.getD E2 0) (ishl u32 255 (wrap u32 (8*Int.tmod addr 4)))) (ishl u32 (iand u32 v 255) (wrap u32 (8*Int.tmod addr 4))))))))))
def Q9f(m:(List Int))(addr:Int)(size:Int)(v:Int):(List Int):=(Qdi m addr size v).m
abbrev Qdx(m:(List Int))(addr:Int)(size:Int)(v:Int):Prop:=(Qdi m addr size v).p
def Zjl:Q0c:=mkP 234 [true,false,false,false] true [.one (.row 0), .one (.int .u32), .one (.int .i64), .one (.int .u32)] [.arr 23 1 (.ints .u32)] (λargs rows=>Qdx (rowL .u32 rows 0) (argI args 1) (argI args 2) (argI args 3)) (λargs rows=>Q9f (rowL .u32 rows 0) (argI args 1) (argI args 2) (argI args 3)) (λX=> .tup []) (λX=>[⟨false,23,1, .ints .u32 X⟩])
theorem Z0q:Q05 Tryz.prog Zjl:=Q0n Q0k Q0l (.nil) Tryz.func234 Tryz.call234 (λargs rows=>Qdi (rowL .u32 rows 0) (argI args 1) (argI args 2) (argI args 3)) [] [] 2 (λ_ _ _=>by kernel_rfl) (λ_ _=>rfl) (λ_ _ h=>h) (λ_ X=>by kernel_rfl)
def Qh2(m:(List Int))(frame:Int)(s:(List UInt8))(z:(Int)×(List Int)):Nat:=(128-z.1).toNat
def Q8l(m:(List Int))(frame:Int)(s:(List UInt8)):Tree (List Int):=
.lp inferInstance (Qh2 m frame s (0,m)+1) ((True∧rE (frame:Int)∧rE (s:List UInt8)∧rE (0:Int)∧True)∧rE (m:List Int)∧True) (0,m) λ(v0:Int×List Int)=> .br (decide (v0.1<(s.length:Int))) (.br (decide (v0.1<128)) (.cn (decide (0≤v0.1∧v0.1<(s.length:Int))) (let E1:=wrap u32 (↑(UInt8.toNat (s.getD v0.1.toNat (0:UInt8))):Int);let E2:=wrap u32 (wrap i64 (wrap i64 (frame*128)+v0.1)); .an (Qdx v0.2 E2 1 E1) (.lv (Q9f v0.2 E2 1 E1) λ(x0:List Int)=> .nx ((True∧rE (frame:Int)∧rE (s:List UInt8)∧rE ((wrap i64 (v0.1+1)):Int)∧True)∧rE (x0:List Int)∧True) (Sum.inl (wrap i64 (v0.1+1),x0))))) (.lf (Sum.inr v0.2))) (.lf (Sum.inr v0.2))
def Qjp(m:(List Int))(frame:Int)(s:(List UInt8)):(List Int):=(Q8l m frame s).m
abbrev Qkx(m:(List Int))(frame:Int)(s:(List UInt8)):Prop:=(Q8l m frame s).p
def Zak:LInv:={
 α:=(Int)×(List Int)
 F:=λst a=>([(0, .all 0),(1,(lk st 1)),(2,(lk st 2)),(6, .int i64 a.1)],[⟨false,23,1, .ints u32 a.2⟩])
 a0:=λst=>((lk st 6).toInt,(Q49 st.rows 0))
 ex0:=λst=>[0]++[]
 next:=λst=>((lk st 6).toInt,(Q49 st.rows 0))
 ex:=λst=>[0]++[]}
def Z36:List (Nat×LInv):=[(1,Zak)]
def Ze8:Q0c:=mkP 187 [true,false,false] true [.one (.row 0), .one (.int .i64), .one (.str)] [.arr 23 1 (.ints .u32)] (λargs rows=>Qkx (rowL .u32 rows 0) (argI args 1) (argS args 2)) (λargs rows=>Qjp (rowL .u32 rows 0) (argI args 1) (argS args 2)) (λX=> .tup []) (λX=>[⟨false,23,1, .ints .u32 X⟩])
theorem Qvs:Q05 Tryz.prog Ze8:=Q0n Q0k Q0l (.cons Z0q (.nil)) Tryz.func187 Tryz.call187 (λargs rows=>Q8l (rowL .u32 rows 0) (argI args 1) (argS args 2)) [] Z36 3 (λ_ _ _=>by kernel_rfl) (λ_ _=>rfl) (λ_ _ h=>h) (λ_ X=>by kernel_rfl)
def Q5s(d0:Q0d)(m:(List Int))(e:Q0f):Tree (Q0d×Bool×(List Int)):=
.br (d0.C0 !=1) (.lf (d0,false,m)) (.br (e.B5 !=4) (.lf (d0,false,m)) (.br (decide (e.N>1)) (.lf (d0,false,m)) (let E4:=({Blocks:=d0.Blocks,B9:=d0.B9,B4:=d0.B4,C0:=2,D8:=0,B7:=0,B2:=0,C3:=[]}:Q0d);let E5:=({Blocks:=d0.Blocks,B9:=d0.B9,B4:=d0.B4,C0:=3,D8:=0,B7:=0,B2:=0,C3:=[]}:Q0d);let T2:Tree ((Q0d×Bool×(List Int))):= .br (e.N==1) (.lf (E4,true,m)) (.lf (E5,true,m));let E6:=decide ((e.C8.length:Int)>(0:Int)); .br (e.N==1) (let T1:Tree ((Q0d×Bool×(List Int))):= .br (d0.D8==1) (.an (Qkx m (wrap i64 d0.B2) e.C8) (.lv (Qjp m (wrap i64 d0.B2) e.C8) λ(x1:List Int)=> .br (e.N==1) (.lf (E4,true,x1)) (.lf (E5,true,x1)))) T2;let T3:Tree ((Q0d×Bool×(List Int))):= .br (!d0.D8==1) (.br E6 (.lf (d0,false,m)) T1) T1; .br (d0.D8==1) (.br ((e.C8.length:Int) !=(128:Int)) (.lf (d0,false,m)) (.lv (Q2 m d0.B2) λ(x0:Bool)=> .br (!x0) (.lf (d0,false,m)) T3)) T3) (.br E6 (.lf (d0,false,m)) T2))))
def Q79(d0:Q0d)(m:(List Int))(e:Q0f):(Q0d×Bool×(List Int)):=(Q5s d0 m e).m
abbrev Qgl(d0:Q0d)(m:(List Int))(e:Q0f):Prop:=(Q5s d0 m e).p
def Z6j:Q0c:=mkP 134 [false,true,false] true [.agg Q0d.sig, .one (.row 0), .agg Q0f.sig] [.arr 23 1 (.ints .u32)] (λargs rows=>Qgl (Q0d.of (args.getD 0 .dead).cells) (rowL .u32 rows 0) (Q0f.of (args.getD 2 .dead).cells)) (λargs rows=>Q79 (Q0d.of (args.getD 0 .dead).cells) (rowL .u32 rows 0) (Q0f.of (args.getD 2 .dead).cells)) (λX=> .tup [.agg (Q0d.cells (X.1)), .bool (X.2.1)]) (λX=>[⟨false,23,1, .ints .u32 (X.2.2)⟩])
theorem Qov:Q05 Tryz.prog Z6j:=Q0n Q0k Q0l (.cons Qe3 (.cons Qvs (.nil))) Tryz.func134 Tryz.call134 (λargs rows=>Q5s (Q0d.of (args.getD 0 .dead).cells) (rowL .u32 rows 0) (Q0f.of (args.getD 2 .dead).cells)) [] [] 2 (λ_ _ _=>by kernel_rfl) (λ_ _=>rfl) (λ_ _ h=>h) (λ_ X=>by kernel_rfl)
def Q65(n:Q0p)(m:(List Int))(frame:(List UInt8)):Tree (Q0p×Bool×(List Int)):=
.br (!n.C6) (.lf (n,false,m)) (.br (decide ((frame.length:Int)<(1:Int))) (.lf (n,false,m)) (.br (decide ((frame.length:Int)>(128:Int))) (.lf (n,false,m)) (.lv (Q2 m n.C1) λ(x0:Bool)=> .br (!x0) (.lf (n,false,m)) (.an (Qkx m (wrap i64 n.C1) frame) (.lv (Qjp m (wrap i64 n.C1) frame) λ(x1:List Int)=> .lf ({B4:=n.B4,F0:=n.F0,C6:=false,C1:=0,B8:=true,F2:=wrap u32 (frame.length:Int)},true,x1))))))
def Q7m(n:Q0p)(m:(List Int))(frame:(List UInt8)):(Q0p×Bool×(List Int)):=(Q65 n m frame).m
abbrev Qhe(n:Q0p)(m:(List Int))(frame:(List UInt8)):Prop:=(Q65 n m frame).p
def Z8k:Q0c:=mkP 135 [false,true,false] true [.agg Q0p.sig, .one (.row 0), .one (.str)] [.arr 23 1 (.ints .u32)] (λargs rows=>Qhe (Q0p.of (args.getD 0 .dead).cells) (rowL .u32 rows 0) (argS args 2)) (λargs rows=>Q7m (Q0p.of (args.getD 0 .dead).cells) (rowL .u32 rows 0) (argS args 2)) (λX=> .tup [.agg (Q0p.cells (X.1)), .bool (X.2.1)]) (λX=>[⟨false,23,1, .ints .u32 (X.2.2)⟩])
theorem Qpj:Q05 Tryz.prog Z8k:=Q0n Q0k Q0l (.cons Qe3 (.cons Qvs (.nil))) Tryz.func135 Tryz.call135 (λargs rows=>Q65 (Q0p.of (args.getD 0 .dead).cells) (rowL .u32 rows 0) (argS args 2)) [] [] 2 (λ_ _ _=>by kernel_rfl) (λ_ _=>rfl) (λ_ _ h=>h) (λ_ X=>by kernel_rfl)
def Q3x(m:Q00)(e:Q0f):Tree (Bool×Q00):=
.br m.A7 (.lf (false,m)) (let T1:Tree ((Bool×Q00)):= .br (e.B5==4) (.an (Qgl m.B1 m.Mem e) (.lv (Q79 m.B1 m.Mem e) λ(x2:Q0d×Bool×List Int)=> .lf (x2.2.1,{B3:=m.B3,Mem:=x2.2.2,A3:=m.A3,B0:=m.B0,B1:=x2.1,C5:=m.C5,A2:=m.A2,A1:=m.A1,A6:=m.A6,A7:=m.A7}))) (let T3:Tree ((Bool×Q00)):= .br (e.B5==6) (.br (decide (e.C8=[])) (.lf (true,{B3:=m.B3,Mem:=m.Mem,A3:=m.A3,B0:=m.B0,B1:=m.B1,C5:=m.C5,A2:={C9:=e.N,C2:=m.A2.C2},A1:=m.A1,A6:=m.A6,A7:=m.A7})) (.lf (false,m))) (.lf (false,m)); .br (e.B5==5) (.br (e.N==0) (.an (Qhe m.C5 m.Mem e.C8) (.lv (Q7m m.C5 m.Mem e.C8) λ(x3:Q0p×Bool×List Int)=> .lf (x3.2.1,{B3:=m.B3,Mem:=x3.2.2,A3:=m.A3,B0:=m.B0,B1:=m.B1,C5:=x3.1,A2:=m.A2,A1:=m.A1,A6:=m.A6,A7:=m.A7}))) T3) T3);let T2:Tree ((Bool×Q00)):= .br (e.B5==3) (.br (decide (e.N≤255)) (.br (decide (e.C8=[])) (.an (Qkl m.A3 (wrap u8 e.N)) (.lv (Qjj m.A3 (wrap u8 e.N)) λ(x1:Q0b×Bool)=> .lf (x1.2,{B3:=m.B3,Mem:=m.Mem,A3:=x1.1,B0:=m.B0,B1:=m.B1,C5:=m.C5,A2:=m.A2,A1:=m.A1,A6:=m.A6,A7:=m.A7}))) T1) T1) T1; .br (e.B5==2) (.br (e.N==0) (.br (decide (e.C8=[])) (.lv (Q5t m.B0) λ(x0:Q0g×Bool)=> .lf (x0.2,{B3:=m.B3,Mem:=m.Mem,A3:=m.A3,B0:=x0.1,B1:=m.B1,C5:=m.C5,A2:=m.A2,A1:=m.A1,A6:=m.A6,A7:=m.A7})) T2) T2) T2)
def Q0q(m:Q00)(e:Q0f):(Bool×Q00):=(Q3x m e).m
abbrev Qpa(m:Q00)(e:Q0f):Prop:=(Q3x m e).p
def Za9:Q0c:=mkP 68 [true,false] true [.ptr 0, .agg Q0f.sig] [.box 41 49 (Q00.sigW (.row 1)), .arr 23 1 (.ints .u32)] (λargs rows=>Qpa (Q00.ofW (rows.getD 0 default).cs (rowL .u32 rows 1)) (Q0f.of (args.getD 1 .dead).cells)) (λargs rows=>Q0q (Q00.ofW (rows.getD 0 default).cs (rowL .u32 rows 1)) (Q0f.of (args.getD 1 .dead).cells)) (λX=> .bool (X.1)) (λX=>[⟨true,41,49, .gen [(Q00.cellsW (X.2) (.all 1))]⟩,⟨false,23,1, .ints .u32 (X.2).Mem⟩])
theorem Z7e:Q05 Tryz.prog Za9:=Q0n Q0k Q0l (.cons Qv3 (.cons Qw (.cons Qov (.cons Qpj (.nil))))) Tryz.func68 Tryz.call68 (λargs rows=>Q3x (Q00.ofW (rows.getD 0 default).cs (rowL .u32 rows 1)) (Q0f.of (args.getD 1 .dead).cells)) [.row 23 1 (.ints .u32)] [] 2 (λ_ _ _=>by kernel_rfl) (λ_ _=>rfl) (λ_ _ h=>h) (λ_ X=>by kernel_rfl)
def Q80(m:Q01)(e:Q0f):Tree (Bool×Q01):=
.br m.A0.A7 (.lf (false,m)) (let T1:Tree ((Bool×Q01)):= .br (e.B5==4) (.an (Qgl m.A0.B1 m.A0.Mem e) (.lv (Q79 m.A0.B1 m.A0.Mem e) λ(x2:Q0d×Bool×List Int)=> .lf (x2.2.1,{A0:={B3:=m.A0.B3,Mem:=x2.2.2,A3:=m.A0.A3,B0:=m.A0.B0,B1:=x2.1,C5:=m.A0.C5,A2:=m.A0.A2,A1:=m.A0.A1,A6:=m.A0.A6,A7:=m.A0.A7},A9:=m.A9,C4:=m.C4,A4:=m.A4}))) (let T3:Tree ((Bool×Q01)):= .br (e.B5==6) (.br (decide (e.C8=[])) (.lf (true,{A0:={B3:=m.A0.B3,Mem:=m.A0.Mem,A3:=m.A0.A3,B0:=m.A0.B0,B1:=m.A0.B1,C5:=m.A0.C5,A2:={C9:=e.N,C2:=m.A0.A2.C2},A1:=m.A0.A1,A6:=m.A0.A6,A7:=m.A0.A7},A9:=m.A9,C4:=m.C4,A4:=m.A4})) (.lf (false,m))) (.lf (false,m)); .br (e.B5==5) (.br (e.N==0) (.an (Qhe m.A0.C5 m.A0.Mem e.C8) (.lv (Q7m m.A0.C5 m.A0.Mem e.C8) λ(x3:Q0p×Bool×List Int)=> .lf (x3.2.1,{A0:={B3:=m.A0.B3,Mem:=x3.2.2,A3:=m.A0.A3,B0:=m.A0.B0,B1:=m.A0.B1,C5:=x3.1,A2:=m.A0.A2,A1:=m.A0.A1,A6:=m.A0.A6,A7:=m.A0.A7},A9:=m.A9,C4:=m.C4,A4:=m.A4}))) T3) T3);let T2:Tree ((Bool×Q01)):= .br (e.B5==3) (.br (decide (e.N≤255)) (.br (decide (e.C8=[])) (.an (Qkl m.A0.A3 (wrap u8 e.N)) (.lv (Qjj m.A0.A3 (wrap u8 e.N)) λ(x1:Q0b×Bool)=> .lf (x1.2,{A0:={B3:=m.A0.B3,Mem:=m.A0.Mem,A3:=x1.1,B0:=m.A0.B0,B1:=m.A0.B1,C5:=m.A0.C5,A2:=m.A0.A2,A1:=m.A0.A1,A6:=m.A0.A6,A7:=m.A0.A7},A9:=m.A9,C4:=m.C4,A4:=m.A4}))) T1) T1) T1; .br (e.B5==2) (.br (e.N==0) (.br (decide (e.C8=[])) (.lv (Q5t m.A0.B0) λ(x0:Q0g×Bool)=> .lf (x0.2,{A0:={B3:=m.A0.B3,Mem:=m.A0.Mem,A3:=m.A0.A3,B0:=x0.1,B1:=m.A0.B1,C5:=m.A0.C5,A2:=m.A0.A2,A1:=m.A0.A1,A6:=m.A0.A6,A7:=m.A0.A7},A9:=m.A9,C4:=m.C4,A4:=m.A4})) T2) T2) T2)
def Qio(m:Q01)(e:Q0f):(Bool×Q01):=(Q80 m e).m
abbrev Qli(m:Q01)(e:Q0f):Prop:=(Q80 m e).p
def Z2q:Q0c:=mkP 68 [true,false] true [.ptr 0, .agg Q0f.sig] [.box 49 52 (Q01.sigW (.row 1) (.row 2) (.row 3)), .arr 23 1 (.ints .u32), .arr 72 4 (.recs .apiEntry), .arr 70 3 (.recs .apiEvent)] (λargs rows=>Qli (Q01.ofW (rows.getD 0 default).cs (rowL .u32 rows 1) (rowR .apiEntry rows 2) (rowR .apiEvent rows 3)) (Q0f.of (args.getD 1 .dead).cells)) (λargs rows=>Qio (Q01.ofW (rows.getD 0 default).cs (rowL .u32 rows 1) (rowR .apiEntry rows 2) (rowR .apiEvent rows 3)) (Q0f.of (args.getD 1 .dead).cells)) (λX=> .bool (X.1)) (λX=>[⟨true,49,52, .gen [(Q01.cellsW (X.2) (.all 1) (.all 2) (.all 3))]⟩,⟨false,23,1, .ints .u32 (X.2).A0.Mem⟩,⟨false,72,4, .recs .apiEntry (X.2).C4⟩,⟨false,70,3, .recs .apiEvent (X.2).A4⟩])
theorem Qz9:Q05 Tryz.prog Z2q:=Q0n Q0k Q0l (.cons Qv3 (.cons Qw (.cons Qov (.cons Qpj (.nil))))) Tryz.func68 Tryz.call68 (λargs rows=>Q80 (Q01.ofW (rows.getD 0 default).cs (rowL .u32 rows 1) (rowR .apiEntry rows 2) (rowR .apiEvent rows 3)) (Q0f.of (args.getD 1 .dead).cells)) [.row 23 1 (.ints .u32), .row 72 4 (.recs .apiEntry), .row 70 3 (.recs .apiEvent)] [] 2 (λ_ _ _=>by kernel_rfl) (λ_ _=>rfl) (λ_ _ h=>h) (λ_ X=>by kernel_rfl)
def Q6w(m:Q01)(e:Q0f):Tree (Bool×Q01):=
.an (Qli m e) (.lv (Qio m e) λ(x0:Bool×Q01)=> .lf (x0.1,x0.2))
def Qfv(m:Q01)(e:Q0f):(Bool×Q01):=(Q6w m e).m
abbrev Qk7(m:Q01)(e:Q0f):Prop:=(Q6w m e).p
def Z0:Q0c:=mkP 233 [true,false] true [.ptr 0, .agg Q0f.sig] [.box 49 52 (Q01.sigW (.row 1) (.row 2) (.row 3)), .arr 23 1 (.ints .u32), .arr 72 4 (.recs .apiEntry), .arr 70 3 (.recs .apiEvent)] (λargs rows=>Qk7 (Q01.ofW (rows.getD 0 default).cs (rowL .u32 rows 1) (rowR .apiEntry rows 2) (rowR .apiEvent rows 3)) (Q0f.of (args.getD 1 .dead).cells)) (λargs rows=>Qfv (Q01.ofW (rows.getD 0 default).cs (rowL .u32 rows 1) (rowR .apiEntry rows 2) (rowR .apiEvent rows 3)) (Q0f.of (args.getD 1 .dead).cells)) (λX=> .bool (X.1)) (λX=>[⟨true,49,52, .gen [(Q01.cellsW (X.2) (.all 1) (.all 2) (.all 3))]⟩,⟨false,23,1, .ints .u32 (X.2).A0.Mem⟩,⟨false,72,4, .recs .apiEntry (X.2).C4⟩,⟨false,70,3, .recs .apiEvent (X.2).A4⟩])
theorem Qwn:Q05 Tryz.prog Z0:=Q0n Q0k Q0l (.cons Qz9 (.nil)) Tryz.func233 Tryz.call233 (λargs rows=>Q6w (Q01.ofW (rows.getD 0 default).cs (rowL .u32 rows 1) (rowR .apiEntry rows 2) (rowR .apiEvent rows 3)) (Q0f.of (args.getD 1 .dead).cells)) [.row 23 1 (.ints .u32), .row 72 4 (.recs .apiEntry), .row 70 3 (.recs .apiEvent)] [] 2 (λ_ _ _=>by kernel_rfl) (λ_ _=>rfl) (λ_ _ h=>h) (λ_ X=>by kernel_rfl)
def Q9v(r:Q01)(e:Q0f):Tree Q01:=
.an (Qk7 r e) (.lv (Qfv r e) λ(x0:Bool×Q01)=> .br x0.1 (.cn (decide (40*(x0.2.C4.length+1)≤140737488355328)) (.lf ({A0:=x0.2.A0,A9:=x0.2.A9,C4:=x0.2.C4++[{At:=x0.2.A0.A1,C7:=e}],A4:=x0.2.A4}))) (.lf x0.2))
def Qgd(r:Q01)(e:Q0f):Q01:=(Q9v r e).m
abbrev Qgk(r:Q01)(e:Q0f):Prop:=(Q9v r e).p
def Z6a:Q0c:=mkKP 1 182 [true,false] [.ptr 0, .agg Q0f.sig] [.box 49 52 (Q01.sigW (.row 1) (.row 2) (.row 3)), .arr 23 1 (.ints .u32), .arr 72 4 (.recs .apiEntry), .arr 70 3 (.recs .apiEvent)] (λargs rows=>Qgk (Q01.ofW (rows.getD 0 default).cs (rowL .u32 rows 1) (rowR .apiEntry rows 2) (rowR .apiEvent rows 3)) (Q0f.of (args.getD 1 .dead).cells)) (λargs rows=>Qgd (Q01.ofW (rows.getD 0 default).cs (rowL .u32 rows 1) (rowR .apiEntry rows 2) (rowR .apiEvent rows 3)) (Q0f.of (args.getD 1 .dead).cells)) (λX=> .tup []) (λX=>[⟨true,49,52, .gen [(Q01.cellsW X (.all 1) (.all 2) (.all 3))]⟩,⟨false,23,1, .ints .u32 X.A0.Mem⟩,⟨false,72,4, .recs .apiEntry X.C4⟩,⟨false,70,3, .recs .apiEvent X.A4⟩])
theorem Z23:Q05 Tryz.prog Z6a:=mkKP_of Q0k Q0l (.cons Qwn (.nil)) Tryz.func182 Tryz.call182 (λargs rows=>Q9v (Q01.ofW (rows.getD 0 default).cs (rowL .u32 rows 1) (rowR .apiEntry rows 2) (rowR .apiEvent rows 3)) (Q0f.of (args.getD 1 .dead).cells)) [.row 23 1 (.ints .u32), .row 72 4 (.recs .apiEntry), .row 70 3 (.recs .apiEvent)] [] 2 (λ_ _ _=>by kernel_rfl) (λ_ _=>rfl) (λ_ _ h=>h)
def Qh(is:Bool)(n:Int):Tree Int:=
.br is (.cn (decide (0≤wrap u64 n)) (.lf (ishl u32 1 (wrap u64 n)))) (.lf 0)
def Q92(is:Bool)(n:Int):Int:=(Qh is n).m
abbrev Q9l(is:Bool)(n:Int):Prop:=(Qh is n).p
def Zfs:Q0c:=mkP 97 [] true [.one (.bool), .one (.int .i64)] [] (λargs rows=>Q9l (argB args 0) (argI args 1)) (λargs rows=>Q92 (argB args 0) (argI args 1)) (λX=> .int .u32 X) (λX=>[])
theorem Zc0:Q05 Tryz.prog Zfs:=Q0n Q0k Q0l (.nil) Tryz.func97 Tryz.call97 (λargs rows=>Qh (argB args 0) (argI args 1)) [] [] 2 (λ_ _ _=>by kernel_rfl) (λ_ _=>rfl) (λ_ _ h=>h) (λ_ X=>by kernel_rfl)
def Qhn(t:Q0g):Tree Bool:=
.lf t.D6
def Q9o(t:Q0g):Bool:=(Qhn t).m
def Qpy:Q0c:=mkR 98 [] true [.agg Q0g.sig] [] (λargs rows=>Q9o (Q0g.of (args.getD 0 .dead).cells)) (λX=> .bool X) (λX=>[])
theorem Qon:Q05 Tryz.prog Qpy:=Q0z Q0k Q0l (.nil) Tryz.func98 Tryz.call98 (λargs rows=>Qhn (Q0g.of (args.getD 0 .dead).cells)) [] [] 2 (λ_ _ _=>by kernel_rfl) (λ_ _=>rfl) (λ_ _=>Tree.free_ok (by kernel_rfl)) (λ_ X=>by kernel_rfl)
def Qel(c:Q0b):Tree Bool:=
.lf (decide ((c.D3.length:Int)>(0:Int)))
def Q5c(c:Q0b):Bool:=(Qel c).m
def Qn4:Q0c:=mkR 99 [] true [.agg Q0b.sig] [] (λargs rows=>Q5c (Q0b.of (args.getD 0 .dead).cells)) (λX=> .bool X) (λX=>[])
theorem Qlx:Q05 Tryz.prog Qn4:=Q0z Q0k Q0l (.nil) Tryz.func99 Tryz.call99 (λargs rows=>Qel (Q0b.of (args.getD 0 .dead).cells)) [] [] 2 (λ_ _ _=>by kernel_rfl) (λ_ _=>rfl) (λ_ _=>Tree.free_ok (by kernel_rfl)) (λ_ X=>by kernel_rfl)
def Qin(d0:Q0d):Tree Bool:=
.br (d0.C0==2) (.lf true) (.lf (d0.C0==3))
def Qag(d0:Q0d):Bool:=(Qin d0).m
def Qri:Q0c:=mkR 100 [] true [.agg Q0d.sig] [] (λargs rows=>Qag (Q0d.of (args.getD 0 .dead).cells)) (λX=> .bool X) (λX=>[])
theorem Qq2:Q05 Tryz.prog Qri:=Q0z Q0k Q0l (.nil) Tryz.func100 Tryz.call100 (λargs rows=>Qin (Q0d.of (args.getD 0 .dead).cells)) [] [] 2 (λ_ _ _=>by kernel_rfl) (λ_ _=>rfl) (λ_ _=>Tree.free_ok (by kernel_rfl)) (λ_ X=>by kernel_rfl)
def Qj7(n:Q0p):Tree Bool:=
.lf n.B8
def Qbn(n:Q0p):Bool:=(Qj7 n).m
def Quu:Q0c:=mkR 101 [] true [.agg Q0p.sig] [] (λargs rows=>Qbn (Q0p.of (args.getD 0 .dead).cells)) (λX=> .bool X) (λX=>[])
theorem Qs3:Q05 Tryz.prog Quu:=Q0z Q0k Q0l (.nil) Tryz.func101 Tryz.call101 (λargs rows=>Qj7 (Q0p.of (args.getD 0 .dead).cells)) [] [] 2 (λ_ _ _=>by kernel_rfl) (λ_ _=>rfl) (λ_ _=>Tree.free_ok (by kernel_rfl)) (λ_ X=>by kernel_rfl)
def Qmc(b:Q07)(z:(Int)×(Int)):Prop:=0≤z.2∧z.2≤32
def Qf1(b:Q07)(z:(Int)×(Int)):Nat:=(32-z.2).toNat
def Qif(b:Q07):Tree Int:=
.lp inferInstance (Qf1 b (0,0)+1) (((rE (0:Nat)∧rE (0:Nat))∧rE (0:Int)∧rE (0:Int)∧True)∧(rE b.C9∧rE b.C2∧True)∧True) (0,0) λ(v0:Int×Int)=> .br (decide (v0.2<32)) (.cn (decide (0≤wrap u64 v0.2)) (.nx (((rE (0:Nat)∧rE (0:Nat))∧rE ((wrap i64 (v0.1+wrap i64 (iand u32 (ishr u32 b.C2 (wrap u64 v0.2)) 1))):Int)∧rE ((wrap i64 (v0.2+1)):Int)∧True)∧(rE b.C9∧rE b.C2∧True)∧True) (Sum.inl (wrap i64 (v0.1+wrap i64 (iand u32 (ishr u32 b.C2 (wrap u64 v0.2)) 1)),wrap i64 (v0.2+1))))) (.lf (Sum.inr v0.1))
def Qdf(b:Q07):Int:=(Qif b).m
theorem Z29(b:Q07):(Qif b).p:=by
 unfold Tree.p Qif
 repeat'(first|refine w_lp (inv:=Qmc b) (μ:=Qf1 b) ?_ (Nat.lt_succ_self _) (λ_ _=> ?_)|exact trivial|refine w_br (λ_=> ?_) (λ_=> ?_)|refine w_cn ?_ ?_|refine w_an ?_ ?_|refine w_lv (λ_ _=> ?_)|refine w_nx ?_|refine w_lf ?_|refine And.intro ?_ ?_)
 all_goals((try simp only[Qmc,Qf1]at*);((subst_vars;first|trivial|assumption|omega|((simp(config:={decide:=true,failIfUnchanged:=false}) only[Bool.and_eq_true,Bool.or_eq_true,Bool.and_eq_false_iff,Bool.or_eq_false_iff,Bool.not_eq_true',Bool.not_eq_false',Bool.not_eq_true,Bool.not_eq_false,decide_eq_true_eq,decide_eq_false_iff_not,Q69,Q4c,Q6a,Q47,beq_iff_eq,beq_eq_false_iff_ne,bne_iff_ne,bne_eq_false_iff_eq,ne_eq,List.all_cons,List.all_nil,D.plain,List.length_cons,List.length_nil,List.length_append,List.length_set,List.length_replicate,IntKind.wrap_i64,IntKind.wrap_u64,IntKind.wrap_u32,IntKind.wrap_i32,IntKind.wrap_u8,true_and,and_true,or_false,false_or,or_true,true_or,not_true_eq_false,not_false_eq_true,Prod.fst,Prod.snd]at*);first|done|assumption|omega)|((simp(config:={decide:=true,failIfUnchanged:=false}) only[Bool.and_eq_true,Bool.or_eq_true,Bool.and_eq_false_iff,Bool.or_eq_false_iff,Bool.not_eq_true',Bool.not_eq_false',Bool.not_eq_true,Bool.not_eq_false,decide_eq_true_eq,decide_eq_false_iff_not,Q69,Q4c,Q6a,Q47,beq_iff_eq,beq_eq_false_iff_ne,bne_iff_ne,bne_eq_false_iff_eq,ne_eq,List.all_cons,List.all_nil,D.plain,List.length_cons,List.length_nil,List.length_append,List.length_set,List.length_replicate,IntKind.wrap_i64,IntKind.wrap_u64,IntKind.wrap_u32,IntKind.wrap_i32,IntKind.wrap_u8,true_and,and_true,or_false,false_or,or_true,true_or,not_true_eq_false,not_false_eq_true,Prod.fst,Prod.snd]at*);simp only[←List.length_pos_iff]at*;omega)|(simp_all;done)|(have:= @Qiw;simp_all;try omega))))
def Z84:LInv:={
 α:=(Int)×(Int)
 F:=λst a=>([(1, .ptr 0 0 0),(3, .int i64 a.1),(4, .int i64 a.2)],[⟨true,38,2, .gen [[(cT st 1 0),(cT st 1 1)]]⟩])
 a0:=λst=>((lk st 3).toInt,(lk st 4).toInt)
 ex0:=λst=>[]++[(Q0o (lk st 1) (st.rows.length+0))]
 next:=λst=>((lk st 3).toInt,(lk st 4).toInt)
 ex:=λst=>[]++[(Q0o (lk st 1) (st.rows.length+0))]}
def Qz3:List (Nat×LInv):=[(3,Z84)]
def Zcg:Q0c:=mkR 153 [] true [.agg Q07.sig] [] (λargs rows=>Qdf (Q07.of (args.getD 0 .dead).cells)) (λX=> .int .i64 X) (λX=>[])
theorem Qr1:Q05 Tryz.prog Zcg:=Q0z Q0k Q0l (.nil) Tryz.func153 Tryz.call153 (λargs rows=>Qif (Q07.of (args.getD 0 .dead).cells)) [] Qz3 3 (λ_ _ _=>by kernel_rfl) (λ_ _=>rfl) (λargs rows=>Z29 (Q07.of (args.getD 0 .dead).cells)) (λ_ X=>by kernel_rfl)
def Q9a(b:Q07):Tree Bool:=
.lv (Qdf b) λ(x0:Int)=> .lf (wrap u64 x0 !=wrap u64 b.C9)
def Q3e(b:Q07):Bool:=(Q9a b).m
def Qnb:Q0c:=mkR 102 [] true [.agg Q07.sig] [] (λargs rows=>Q3e (Q07.of (args.getD 0 .dead).cells)) (λX=> .bool X) (λX=>[])
theorem Qm0:Q05 Tryz.prog Qnb:=Q0z Q0k Q0l (.cons Qr1 (.nil)) Tryz.func102 Tryz.call102 (λargs rows=>Q9a (Q07.of (args.getD 0 .dead).cells)) [] [] 2 (λ_ _ _=>by kernel_rfl) (λ_ _=>rfl) (λ_ _=>Tree.free_ok (by kernel_rfl)) (λ_ X=>by kernel_rfl)
def Qef(m:Q00):Tree Int:=
.lv (Q9o m.B0) λ(x0:Bool)=> .an (Q9l x0 0) (.lv (Q92 x0 0) λ(x1:Int)=> .lv (Q5c m.A3) λ(x2:Bool)=> .an (Q9l x2 1) (.lv (Q92 x2 1) λ(x3:Int)=> .lv (Qag m.B1) λ(x4:Bool)=> .an (Q9l x4 2) (.lv (Q92 x4 2) λ(x5:Int)=> .lv (Qbn m.C5) λ(x6:Bool)=> .an (Q9l x6 3) (.lv (Q92 x6 3) λ(x7:Int)=> .lv (Q3e m.A2) λ(x8:Bool)=> .an (Q9l x8 4) (.lv (Q92 x8 4) λ(x9:Int)=> .lf (ior u32 (ior u32 (ior u32 (ior u32 x1 x3) x5) x7) x9))))))
def Qg5(m:Q00):Int:=(Qef m).m
abbrev Qpc(m:Q00):Prop:=(Qef m).p
def Z98:Q0c:=mkP 46 [] true [.agg Q00.sig] [] (λargs rows=>Qpc (Q00.of (args.getD 0 .dead).cells)) (λargs rows=>Qg5 (Q00.of (args.getD 0 .dead).cells)) (λX=> .int .u32 X) (λX=>[])
theorem Z5q:Q05 Tryz.prog Z98:=Q0n Q0k Q0l (.cons Zc0 (.cons Qon (.cons Qlx (.cons Qq2 (.cons Qs3 (.cons Qm0 (.nil))))))) Tryz.func46 Tryz.call46 (λargs rows=>Qef (Q00.of (args.getD 0 .dead).cells)) [] [] 2 (λ_ _ _=>by kernel_rfl) (λ_ _=>rfl) (λ_ _ h=>h) (λ_ X=>by kernel_rfl)
def Q86(m:Q00):Tree Int:=
.an (Qpc m) (.lv (Qg5 m) λ(x0:Int)=> .lf (iand u32 x0 m.B3.B6.a7))
def Q2p(m:Q00):Int:=(Q86 m).m
abbrev Qex(m:Q00):Prop:=(Q86 m).p
def Z1v:Q0c:=mkP 104 [] true [.agg Q00.sig] [] (λargs rows=>Qex (Q00.of (args.getD 0 .dead).cells)) (λargs rows=>Q2p (Q00.of (args.getD 0 .dead).cells)) (λX=> .int .u32 X) (λX=>[])
theorem Qm4:Q05 Tryz.prog Z1v:=Q0n Q0k Q0l (.cons Z5q (.nil)) Tryz.func104 Tryz.call104 (λargs rows=>Q86 (Q00.of (args.getD 0 .dead).cells)) [] [] 2 (λ_ _ _=>by kernel_rfl) (λ_ _=>rfl) (λ_ _ h=>h) (λ_ X=>by kernel_rfl)
def Qdh(m:Q00):Tree Bool:=
.br m.A6 (.an (Qex m) (.lv (Q2p m) λ(x0:Int)=> .lf (x0==0))) (.lf false)
def Qc6(m:Q00):Bool:=(Qdh m).m
abbrev Ql(m:Q00):Prop:=(Qdh m).p
def Zfi:Q0c:=mkP 48 [] true [.agg Q00.sig] [] (λargs rows=>Ql (Q00.of (args.getD 0 .dead).cells)) (λargs rows=>Qc6 (Q00.of (args.getD 0 .dead).cells)) (λX=> .bool X) (λX=>[])
theorem Qv5:Q05 Tryz.prog Zfi:=Q0n Q0k Q0l (.cons Qm4 (.nil)) Tryz.func48 Tryz.call48 (λargs rows=>Qdh (Q00.of (args.getD 0 .dead).cells)) [] [] 2 (λ_ _ _=>by kernel_rfl) (λ_ _=>rfl) (λ_ _ h=>h) (λ_ X=>by kernel_rfl)
def Q7(m:Q00):Tree Bool:=
.lv (Q7n m) λ(x0:Bool)=> .br (!x0) (.lf true) (.br m.A7 (.lf true) (.an (Ql m) (.lv (Qc6 m) λ(x1:Bool)=> .br x1 (.lf true) (.lf (decide (m.A1≥1152921504606846976))))))
def Q0y(m:Q00):Bool:=(Q7 m).m
abbrev Qdo(m:Q00):Prop:=(Q7 m).p
def Zav:Q0c:=mkP 108 [] true [.agg Q00.sig] [] (λargs rows=>Qdo (Q00.of (args.getD 0 .dead).cells)) (λargs rows=>Q0y (Q00.of (args.getD 0 .dead).cells)) (λX=> .bool X) (λX=>[])
theorem Qse:Q05 Tryz.prog Zav:=Q0n Q0k Q0l (.cons Qpz (.cons Qv5 (.nil))) Tryz.func108 Tryz.call108 (λargs rows=>Q7 (Q00.of (args.getD 0 .dead).cells)) [] [] 2 (λ_ _ _=>by kernel_rfl) (λ_ _=>rfl) (λ_ _ h=>h) (λ_ X=>by kernel_rfl)
end
end Go.Proofs.YtjaifpiopmhmlaaGreat

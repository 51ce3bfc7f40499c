/-
  Functions of the program: models, and that its calls come to them (by a program: gen3.py).
-/
import Derived.Test.YtpcbkbalabgnlaaGreatRecordTellsBase
import Derived.Test.YtpcbkbalabgnlaaGreatRecordTellsYe
set_option maxRecDepth 100000
set_option linter.unusedVariables false
set_option linter.unusedSimpArgs false
namespace Go.Proofs.YtpcbkbalabgnlaaGreat
open Go Go.GD Go.IntKind
noncomputable section
def Qa8(m:(List Int)):Tree (List Int):=
.cn (Nat.blt (0:Nat) (1:Nat)&&Nat.beq (1:Nat) (1:Nat)&&List.all [D.int u32 (0:Int)] D.plain&&decide ((0:Int)≤(m.length:Int)∧(m.length:Int)≤(m.length:Int)∧(m.length:Int)≤(9223372036854775807:Int)∧(↑(4:Nat):Int)*(m.length:Int)≤(140737488355328:Int))) (let E1:=List.length (List.replicate (Int.toNat (m.length:Int)) (0:Int)); .lf (List.take (Min.min (m.length) E1) m++List.drop (Min.min (m.length) E1) (List.replicate (Int.toNat (m.length:Int)) (0:Int))))
def Qop(m:(List Int)):(List Int):=(Qa8 m).m
abbrev Qtj(m:(List Int)):Prop:=(Qa8 m).p
def Zgs:Q0d:=mkP 83 [] true [.one (.ints .u32)] [] (λargs rows=>Qtj (argL .u32 args 0)) (λargs rows=>Qop (argL .u32 args 0)) (λX=> .all 0) (λX=>[⟨false,23,1, .ints .u32 X⟩])
theorem Zbq:Q05 Tryz.prog Zgs:=Q0k Q0j Q0i (.nil) Tryz.func83 Tryz.call83 (λargs rows=>Qa8 (argL .u32 args 0)) [.row 23 1 (.ints .u32)] [] 2 (λ_ _ _=>by kernel_rfl) (λ_ _=>rfl) (λ_ _ h=>h) (λ_ X=>by kernel_rfl)
def Q9w(m:Q01):Tree Q01:=
.an (Qtj m.Mem) (.lv (Qop m.Mem) λ(x0:List Int)=> .lf ({B2:=m.B2,Mem:=x0,A3:=m.A3,A9:=m.A9,B1:=m.B1,C2:=m.C2,A1:=m.A1,A6:=m.A6,A4:=m.A4,A7:=m.A7}))
def Qjz(m:Q01):Q01:=(Q9w m).m
abbrev Qd8(m:Q01):Prop:=(Q9w m).p
def Zmm:Q0d:=mkP 43 [] true [.agg Q01.sig] [] (λargs rows=>Qd8 (Q01.of (args.getD 0 .dead).cells)) (λargs rows=>Qjz (Q01.of (args.getD 0 .dead).cells)) (λX=> .agg (Q01.cellsW X (.all 0))) (λX=>[⟨false,23,1, .ints .u32 X.Mem⟩])
theorem Qmm:Q05 Tryz.prog Zmm:=Q0k Q0j Q0i (.cons Zbq (.nil)) Tryz.func43 Tryz.call43 (λargs rows=>Q9w (Q01.of (args.getD 0 .dead).cells)) [.row 23 1 (.ints .u32)] [] 2 (λ_ _ _=>by kernel_rfl) (λ_ _=>rfl) (λ_ _ h=>h) (λ_ X=>by kernel_rfl)
def Qqh(n:Int)(k:Int)(z:(Int)×(List Int)):Prop:=0≤z.1∧(z.2.length:Int)=z.1∧(z.1≤k∨z.1=0)
def Qjm(n:Int)(k:Int)(z:(Int)×(List Int)):Nat:=(k-z.1).toNat
def Qm1(n:Int)(k:Int):Tree (List UInt8):=
.lp inferInstance (Qjm n k (0,[])+1) ((rE (n:Int)∧rE (k:Int)∧True∧rE (0:Int)∧True)∧rE ([]:List Int)∧True) (0,[]) λ(v0:Int×List Int)=> .br (decide (v0.1<k)) (.lv (Qch n (wrap i64 (Int.tdiv v0.1 9))) λ(x0:Int)=> .cn (decide (1*(v0.2.length+1)≤140737488355328)) (.nx ((rE (n:Int)∧rE (k:Int)∧True∧rE ((wrap i64 (v0.1+1)):Int)∧True)∧rE ((v0.2++[wrap u8 x0]):List Int)∧True) (Sum.inl (wrap i64 (v0.1+1),v0.2++[wrap u8 x0])))) (.lf (Sum.inr (bytesOf v0.2)))
def Qnp(n:Int)(k:Int):(List UInt8):=(Qm1 n k).m
def Q5z(n:Int)(k:Int):Prop:=
k≤1000000000000
theorem Z83(n:Int)(k:Int)(hw:Q5z n k):(Qm1 n k).p:=by
 simp only[Q5z]at hw
 unfold Tree.p Qm1
 repeat'(first|refine w_lp (inv:=Qqh n k) (μ:=Qjm n k) ?_ (Nat.lt_succ_self _) (λ_ _=> ?_)|exact trivial|refine w_br (λ_=> ?_) (λ_=> ?_)|refine w_cn ?_ ?_|refine w_an ?_ ?_|refine w_lv (λ_ _=> ?_)|refine w_nx ?_|refine w_lf ?_|refine And.intro ?_ ?_)
 all_goals((try simp only[Qqh,Qjm]at*);((subst_vars;first|trivial|assumption|omega|((simp(config:={decide:=true,failIfUnchanged:=false}) only[Bool.and_eq_true,Bool.or_eq_true,Bool.and_eq_false_iff,Bool.or_eq_false_iff,Bool.not_eq_true',Bool.not_eq_false',Bool.not_eq_true,Bool.not_eq_false,decide_eq_true_eq,decide_eq_false_iff_not,Q6q,Q4d,Q6r,Q4c,beq_iff_eq,beq_eq_false_iff_ne,bne_iff_ne,bne_eq_false_iff_eq,ne_eq,List.all_cons,List.all_nil,D.plain,List.length_cons,List.length_nil,List.length_append,List.length_set,List.length_replicate,IntKind.wrap_i64,IntKind.wrap_u64,IntKind.wrap_u32,IntKind.wrap_i32,IntKind.wrap_u8,true_and,and_true,or_false,false_or,or_true,true_or,not_true_eq_false,not_false_eq_true,Prod.fst,Prod.snd]at*);first|done|assumption|omega)|((simp(config:={decide:=true,failIfUnchanged:=false}) only[Bool.and_eq_true,Bool.or_eq_true,Bool.and_eq_false_iff,Bool.or_eq_false_iff,Bool.not_eq_true',Bool.not_eq_false',Bool.not_eq_true,Bool.not_eq_false,decide_eq_true_eq,decide_eq_false_iff_not,Q6q,Q4d,Q6r,Q4c,beq_iff_eq,beq_eq_false_iff_ne,bne_iff_ne,bne_eq_false_iff_eq,ne_eq,List.all_cons,List.all_nil,D.plain,List.length_cons,List.length_nil,List.length_append,List.length_set,List.length_replicate,IntKind.wrap_i64,IntKind.wrap_u64,IntKind.wrap_u32,IntKind.wrap_i32,IntKind.wrap_u8,true_and,and_true,or_false,false_or,or_true,true_or,not_true_eq_false,not_false_eq_true,Prod.fst,Prod.snd]at*);simp only[←List.length_pos_iff]at*;omega)|(simp_all;done)|(have:= @Qjh;simp_all;try omega))))
def Zbw:LInv:={
 α:=(Int)×(List Int)
 F:=λst a=>([(0,(lk st 0)),(1,(lk st 1)),(5, .all 0),(6, .int i64 a.1)],[⟨false,5,1, .ints u8 a.2⟩])
 a0:=λst=>((lk st 6).toInt,(Q67 st.rows (rN st 5)))
 ex0:=λst=>[]++[(Q0r (lk st 5) (st.rows.length+0))]
 next:=λst=>((lk st 6).toInt,(Q67 st.rows (rN st 5)))
 ex:=λst=>[]++[(Q0r (lk st 5) (st.rows.length+0))]}
def Z3b:List (Nat×LInv):=[(3,Zbw)]
def Zf6:Q0d:=mkP 46 [] true [.one (.int .i64), .one (.int .i64)] [] (λargs rows=>Q5z (argI args 0) (argI args 1)) (λargs rows=>Qnp (argI args 0) (argI args 1)) (λX=> .str X) (λX=>[])
theorem Qwo:Q05 Tryz.prog Zf6:=Q0k Q0j Q0i (.cons Qm2 (.nil)) Tryz.func46 Tryz.call46 (λargs rows=>Qm1 (argI args 0) (argI args 1)) [] Z3b 3 (λ_ _ _=>by kernel_rfl) (λ_ _=>rfl) (λargs rows h=>Z83 (argI args 0) (argI args 1) h) (λ_ X=>by kernel_rfl)
def Qao(r:Q00):Tree Q00:=
.an (Qd8 r.A0) (.lv (Qjz r.A0) λ(x0:Q01)=> .cn (decide (40*(0+r.B9.length)≤140737488355328)) (.cn (decide (32*(0+r.A2.length)≤140737488355328)) (.lf ({A0:=x0,B0:=r.B0,B9:=r.B9,A2:=r.A2}))))
def Qld(r:Q00):Q00:=(Qao r).m
abbrev Qhg(r:Q00):Prop:=(Qao r).p
def Zhy:Q0d:=mkP 50 [] true [.agg Q00.sig] [] (λargs rows=>Qhg (Q00.of (args.getD 0 .dead).cells)) (λargs rows=>Qld (Q00.of (args.getD 0 .dead).cells)) (λX=> .agg (Q00.cellsW X (.all 0) (.all 1) (.all 2))) (λX=>[⟨false,23,1, .ints .u32 X.A0.Mem⟩,⟨false,73,4, .recs .apiEntry X.B9⟩,⟨false,47,3, .recs .apiEvent X.A2⟩])
theorem Qoj:Q05 Tryz.prog Zhy:=Q0k Q0j Q0i (.cons Qmm (.nil)) Tryz.func50 Tryz.call50 (λargs rows=>Qao (Q00.of (args.getD 0 .dead).cells)) [.row 23 1 (.ints .u32), .row 73 4 (.recs .apiEntry), .row 47 3 (.recs .apiEvent)] [] 2 (λ_ _ _=>by kernel_rfl) (λ_ _=>rfl) (λ_ _ h=>h) (λ_ X=>by kernel_rfl)
def Qlz(e:Q06):Tree Bool:=
.br (e.B8==1) (.lf (decide (e.C6=[]))) (.br (e.B8==6) (.lf (decide (e.C6=[]))) (.br (e.B8==2) (.br (e.N==0) (.lf (decide (e.C6=[]))) (.lf false)) (.br (e.B8==3) (.br (decide (e.N≤255)) (.lf (decide (e.C6=[]))) (.lf false)) (.br (e.B8==4) (.br (decide (e.N≤1)) (.br (decide (e.C6=[])) (.lf true) (.br (e.N==1) (.lf ((e.C6.length:Int)==(128:Int))) (.lf false))) (.lf false)) (.br (e.B8==5) (.br (e.N==0) (.br (decide ((e.C6.length:Int)≥(1:Int))) (.lf (decide ((e.C6.length:Int)≤(128:Int)))) (.lf false)) (.lf false)) (.lf false))))))
def Qau(e:Q06):Bool:=(Qlz e).m
def Za1:Q0d:=mkR 34 [] true [.agg Q06.sig] [] (λargs rows=>Qau (Q06.of (args.getD 0 .dead).cells)) (λX=> .bool X) (λX=>[])
theorem Z3p:Q05 Tryz.prog Za1:=Q11 Q0j Q0i (.nil) Tryz.func34 Tryz.call34 (λargs rows=>Qlz (Q06.of (args.getD 0 .dead).cells)) [] [] 2 (λ_ _ _=>by kernel_rfl) (λ_ _=>rfl) (λ_ _=>Tree.free_ok (by kernel_rfl)) (λ_ X=>by kernel_rfl)
def Q65(r:Q00)(e:Q06):Tree (Q00×Bool):=
.an (Qhg r) (.lv (Qld r) λ(x0:Q00)=> .lv (Qau e) λ(x1:Bool)=> .br (!x1) (.lf (x0,false)) (.br (e.B8==1) (.lf (x0,false)) (.br (decide ((x0.A2.length:Int)≥(16:Int))) (.lf (x0,false)) (.cn (decide (32*(x0.A2.length+1)≤140737488355328)) (.lf ({A0:=x0.A0,B0:=x0.B0,B9:=x0.B9,A2:=x0.A2++[e]},true))))))
def Q24(r:Q00)(e:Q06):(Q00×Bool):=(Q65 r e).m
abbrev Q5l(r:Q00)(e:Q06):Prop:=(Q65 r e).p
def Z40:Q0d:=mkP 19 [] true [.agg Q00.sig, .agg Q06.sig] [] (λargs rows=>Q5l (Q00.of (args.getD 0 .dead).cells) (Q06.of (args.getD 1 .dead).cells)) (λargs rows=>Q24 (Q00.of (args.getD 0 .dead).cells) (Q06.of (args.getD 1 .dead).cells)) (λX=> .tup [.agg (Q00.cellsW (X.1) (.all 0) (.all 1) (.all 2)), .bool (X.2)]) (λX=>[⟨false,23,1, .ints .u32 (X.1).A0.Mem⟩,⟨false,73,4, .recs .apiEntry (X.1).B9⟩,⟨false,47,3, .recs .apiEvent (X.1).A2⟩])
theorem Qnl:Q05 Tryz.prog Z40:=Q0k Q0j Q0i (.cons Qoj (.cons Z3p (.nil))) Tryz.func19 Tryz.call19 (λargs rows=>Q65 (Q00.of (args.getD 0 .dead).cells) (Q06.of (args.getD 1 .dead).cells)) [.row 23 1 (.ints .u32), .row 73 4 (.recs .apiEntry), .row 47 3 (.recs .apiEvent)] [] 2 (λ_ _ _=>by kernel_rfl) (λ_ _=>rfl) (λ_ _ h=>h) (λ_ X=>by kernel_rfl)
def Qgh(n:Int):Tree Q06:=
.lv (Qch n 2) λ(x0:Int)=> .br (Int.tmod x0 (7:Int)==(0:Int)) (.lf ({B8:=2,N:=0,C6:=[]})) (.br (Int.tmod x0 (7:Int)==(1:Int)) (.lf ({B8:=3,N:=wrap u32 (iand i64 (ishr i64 x0 8) 255),C6:=[]})) (.br (Int.tmod x0 (7:Int)==(2:Int)) (.lf ({B8:=3,N:=wrap u32 (iand i64 (ishr i64 x0 8) 255),C6:=[]})) (.br (Int.tmod x0 (7:Int)==(3:Int)) (.lf ({B8:=4,N:=1,C6:=[]})) (.br (Int.tmod x0 (7:Int)==(4:Int)) (.an (Q5z x0 128) (.lv (Qnp x0 128) λ(x1:List UInt8)=> .lf ({B8:=4,N:=1,C6:=x1}))) (.br (Int.tmod x0 (7:Int)==(5:Int)) (let E1:=wrap i64 (1+Int.tmod (ishr i64 x0 8) 40); .an (Q5z x0 E1) (.lv (Qnp x0 E1) λ(x2:List UInt8)=> .lf ({B8:=5,N:=0,C6:=x2}))) (.br (Int.tmod (ishr i64 x0 8) (4:Int)==(0:Int)) (.lf ({B8:=4,N:=0,C6:=[]})) (.lf ({B8:=6,N:=wrap u32 (Int.tmod (ishr i64 x0 8) 3),C6:=[]}))))))))
def Qf7(n:Int):Q06:=(Qgh n).m
abbrev Qfn(n:Int):Prop:=(Qgh n).p
def Zbh:Q0d:=mkP 17 [] true [.one (.int .i64)] [] (λargs rows=>Qfn (argI args 0)) (λargs rows=>Qf7 (argI args 0)) (λX=> .agg (Q06.cells X)) (λX=>[])
theorem Qt2:Q05 Tryz.prog Zbh:=Q0k Q0j Q0i (.cons Qm2 (.cons Qwo (.nil))) Tryz.func17 Tryz.call17 (λargs rows=>Qgh (argI args 0)) [] [] 2 (λ_ _ _=>by kernel_rfl) (λ_ _=>rfl) (λ_ _ h=>h) (λ_ X=>by kernel_rfl)
def Qnr(m:(List Int)):Tree Int:=
.br (Int.tmod (m.length:Int) (32:Int) !=(0:Int)) (.lf 0) (.br (decide ((m.length:Int)>(1024:Int))) (.lf 0) (.lf (wrap i64 (Int.tdiv (m.length:Int) 32))))
def Q4m(m:(List Int)):Int:=(Qnr m).m
def Zda:Q0d:=mkR 65 [] true [.one (.ints .u32)] [] (λargs rows=>Q4m (argL .u32 args 0)) (λX=> .int .i64 X) (λX=>[])
theorem Qdj:Q05 Tryz.prog Zda:=Q11 Q0j Q0i (.nil) Tryz.func65 Tryz.call65 (λargs rows=>Qnr (argL .u32 args 0)) [] [] 2 (λ_ _ _=>by kernel_rfl) (λ_ _=>rfl) (λ_ _=>Tree.free_ok (by kernel_rfl)) (λ_ X=>by kernel_rfl)
def Qlc(c:Q0c):Tree Bool:=
.lf (decide ((c.D1.length:Int)≤(16:Int)))
def Qjn(c:Q0c):Bool:=(Qlc c).m
def Qup:Q0d:=mkR 66 [] true [.agg Q0c.sig] [] (λargs rows=>Qjn (Q0c.of (args.getD 0 .dead).cells)) (λX=> .bool X) (λX=>[])
theorem Qs6:Q05 Tryz.prog Qup:=Q11 Q0j Q0i (.nil) Tryz.func66 Tryz.call66 (λargs rows=>Qlc (Q0c.of (args.getD 0 .dead).cells)) [] [] 2 (λ_ _ _=>by kernel_rfl) (λ_ _=>rfl) (λ_ _=>Tree.free_ok (by kernel_rfl)) (λ_ X=>by kernel_rfl)
def Qi2(t:Q0f):Tree Bool:=
.br t.D4 (.br t.D3 (.lf false) (.br t.D4 (.lf (t.C8 !=0)) (.br t.D3 (.lf true) (.lf (t.C8==0))))) (.br t.D4 (.lf (t.C8 !=0)) (.br t.D3 (.lf true) (.lf (t.C8==0))))
def Qds(t:Q0f):Bool:=(Qi2 t).m
def Z0j:Q0d:=mkR 67 [] true [.agg Q0f.sig] [] (λargs rows=>Qds (Q0f.of (args.getD 0 .dead).cells)) (λX=> .bool X) (λX=>[])
theorem Qyd:Q05 Tryz.prog Z0j:=Q11 Q0j Q0i (.nil) Tryz.func67 Tryz.call67 (λargs rows=>Qi2 (Q0f.of (args.getD 0 .dead).cells)) [] [] 2 (λ_ _ _=>by kernel_rfl) (λ_ _=>rfl) (λ_ _=>Tree.free_ok (by kernel_rfl)) (λ_ X=>by kernel_rfl)
def Qkf(d0:Q0e)(pages:Int):Tree Bool:=
.br (decide (d0.Blocks>64)) (.lf false) (.br (decide (d0.C0<0)) (.lf false) (.br (decide (d0.C0>3)) (.lf false) (.br (d0.C0 !=1) (.br (d0.D7==0) (.br (d0.B6==0) (.br (d0.B3==0) (.lf (decide (d0.C4=[]))) (.lf false)) (.lf false)) (.lf false)) (.br (decide (d0.B6≥d0.Blocks)) (.lf false) (.br (decide (wrap i64 d0.B3≥pages)) (.lf false) (.br (d0.D7==1) (.br (decide (d0.C4=[])) (.lf true) (.br (d0.D7==2) (.lf ((d0.C4.length:Int)==(128:Int))) (.lf false))) (.br (d0.D7==2) (.lf ((d0.C4.length:Int)==(128:Int))) (.lf false))))))))
def Qge(d0:Q0e)(pages:Int):Bool:=(Qkf d0 pages).m
def Z3x:Q0d:=mkR 68 [] true [.agg Q0e.sig, .one (.int .i64)] [] (λargs rows=>Qge (Q0e.of (args.getD 0 .dead).cells) (argI args 1)) (λX=> .bool X) (λX=>[])
theorem Z0k:Q05 Tryz.prog Z3x:=Q11 Q0j Q0i (.nil) Tryz.func68 Tryz.call68 (λargs rows=>Qkf (Q0e.of (args.getD 0 .dead).cells) (argI args 1)) [] [] 2 (λ_ _ _=>by kernel_rfl) (λ_ _=>rfl) (λ_ _=>Tree.free_ok (by kernel_rfl)) (λ_ X=>by kernel_rfl)
def Qm9(n:Q0n)(pages:Int):Tree Bool:=
let T1:Tree (Bool):= .br n.B7 (.br (decide (n.F1≥1)) (.lf (decide (n.F1≤128))) (.lf false)) (.lf (n.F1==0)); .br n.C7 (.br n.B7 (.lf false) (.br (decide (wrap i64 n.C3≥pages)) (.lf false) (.br (!n.C7) (.br (n.C3 !=0) (.lf false) T1) T1))) (.br (!n.C7) (.br (n.C3 !=0) (.lf false) T1) T1)
def Qi0(n:Q0n)(pages:Int):Bool:=(Qm9 n pages).m
def Z8q:Q0d:=mkR 69 [] true [.agg Q0n.sig, .one (.int .i64)] [] (λargs rows=>Qi0 (Q0n.of (args.getD 0 .dead).cells) (argI args 1)) (λX=> .bool X) (λX=>[])
theorem Z45:Q05 Tryz.prog Z8q:=Q11 Q0j Q0i (.nil) Tryz.func69 Tryz.call69 (λargs rows=>Qm9 (Q0n.of (args.getD 0 .dead).cells) (argI args 1)) [] [] 2 (λ_ _ _=>by kernel_rfl) (λ_ _=>rfl) (λ_ _=>Tree.free_ok (by kernel_rfl)) (λ_ X=>by kernel_rfl)
def Qh1(b:Q07)(pages:Int)(z:(Int)):Prop:=0≤z∧z≤32
def Q7w(b:Q07)(pages:Int)(z:(Int)):Nat:=(32-z).toNat
def Q6g(b:Q07)(pages:Int):Tree Bool:=
.lp inferInstance (Q7w b pages 0+1) ((rE (pages:Int)∧(rE (0:Nat)∧rE (0:Nat))∧rE (0:Int)∧True)∧(rE b.C9∧rE b.C5∧True)∧True) 0 λ(v0:Int)=> .br (decide (v0<32)) (.cn (decide (0≤wrap u64 v0)) (let T1:Tree ((Int)⊕(Bool)):= .nx ((rE (pages:Int)∧(rE (0:Nat)∧rE (0:Nat))∧rE ((wrap i64 (v0+1)):Int)∧True)∧(rE b.C9∧rE b.C5∧True)∧True) (Sum.inl (wrap i64 (v0+1))); .br (iand u32 (ishr u32 b.C5 (wrap u64 v0)) (1:Int)==(1:Int)) (.br (decide (v0≥pages)) (.lf (Sum.inr false)) T1) T1)) (.lf (Sum.inr true))
def Qa5(b:Q07)(pages:Int):Bool:=(Q6g b pages).m
theorem Qqr(b:Q07)(pages:Int):(Q6g b pages).p:=by
 unfold Tree.p Q6g
 repeat'(first|refine w_lp (inv:=Qh1 b pages) (μ:=Q7w b pages) ?_ (Nat.lt_succ_self _) (λ_ _=> ?_)|exact trivial|refine w_br (λ_=> ?_) (λ_=> ?_)|refine w_cn ?_ ?_|refine w_an ?_ ?_|refine w_lv (λ_ _=> ?_)|refine w_nx ?_|refine w_lf ?_|refine And.intro ?_ ?_)
 all_goals((try simp only[Qh1,Q7w]at*);((subst_vars;first|trivial|assumption|omega|((simp(config:={decide:=true,failIfUnchanged:=false}) only[Bool.and_eq_true,Bool.or_eq_true,Bool.and_eq_false_iff,Bool.or_eq_false_iff,Bool.not_eq_true',Bool.not_eq_false',Bool.not_eq_true,Bool.not_eq_false,decide_eq_true_eq,decide_eq_false_iff_not,Q6q,Q4d,Q6r,Q4c,beq_iff_eq,beq_eq_false_iff_ne,bne_iff_ne,bne_eq_false_iff_eq,ne_eq,List.all_cons,List.all_nil,D.plain,List.length_cons,List.length_nil,List.length_append,List.length_set,List.length_replicate,IntKind.wrap_i64,IntKind.wrap_u64,IntKind.wrap_u32,IntKind.wrap_i32,IntKind.wrap_u8,true_and,and_true,or_false,false_or,or_true,true_or,not_true_eq_false,not_false_eq_true,Prod.fst,Prod.snd]at*);first|done|assumption|omega)|((simp(config:={decide:=true,failIfUnchanged:=false}) only[Bool.and_eq_true,Bool.or_eq_true,Bool.and_eq_false_iff,Bool.or_eq_false_iff,Bool.not_eq_true',Bool.not_eq_false',Bool.not_eq_true,Bool.not_eq_false,decide_eq_true_eq,decide_eq_false_iff_not,Q6q,Q4d,Q6r,Q4c,beq_iff_eq,beq_eq_false_iff_ne,bne_iff_ne,bne_eq_false_iff_eq,ne_eq,List.all_cons,List.all_nil,D.plain,List.length_cons,List.length_nil,List.length_append,List.length_set,List.length_replicate,IntKind.wrap_i64,IntKind.wrap_u64,IntKind.wrap_u32,IntKind.wrap_i32,IntKind.wrap_u8,true_and,and_true,or_false,false_or,or_true,true_or,not_true_eq_false,not_false_eq_true,Prod.fst,Prod.snd]at*);simp only[←List.length_pos_iff]at*;omega)|(simp_all;done)|(have:= @Qjh;simp_all;try omega))))
def Qs9:LInv:={
 α:=(Int)
 F:=λst a=>([(1,(lk st 1)),(2, .ptr 0 0 0),(5, .int i64 a)],[⟨true,38,2, .gen [[(cT st 2 0),(cT st 2 1)]]⟩])
 a0:=λst=>(lk st 5).toInt
 ex0:=λst=>[]++[(Q0r (lk st 2) (st.rows.length+0))]
 next:=λst=>(lk st 5).toInt
 ex:=λst=>[]++[(Q0r (lk st 2) (st.rows.length+0))]}
def Qpl:List (Nat×LInv):=[(2,Qs9)]
def Qwb:Q0d:=mkR 70 [] true [.agg Q07.sig, .one (.int .i64)] [] (λargs rows=>Qa5 (Q07.of (args.getD 0 .dead).cells) (argI args 1)) (λX=> .bool X) (λX=>[])
theorem Qrz:Q05 Tryz.prog Qwb:=Q11 Q0j Q0i (.nil) Tryz.func70 Tryz.call70 (λargs rows=>Q6g (Q07.of (args.getD 0 .dead).cells) (argI args 1)) [] Qpl 3 (λ_ _ _=>by kernel_rfl) (λ_ _=>rfl) (λargs rows=>Qqr (Q07.of (args.getD 0 .dead).cells) (argI args 1)) (λ_ X=>by kernel_rfl)
def Qum(m:Q01):Tree Bool:=
.lv (Q4m m.Mem) λ(x0:Int)=> .br (decide (x0<1)) (.lf false) (.br (m.B2.X.a0 !=0) (.lf false) (.br (decide (m.B2.B5.a0>31)) (.lf false) (.br (decide (m.B2.B5.a7>31)) (.lf false) (.br (decide (m.B2.B5.a6>255)) (.lf false) (.br (Int.tmod m.B2.B5.a1 (4:Int) !=(0:Int)) (.lf false) (.lv (Qjn m.A3) λ(x1:Bool)=> .br (!x1) (.lf false) (.lv (Qds m.A9) λ(x2:Bool)=> .br (!x2) (.lf false) (.lv (Qge m.B1 x0) λ(x3:Bool)=> .br (!x3) (.lf false) (.lv (Qi0 m.C2 x0) λ(x4:Bool)=> .br (!x4) (.lf false) (.lv (Qa5 m.A1 x0) λ(x5:Bool)=> .br (!x5) (.lf false) (.br (decide (m.A6≤1152921504606846976)) (.br m.A4 (.lf (!m.A7)) (.lf true)) (.lf false))))))))))))
def Q5x(m:Q01):Bool:=(Qum m).m
def Zlg:Q0d:=mkR 32 [] true [.agg Q01.sig] [] (λargs rows=>Q5x (Q01.of (args.getD 0 .dead).cells)) (λX=> .bool X) (λX=>[])
theorem Qrh:Q05 Tryz.prog Zlg:=Q11 Q0j Q0i (.cons Qdj (.cons Qs6 (.cons Qyd (.cons Z0k (.cons Z45 (.cons Qrz (.nil))))))) Tryz.func32 Tryz.call32 (λargs rows=>Qum (Q01.of (args.getD 0 .dead).cells)) [] [] 2 (λ_ _ _=>by kernel_rfl) (λ_ _=>rfl) (λ_ _=>Tree.free_ok (by kernel_rfl)) (λ_ X=>by kernel_rfl)
def Qmi(t:Q0f):Tree (Q0f×Bool):=
.br (!t.D4) (.lf (t,false)) (.lf ({D4:=false,C8:=t.C8,D3:=true},true))
def Ql1(t:Q0f):(Q0f×Bool):=(Qmi t).m
def Zfj:Q0d:=mkR 107 [] true [.agg Q0f.sig] [] (λargs rows=>Ql1 (Q0f.of (args.getD 0 .dead).cells)) (λX=> .tup [.agg (Q0f.cells (X.1)), .bool (X.2)]) (λX=>[])
theorem Qxd:Q05 Tryz.prog Zfj:=Q11 Q0j Q0i (.nil) Tryz.func107 Tryz.call107 (λargs rows=>Qmi (Q0f.of (args.getD 0 .dead).cells)) [] [] 2 (λ_ _ _=>by kernel_rfl) (λ_ _=>rfl) (λ_ _=>Tree.free_ok (by kernel_rfl)) (λ_ X=>by kernel_rfl)
def Qcu(c:Q0c)(b:Int):Tree (Q0c×Bool):=
.br (decide ((c.D1.length:Int)≥(16:Int))) (.lf (c,false)) (.cn (decide (c.D1.length+1≤maxLen)) (.lf ({D1:=c.D1++[(λ(n:Int)=>UInt8.ofNat n.toNat) b]},true)))
def Qln(c:Q0c)(b:Int):(Q0c×Bool):=(Qcu c b).m
abbrev Qmc(c:Q0c)(b:Int):Prop:=(Qcu c b).p
def Zfe:Q0d:=mkP 108 [] true [.agg Q0c.sig, .one (.int .u8)] [] (λargs rows=>Qmc (Q0c.of (args.getD 0 .dead).cells) (argI args 1)) (λargs rows=>Qln (Q0c.of (args.getD 0 .dead).cells) (argI args 1)) (λX=> .tup [.agg (Q0c.cells (X.1)), .bool (X.2)]) (λX=>[])
theorem Qwe:Q05 Tryz.prog Zfe:=Q0k Q0j Q0i (.nil) Tryz.func108 Tryz.call108 (λargs rows=>Qcu (Q0c.of (args.getD 0 .dead).cells) (argI args 1)) [] [] 2 (λ_ _ _=>by kernel_rfl) (λ_ _=>rfl) (λ_ _ h=>h) (λ_ X=>by kernel_rfl)
def Qi9(m:(List Int))(frame:Int):Tree Bool:=
.lv (Q4m m) λ(x0:Int)=> .lf (decide (wrap u64 frame<wrap u64 x0))
def Q2b(m:(List Int))(frame:Int):Bool:=(Qi9 m frame).m
def Zf1:Q0d:=mkR 162 [] true [.one (.ints .u32), .one (.int .u32)] [] (λargs rows=>Q2b (argL .u32 args 0) (argI args 1)) (λX=> .bool X) (λX=>[])
theorem Qg9:Q05 Tryz.prog Zf1:=Q11 Q0j Q0i (.cons Qdj (.nil)) Tryz.func162 Tryz.call162 (λargs rows=>Qi9 (argL .u32 args 0) (argI args 1)) [] [] 2 (λ_ _ _=>by kernel_rfl) (λ_ _=>rfl) (λ_ _=>Tree.free_ok (by kernel_rfl)) (λ_ X=>by kernel_rfl)
def Qf8(m:(List Int))(addr:Int)(size:Int)(v:Int):Tree (List Int):=
let E1:=Nat.beq 1 1&&Nat.blt 0 1&&decide (0≤wrap u32 (Int.tdiv addr 4)∧wrap u32 (Int.tdiv addr 4)<(m.length:Int));let E2:=Int.toNat (wrap u32 (Int.tdiv addr 4)); .br (size==4) (.cn E1 (.lf (List.set m E2 v))) (.cn E1 (let E3:=decide (0≤wrap u32 (8*Int.tmod addr 4)); .cn E3 (.cn E3 (.cn E1 (.lf (List.set m E2 (ior u32 (Qhf u32 (m.getD E2 0) (ishl u32 255 (wrap u32 (8*Int.tmod addr 4)))) (ishl u32 (iand u32 v 255) (wrap u32 (8*Int.tmod addr 4))))))))))
def Qbl(m:(List Int))(addr:Int)(size:Int)(v:Int):(List Int):=(Qf8 m addr size v).m
abbrev Qfv(m:(List Int))(addr:Int)(size:Int)(v:Int):Prop:=(Qf8 m addr size v).p
def Zla:Q0d:=mkP 207 [true,false,false,false] true [.one (.row 0), .one (.int .u32), .one (.int .i64), .one (.int .u32)] [.arr 23 1 (.ints .u32)] (λargs rows=>Qfv (rowL .u32 rows 0) (argI args 1) (argI args 2) (argI args 3)) (λargs rows=>Qbl (rowL .u32 rows 0) (argI args 1) (argI args 2) (argI args 3)) (λX=> .tup []) (λX=>[⟨false,23,1, .ints .u32 X⟩])
theorem Z1h:Q05 Tryz.prog Zla:=Q0k Q0j Q0i (.nil) Tryz.func207 Tryz.call207 (λargs rows=>Qf8 (rowL .u32 rows 0) (argI args 1) (argI args 2) (argI args 3)) [] [] 2 (λ_ _ _=>by kernel_rfl) (λ_ _=>rfl) (λ_ _ h=>h) (λ_ X=>by kernel_rfl)
def Qj2(m:(List Int))(frame:Int)(s:(List UInt8))(z:(Int)×(List Int)):Nat:=(128-z.1).toNat
def Qb(m:(List Int))(frame:Int)(s:(List UInt8)):Tree (List Int):=
.lp inferInstance (Qj2 m frame s (0,m)+1) ((True∧rE (frame:Int)∧rE (s:List UInt8)∧rE (0:Int)∧True)∧rE (m:List Int)∧True) (0,m) λ(v0:Int×List Int)=> .br (decide (v0.1<(s.length:Int))) (.br (decide (v0.1<128)) (.cn (decide (0≤v0.1∧v0.1<(s.length:Int))) (let E1:=wrap u32 (↑(UInt8.toNat (s.getD v0.1.toNat (0:UInt8))):Int);let E2:=wrap u32 (wrap i64 (wrap i64 (frame*128)+v0.1)); .an (Qfv v0.2 E2 1 E1) (.lv (Qbl v0.2 E2 1 E1) λ(x0:List Int)=> .nx ((True∧rE (frame:Int)∧rE (s:List UInt8)∧rE ((wrap i64 (v0.1+1)):Int)∧True)∧rE (x0:List Int)∧True) (Sum.inl (wrap i64 (v0.1+1),x0))))) (.lf (Sum.inr v0.2))) (.lf (Sum.inr v0.2))
def Qko(m:(List Int))(frame:Int)(s:(List UInt8)):(List Int):=(Qb m frame s).m
abbrev Qlx(m:(List Int))(frame:Int)(s:(List UInt8)):Prop:=(Qb m frame s).p
def Zcc:LInv:={
 α:=(Int)×(List Int)
 F:=λst a=>([(0, .all 0),(1,(lk st 1)),(2,(lk st 2)),(6, .int i64 a.1)],[⟨false,23,1, .ints u32 a.2⟩])
 a0:=λst=>((lk st 6).toInt,(Q67 st.rows 0))
 ex0:=λst=>[0]++[]
 next:=λst=>((lk st 6).toInt,(Q67 st.rows 0))
 ex:=λst=>[0]++[]}
def Z4c:List (Nat×LInv):=[(1,Zcc)]
def Zgj:Q0d:=mkP 163 [true,false,false] true [.one (.row 0), .one (.int .i64), .one (.str)] [.arr 23 1 (.ints .u32)] (λargs rows=>Qlx (rowL .u32 rows 0) (argI args 1) (argS args 2)) (λargs rows=>Qko (rowL .u32 rows 0) (argI args 1) (argS args 2)) (λX=> .tup []) (λX=>[⟨false,23,1, .ints .u32 X⟩])
theorem Qx3:Q05 Tryz.prog Zgj:=Q0k Q0j Q0i (.cons Z1h (.nil)) Tryz.func163 Tryz.call163 (λargs rows=>Qb (rowL .u32 rows 0) (argI args 1) (argS args 2)) [] Z4c 3 (λ_ _ _=>by kernel_rfl) (λ_ _=>rfl) (λ_ _ h=>h) (λ_ X=>by kernel_rfl)
def Q7u(d0:Q0e)(m:(List Int))(e:Q06):Tree (Q0e×Bool×(List Int)):=
.br (d0.C0 !=1) (.lf (d0,false,m)) (.br (e.B8 !=4) (.lf (d0,false,m)) (.br (decide (e.N>1)) (.lf (d0,false,m)) (let E4:=({Blocks:=d0.Blocks,C1:=d0.C1,B4:=d0.B4,C0:=2,D7:=0,B6:=0,B3:=0,C4:=[]}:Q0e);let E5:=({Blocks:=d0.Blocks,C1:=d0.C1,B4:=d0.B4,C0:=3,D7:=0,B6:=0,B3:=0,C4:=[]}:Q0e);let T2:Tree ((Q0e×Bool×(List Int))):= .br (e.N==1) (.lf (E4,true,m)) (.lf (E5,true,m));let E6:=decide ((e.C6.length:Int)>(0:Int)); .br (e.N==1) (let T1:Tree ((Q0e×Bool×(List Int))):= .br (d0.D7==1) (.an (Qlx m (wrap i64 d0.B3) e.C6) (.lv (Qko m (wrap i64 d0.B3) e.C6) λ(x1:List Int)=> .br (e.N==1) (.lf (E4,true,x1)) (.lf (E5,true,x1)))) T2;let T3:Tree ((Q0e×Bool×(List Int))):= .br (!d0.D7==1) (.br E6 (.lf (d0,false,m)) T1) T1; .br (d0.D7==1) (.br ((e.C6.length:Int) !=(128:Int)) (.lf (d0,false,m)) (.lv (Q2b m d0.B3) λ(x0:Bool)=> .br (!x0) (.lf (d0,false,m)) T3)) T3) (.br E6 (.lf (d0,false,m)) T2))))
def Q98(d0:Q0e)(m:(List Int))(e:Q06):(Q0e×Bool×(List Int)):=(Q7u d0 m e).m
abbrev Qjo(d0:Q0e)(m:(List Int))(e:Q06):Prop:=(Q7u d0 m e).p
def Z8f:Q0d:=mkP 109 [false,true,false] true [.agg Q0e.sig, .one (.row 0), .agg Q06.sig] [.arr 23 1 (.ints .u32)] (λargs rows=>Qjo (Q0e.of (args.getD 0 .dead).cells) (rowL .u32 rows 0) (Q06.of (args.getD 2 .dead).cells)) (λargs rows=>Q98 (Q0e.of (args.getD 0 .dead).cells) (rowL .u32 rows 0) (Q06.of (args.getD 2 .dead).cells)) (λX=> .tup [.agg (Q0e.cells (X.1)), .bool (X.2.1)]) (λX=>[⟨false,23,1, .ints .u32 (X.2.2)⟩])
theorem Qqb:Q05 Tryz.prog Z8f:=Q0k Q0j Q0i (.cons Qg9 (.cons Qx3 (.nil))) Tryz.func109 Tryz.call109 (λargs rows=>Q7u (Q0e.of (args.getD 0 .dead).cells) (rowL .u32 rows 0) (Q06.of (args.getD 2 .dead).cells)) [] [] 2 (λ_ _ _=>by kernel_rfl) (λ_ _=>rfl) (λ_ _ h=>h) (λ_ X=>by kernel_rfl)
def Q7z(n:Q0n)(m:(List Int))(frame:(List UInt8)):Tree (Q0n×Bool×(List Int)):=
.br (!n.C7) (.lf (n,false,m)) (.br (decide ((frame.length:Int)<(1:Int))) (.lf (n,false,m)) (.br (decide ((frame.length:Int)>(128:Int))) (.lf (n,false,m)) (.lv (Q2b m n.C3) λ(x0:Bool)=> .br (!x0) (.lf (n,false,m)) (.an (Qlx m (wrap i64 n.C3) frame) (.lv (Qko m (wrap i64 n.C3) frame) λ(x1:List Int)=> .lf ({B4:=n.B4,E0:=n.E0,C7:=false,C3:=0,B7:=true,F1:=wrap u32 (frame.length:Int)},true,x1))))))
def Q92(n:Q0n)(m:(List Int))(frame:(List UInt8)):(Q0n×Bool×(List Int)):=(Q7z n m frame).m
abbrev Qja(n:Q0n)(m:(List Int))(frame:(List UInt8)):Prop:=(Q7z n m frame).p
def Z8o:Q0d:=mkP 110 [false,true,false] true [.agg Q0n.sig, .one (.row 0), .one (.str)] [.arr 23 1 (.ints .u32)] (λargs rows=>Qja (Q0n.of (args.getD 0 .dead).cells) (rowL .u32 rows 0) (argS args 2)) (λargs rows=>Q92 (Q0n.of (args.getD 0 .dead).cells) (rowL .u32 rows 0) (argS args 2)) (λX=> .tup [.agg (Q0n.cells (X.1)), .bool (X.2.1)]) (λX=>[⟨false,23,1, .ints .u32 (X.2.2)⟩])
theorem Qqd:Q05 Tryz.prog Z8o:=Q0k Q0j Q0i (.cons Qg9 (.cons Qx3 (.nil))) Tryz.func110 Tryz.call110 (λargs rows=>Q7z (Q0n.of (args.getD 0 .dead).cells) (rowL .u32 rows 0) (argS args 2)) [] [] 2 (λ_ _ _=>by kernel_rfl) (λ_ _=>rfl) (λ_ _ h=>h) (λ_ X=>by kernel_rfl)
def Q7v(m:Q01)(e:Q06):Tree (Bool×Q01):=
.br m.A7 (.lf (false,m)) (let T1:Tree ((Bool×Q01)):= .br (e.B8==4) (.an (Qjo m.B1 m.Mem e) (.lv (Q98 m.B1 m.Mem e) λ(x2:Q0e×Bool×List Int)=> .lf (x2.2.1,{B2:=m.B2,Mem:=x2.2.2,A3:=m.A3,A9:=m.A9,B1:=x2.1,C2:=m.C2,A1:=m.A1,A6:=m.A6,A4:=m.A4,A7:=m.A7}))) (let T3:Tree ((Bool×Q01)):= .br (e.B8==6) (.br (decide (e.C6=[])) (.lf (true,{B2:=m.B2,Mem:=m.Mem,A3:=m.A3,A9:=m.A9,B1:=m.B1,C2:=m.C2,A1:={C9:=e.N,C5:=m.A1.C5},A6:=m.A6,A4:=m.A4,A7:=m.A7})) (.lf (false,m))) (.lf (false,m)); .br (e.B8==5) (.br (e.N==0) (.an (Qja m.C2 m.Mem e.C6) (.lv (Q92 m.C2 m.Mem e.C6) λ(x3:Q0n×Bool×List Int)=> .lf (x3.2.1,{B2:=m.B2,Mem:=x3.2.2,A3:=m.A3,A9:=m.A9,B1:=m.B1,C2:=x3.1,A1:=m.A1,A6:=m.A6,A4:=m.A4,A7:=m.A7}))) T3) T3);let T2:Tree ((Bool×Q01)):= .br (e.B8==3) (.br (decide (e.N≤255)) (.br (decide (e.C6=[])) (.an (Qmc m.A3 (wrap u8 e.N)) (.lv (Qln m.A3 (wrap u8 e.N)) λ(x1:Q0c×Bool)=> .lf (x1.2,{B2:=m.B2,Mem:=m.Mem,A3:=x1.1,A9:=m.A9,B1:=m.B1,C2:=m.C2,A1:=m.A1,A6:=m.A6,A4:=m.A4,A7:=m.A7}))) T1) T1) T1; .br (e.B8==2) (.br (e.N==0) (.br (decide (e.C6=[])) (.lv (Ql1 m.A9) λ(x0:Q0f×Bool)=> .lf (x0.2,{B2:=m.B2,Mem:=m.Mem,A3:=m.A3,A9:=x0.1,B1:=m.B1,C2:=m.C2,A1:=m.A1,A6:=m.A6,A4:=m.A4,A7:=m.A7})) T2) T2) T2)
def Q1i(m:Q01)(e:Q06):(Bool×Q01):=(Q7v m e).m
abbrev Qq(m:Q01)(e:Q06):Prop:=(Q7v m e).p
def Zer:Q0d:=mkP 73 [true,false] true [.ptr 0, .agg Q06.sig] [.box 41 49 (Q01.sigW (.row 1)), .arr 23 1 (.ints .u32)] (λargs rows=>Qq (Q01.ofW (rows.getD 0 default).cs (rowL .u32 rows 1)) (Q06.of (args.getD 1 .dead).cells)) (λargs rows=>Q1i (Q01.ofW (rows.getD 0 default).cs (rowL .u32 rows 1)) (Q06.of (args.getD 1 .dead).cells)) (λX=> .bool (X.1)) (λX=>[⟨true,41,49, .gen [(Q01.cellsW (X.2) (.all 1))]⟩,⟨false,23,1, .ints .u32 (X.2).Mem⟩])
theorem Z9p:Q05 Tryz.prog Zer:=Q0k Q0j Q0i (.cons Qxd (.cons Qwe (.cons Qqb (.cons Qqd (.nil))))) Tryz.func73 Tryz.call73 (λargs rows=>Q7v (Q01.ofW (rows.getD 0 default).cs (rowL .u32 rows 1)) (Q06.of (args.getD 1 .dead).cells)) [.row 23 1 (.ints .u32)] [] 2 (λ_ _ _=>by kernel_rfl) (λ_ _=>rfl) (λ_ _ h=>h) (λ_ X=>by kernel_rfl)
def Q9u(m:Q00)(e:Q06):Tree (Bool×Q00):=
.br m.A0.A7 (.lf (false,m)) (let T1:Tree ((Bool×Q00)):= .br (e.B8==4) (.an (Qjo m.A0.B1 m.A0.Mem e) (.lv (Q98 m.A0.B1 m.A0.Mem e) λ(x2:Q0e×Bool×List Int)=> .lf (x2.2.1,{A0:={B2:=m.A0.B2,Mem:=x2.2.2,A3:=m.A0.A3,A9:=m.A0.A9,B1:=x2.1,C2:=m.A0.C2,A1:=m.A0.A1,A6:=m.A0.A6,A4:=m.A0.A4,A7:=m.A0.A7},B0:=m.B0,B9:=m.B9,A2:=m.A2}))) (let T3:Tree ((Bool×Q00)):= .br (e.B8==6) (.br (decide (e.C6=[])) (.lf (true,{A0:={B2:=m.A0.B2,Mem:=m.A0.Mem,A3:=m.A0.A3,A9:=m.A0.A9,B1:=m.A0.B1,C2:=m.A0.C2,A1:={C9:=e.N,C5:=m.A0.A1.C5},A6:=m.A0.A6,A4:=m.A0.A4,A7:=m.A0.A7},B0:=m.B0,B9:=m.B9,A2:=m.A2})) (.lf (false,m))) (.lf (false,m)); .br (e.B8==5) (.br (e.N==0) (.an (Qja m.A0.C2 m.A0.Mem e.C6) (.lv (Q92 m.A0.C2 m.A0.Mem e.C6) λ(x3:Q0n×Bool×List Int)=> .lf (x3.2.1,{A0:={B2:=m.A0.B2,Mem:=x3.2.2,A3:=m.A0.A3,A9:=m.A0.A9,B1:=m.A0.B1,C2:=x3.1,A1:=m.A0.A1,A6:=m.A0.A6,A4:=m.A0.A4,A7:=m.A0.A7},B0:=m.B0,B9:=m.B9,A2:=m.A2}))) T3) T3);let T2:Tree ((Bool×Q00)):= .br (e.B8==3) (.br (decide (e.N≤255)) (.br (decide (e.C6=[])) (.an (Qmc m.A0.A3 (wrap u8 e.N)) (.lv (Qln m.A0.A3 (wrap u8 e.N)) λ(x1:Q0c×Bool)=> .lf (x1.2,{A0:={B2:=m.A0.B2,Mem:=m.A0.Mem,A3:=x1.1,A9:=m.A0.A9,B1:=m.A0.B1,C2:=m.A0.C2,A1:=m.A0.A1,A6:=m.A0.A6,A4:=m.A0.A4,A7:=m.A0.A7},B0:=m.B0,B9:=m.B9,A2:=m.A2}))) T1) T1) T1; .br (e.B8==2) (.br (e.N==0) (.br (decide (e.C6=[])) (.lv (Ql1 m.A0.A9) λ(x0:Q0f×Bool)=> .lf (x0.2,{A0:={B2:=m.A0.B2,Mem:=m.A0.Mem,A3:=m.A0.A3,A9:=x0.1,B1:=m.A0.B1,C2:=m.A0.C2,A1:=m.A0.A1,A6:=m.A0.A6,A4:=m.A0.A4,A7:=m.A0.A7},B0:=m.B0,B9:=m.B9,A2:=m.A2})) T2) T2) T2)
def Qk4(m:Q00)(e:Q06):(Bool×Q00):=(Q9u m e).m
abbrev Qmy(m:Q00)(e:Q06):Prop:=(Q9u m e).p
def Z30:Q0d:=mkP 73 [true,false] true [.ptr 0, .agg Q06.sig] [.box 45 52 (Q00.sigW (.row 1) (.row 2) (.row 3)), .arr 23 1 (.ints .u32), .arr 73 4 (.recs .apiEntry), .arr 47 3 (.recs .apiEvent)] (λargs rows=>Qmy (Q00.ofW (rows.getD 0 default).cs (rowL .u32 rows 1) (rowR .apiEntry rows 2) (rowR .apiEvent rows 3)) (Q06.of (args.getD 1 .dead).cells)) (λargs rows=>Qk4 (Q00.ofW (rows.getD 0 default).cs (rowL .u32 rows 1) (rowR .apiEntry rows 2) (rowR .apiEvent rows 3)) (Q06.of (args.getD 1 .dead).cells)) (λX=> .bool (X.1)) (λX=>[⟨true,45,52, .gen [(Q00.cellsW (X.2) (.all 1) (.all 2) (.all 3))]⟩,⟨false,23,1, .ints .u32 (X.2).A0.Mem⟩,⟨false,73,4, .recs .apiEntry (X.2).B9⟩,⟨false,47,3, .recs .apiEvent (X.2).A2⟩])
theorem Z2p:Q05 Tryz.prog Z30:=Q0k Q0j Q0i (.cons Qxd (.cons Qwe (.cons Qqb (.cons Qqd (.nil))))) Tryz.func73 Tryz.call73 (λargs rows=>Q9u (Q00.ofW (rows.getD 0 default).cs (rowL .u32 rows 1) (rowR .apiEntry rows 2) (rowR .apiEvent rows 3)) (Q06.of (args.getD 1 .dead).cells)) [.row 23 1 (.ints .u32), .row 73 4 (.recs .apiEntry), .row 47 3 (.recs .apiEvent)] [] 2 (λ_ _ _=>by kernel_rfl) (λ_ _=>rfl) (λ_ _ h=>h) (λ_ X=>by kernel_rfl)
def Q8n(m:Q00)(e:Q06):Tree (Bool×Q00):=
.an (Qmy m e) (.lv (Qk4 m e) λ(x0:Bool×Q00)=> .lf (x0.1,x0.2))
def Qhk(m:Q00)(e:Q06):(Bool×Q00):=(Q8n m e).m
abbrev Ql5(m:Q00)(e:Q06):Prop:=(Q8n m e).p
def Z13:Q0d:=mkP 101 [true,false] true [.ptr 0, .agg Q06.sig] [.box 45 52 (Q00.sigW (.row 1) (.row 2) (.row 3)), .arr 23 1 (.ints .u32), .arr 73 4 (.recs .apiEntry), .arr 47 3 (.recs .apiEvent)] (λargs rows=>Ql5 (Q00.ofW (rows.getD 0 default).cs (rowL .u32 rows 1) (rowR .apiEntry rows 2) (rowR .apiEvent rows 3)) (Q06.of (args.getD 1 .dead).cells)) (λargs rows=>Qhk (Q00.ofW (rows.getD 0 default).cs (rowL .u32 rows 1) (rowR .apiEntry rows 2) (rowR .apiEvent rows 3)) (Q06.of (args.getD 1 .dead).cells)) (λX=> .bool (X.1)) (λX=>[⟨true,45,52, .gen [(Q00.cellsW (X.2) (.all 1) (.all 2) (.all 3))]⟩,⟨false,23,1, .ints .u32 (X.2).A0.Mem⟩,⟨false,73,4, .recs .apiEntry (X.2).B9⟩,⟨false,47,3, .recs .apiEvent (X.2).A2⟩])
theorem Qy5:Q05 Tryz.prog Z13:=Q0k Q0j Q0i (.cons Z2p (.nil)) Tryz.func101 Tryz.call101 (λargs rows=>Q8n (Q00.ofW (rows.getD 0 default).cs (rowL .u32 rows 1) (rowR .apiEntry rows 2) (rowR .apiEvent rows 3)) (Q06.of (args.getD 1 .dead).cells)) [.row 23 1 (.ints .u32), .row 73 4 (.recs .apiEntry), .row 47 3 (.recs .apiEvent)] [] 2 (λ_ _ _=>by kernel_rfl) (λ_ _=>rfl) (λ_ _ h=>h) (λ_ X=>by kernel_rfl)
def Qb1(r:Q00)(e:Q06):Tree Q00:=
.an (Ql5 r e) (.lv (Qhk r e) λ(x0:Bool×Q00)=> .br x0.1 (.cn (decide (40*(x0.2.B9.length+1)≤140737488355328)) (.lf ({A0:=x0.2.A0,B0:=x0.2.B0,B9:=x0.2.B9++[{At:=x0.2.A0.A6,D8:=e}],A2:=x0.2.A2}))) (.lf x0.2))
def Qiv(r:Q00)(e:Q06):Q00:=(Qb1 r e).m
abbrev Qjd(r:Q00)(e:Q06):Prop:=(Qb1 r e).p
def Z9z:Q0d:=mkKP 1 59 [true,false] [.ptr 0, .agg Q06.sig] [.box 45 52 (Q00.sigW (.row 1) (.row 2) (.row 3)), .arr 23 1 (.ints .u32), .arr 73 4 (.recs .apiEntry), .arr 47 3 (.recs .apiEvent)] (λargs rows=>Qjd (Q00.ofW (rows.getD 0 default).cs (rowL .u32 rows 1) (rowR .apiEntry rows 2) (rowR .apiEvent rows 3)) (Q06.of (args.getD 1 .dead).cells)) (λargs rows=>Qiv (Q00.ofW (rows.getD 0 default).cs (rowL .u32 rows 1) (rowR .apiEntry rows 2) (rowR .apiEvent rows 3)) (Q06.of (args.getD 1 .dead).cells)) (λX=> .tup []) (λX=>[⟨true,45,52, .gen [(Q00.cellsW X (.all 1) (.all 2) (.all 3))]⟩,⟨false,23,1, .ints .u32 X.A0.Mem⟩,⟨false,73,4, .recs .apiEntry X.B9⟩,⟨false,47,3, .recs .apiEvent X.A2⟩])
theorem Z48:Q05 Tryz.prog Z9z:=Z7k Q0j Q0i (.cons Qy5 (.nil)) Tryz.func59 Tryz.call59 (λargs rows=>Qb1 (Q00.ofW (rows.getD 0 default).cs (rowL .u32 rows 1) (rowR .apiEntry rows 2) (rowR .apiEvent rows 3)) (Q06.of (args.getD 1 .dead).cells)) [.row 23 1 (.ints .u32), .row 73 4 (.recs .apiEntry), .row 47 3 (.recs .apiEvent)] [] 2 (λ_ _ _=>by kernel_rfl) (λ_ _=>rfl) (λ_ _ h=>h)
def Qj6(is:Bool)(n:Int):Tree Int:=
.br is (.cn (decide (0≤wrap u64 n)) (.lf (ishl u32 1 (wrap u64 n)))) (.lf 0)
def Qaw(is:Bool)(n:Int):Int:=(Qj6 is n).m
abbrev Qbk(is:Bool)(n:Int):Prop:=(Qj6 is n).p
def Zh:Q0d:=mkP 219 [] true [.one (.bool), .one (.int .i64)] [] (λargs rows=>Qbk (argB args 0) (argI args 1)) (λargs rows=>Qaw (argB args 0) (argI args 1)) (λX=> .int .u32 X) (λX=>[])
theorem Zdr:Q05 Tryz.prog Zh:=Q0k Q0j Q0i (.nil) Tryz.func219 Tryz.call219 (λargs rows=>Qj6 (argB args 0) (argI args 1)) [] [] 2 (λ_ _ _=>by kernel_rfl) (λ_ _=>rfl) (λ_ _ h=>h) (λ_ X=>by kernel_rfl)
def Qi4(t:Q0f):Tree Bool:=
.lf t.D3
def Qb9(t:Q0f):Bool:=(Qi4 t).m
def Qqx:Q0d:=mkR 220 [] true [.agg Q0f.sig] [] (λargs rows=>Qb9 (Q0f.of (args.getD 0 .dead).cells)) (λX=> .bool X) (λX=>[])
theorem Qpt:Q05 Tryz.prog Qqx:=Q11 Q0j Q0i (.nil) Tryz.func220 Tryz.call220 (λargs rows=>Qi4 (Q0f.of (args.getD 0 .dead).cells)) [] [] 2 (λ_ _ _=>by kernel_rfl) (λ_ _=>rfl) (λ_ _=>Tree.free_ok (by kernel_rfl)) (λ_ X=>by kernel_rfl)
def Qg0(c:Q0c):Tree Bool:=
.lf (decide ((c.D1.length:Int)>(0:Int)))
def Q6p(c:Q0c):Bool:=(Qg0 c).m
def Qns:Q0d:=mkR 221 [] true [.agg Q0c.sig] [] (λargs rows=>Q6p (Q0c.of (args.getD 0 .dead).cells)) (λX=> .bool X) (λX=>[])
theorem Qn6:Q05 Tryz.prog Qns:=Q11 Q0j Q0i (.nil) Tryz.func221 Tryz.call221 (λargs rows=>Qg0 (Q0c.of (args.getD 0 .dead).cells)) [] [] 2 (λ_ _ _=>by kernel_rfl) (λ_ _=>rfl) (λ_ _=>Tree.free_ok (by kernel_rfl)) (λ_ X=>by kernel_rfl)
def Qk3(d0:Q0e):Tree Bool:=
.br (d0.C0==2) (.lf true) (.lf (d0.C0==3))
def Qcj(d0:Q0e):Bool:=(Qk3 d0).m
def Qt3:Q0d:=mkR 222 [] true [.agg Q0e.sig] [] (λargs rows=>Qcj (Q0e.of (args.getD 0 .dead).cells)) (λX=> .bool X) (λX=>[])
theorem Qqm:Q05 Tryz.prog Qt3:=Q11 Q0j Q0i (.nil) Tryz.func222 Tryz.call222 (λargs rows=>Qk3 (Q0e.of (args.getD 0 .dead).cells)) [] [] 2 (λ_ _ _=>by kernel_rfl) (λ_ _=>rfl) (λ_ _=>Tree.free_ok (by kernel_rfl)) (λ_ X=>by kernel_rfl)
def Qku(n:Q0n):Tree Bool:=
.lf n.B7
def Qdu(n:Q0n):Bool:=(Qku n).m
def Qv7:Q0d:=mkR 223 [] true [.agg Q0n.sig] [] (λargs rows=>Qdu (Q0n.of (args.getD 0 .dead).cells)) (λX=> .bool X) (λX=>[])
theorem Qs7:Q05 Tryz.prog Qv7:=Q11 Q0j Q0i (.nil) Tryz.func223 Tryz.call223 (λargs rows=>Qku (Q0n.of (args.getD 0 .dead).cells)) [] [] 2 (λ_ _ _=>by kernel_rfl) (λ_ _=>rfl) (λ_ _=>Tree.free_ok (by kernel_rfl)) (λ_ X=>by kernel_rfl)
def Qnm(b:Q07)(z:(Int)×(Int)):Prop:=0≤z.2∧z.2≤32
def Qgp(b:Q07)(z:(Int)×(Int)):Nat:=(32-z.2).toNat
def Qk2(b:Q07):Tree Int:=
.lp inferInstance (Qgp b (0,0)+1) (((rE (0:Nat)∧rE (0:Nat))∧rE (0:Int)∧rE (0:Int)∧True)∧(rE b.C9∧rE b.C5∧True)∧True) (0,0) λ(v0:Int×Int)=> .br (decide (v0.2<32)) (.cn (decide (0≤wrap u64 v0.2)) (.nx (((rE (0:Nat)∧rE (0:Nat))∧rE ((wrap i64 (v0.1+wrap i64 (iand u32 (ishr u32 b.C5 (wrap u64 v0.2)) 1))):Int)∧rE ((wrap i64 (v0.2+1)):Int)∧True)∧(rE b.C9∧rE b.C5∧True)∧True) (Sum.inl (wrap i64 (v0.1+wrap i64 (iand u32 (ishr u32 b.C5 (wrap u64 v0.2)) 1)),wrap i64 (v0.2+1))))) (.lf (Sum.inr v0.1))
def Qex(b:Q07):Int:=(Qk2 b).m
theorem Z3j(b:Q07):(Qk2 b).p:=by
 unfold Tree.p Qk2
 repeat'(first|refine w_lp (inv:=Qnm b) (μ:=Qgp b) ?_ (Nat.lt_succ_self _) (λ_ _=> ?_)|exact trivial|refine w_br (λ_=> ?_) (λ_=> ?_)|refine w_cn ?_ ?_|refine w_an ?_ ?_|refine w_lv (λ_ _=> ?_)|refine w_nx ?_|refine w_lf ?_|refine And.intro ?_ ?_)
 all_goals((try simp only[Qnm,Qgp]at*);((subst_vars;first|trivial|assumption|omega|((simp(config:={decide:=true,failIfUnchanged:=false}) only[Bool.and_eq_true,Bool.or_eq_true,Bool.and_eq_false_iff,Bool.or_eq_false_iff,Bool.not_eq_true',Bool.not_eq_false',Bool.not_eq_true,Bool.not_eq_false,decide_eq_true_eq,decide_eq_false_iff_not,Q6q,Q4d,Q6r,Q4c,beq_iff_eq,beq_eq_false_iff_ne,bne_iff_ne,bne_eq_false_iff_eq,ne_eq,List.all_cons,List.all_nil,D.plain,List.length_cons,List.length_nil,List.length_append,List.length_set,List.length_replicate,IntKind.wrap_i64,IntKind.wrap_u64,IntKind.wrap_u32,IntKind.wrap_i32,IntKind.wrap_u8,true_and,and_true,or_false,false_or,or_true,true_or,not_true_eq_false,not_false_eq_true,Prod.fst,Prod.snd]at*);first|done|assumption|omega)|((simp(config:={decide:=true,failIfUnchanged:=false}) only[Bool.and_eq_true,Bool.or_eq_true,Bool.and_eq_false_iff,Bool.or_eq_false_iff,Bool.not_eq_true',Bool.not_eq_false',Bool.not_eq_true,Bool.not_eq_false,decide_eq_true_eq,decide_eq_false_iff_not,Q6q,Q4d,Q6r,Q4c,beq_iff_eq,beq_eq_false_iff_ne,bne_iff_ne,bne_eq_false_iff_eq,ne_eq,List.all_cons,List.all_nil,D.plain,List.length_cons,List.length_nil,List.length_append,List.length_set,List.length_replicate,IntKind.wrap_i64,IntKind.wrap_u64,IntKind.wrap_u32,IntKind.wrap_i32,IntKind.wrap_u8,true_and,and_true,or_false,false_or,or_true,true_or,not_true_eq_false,not_false_eq_true,Prod.fst,Prod.snd]at*);simp only[←List.length_pos_iff]at*;omega)|(simp_all;done)|(have:= @Qjh;simp_all;try omega))))
def Z7j:LInv:={
 α:=(Int)×(Int)
 F:=λst a=>([(1, .ptr 0 0 0),(3, .int i64 a.1),(4, .int i64 a.2)],[⟨true,38,2, .gen [[(cT st 1 0),(cT st 1 1)]]⟩])
 a0:=λst=>((lk st 3).toInt,(lk st 4).toInt)
 ex0:=λst=>[]++[(Q0r (lk st 1) (st.rows.length+0))]
 next:=λst=>((lk st 3).toInt,(lk st 4).toInt)
 ex:=λst=>[]++[(Q0r (lk st 1) (st.rows.length+0))]}
def Z2r:List (Nat×LInv):=[(3,Z7j)]
def Zbz:Q0d:=mkR 211 [] true [.agg Q07.sig] [] (λargs rows=>Qex (Q07.of (args.getD 0 .dead).cells)) (λX=> .int .i64 X) (λX=>[])
theorem Qsi:Q05 Tryz.prog Zbz:=Q11 Q0j Q0i (.nil) Tryz.func211 Tryz.call211 (λargs rows=>Qk2 (Q07.of (args.getD 0 .dead).cells)) [] Z2r 3 (λ_ _ _=>by kernel_rfl) (λ_ _=>rfl) (λargs rows=>Z3j (Q07.of (args.getD 0 .dead).cells)) (λ_ X=>by kernel_rfl)
def Qax(b:Q07):Tree Bool:=
.lv (Qex b) λ(x0:Int)=> .lf (wrap u64 x0 !=wrap u64 b.C9)
def Q4j(b:Q07):Bool:=(Qax b).m
def Qnq:Q0d:=mkR 224 [] true [.agg Q07.sig] [] (λargs rows=>Q4j (Q07.of (args.getD 0 .dead).cells)) (λX=> .bool X) (λX=>[])
theorem Qn7:Q05 Tryz.prog Qnq:=Q11 Q0j Q0i (.cons Qsi (.nil)) Tryz.func224 Tryz.call224 (λargs rows=>Qax (Q07.of (args.getD 0 .dead).cells)) [] [] 2 (λ_ _ _=>by kernel_rfl) (λ_ _=>rfl) (λ_ _=>Tree.free_ok (by kernel_rfl)) (λ_ X=>by kernel_rfl)
def Qga(m:Q01):Tree Int:=
.lv (Qb9 m.A9) λ(x0:Bool)=> .an (Qbk x0 0) (.lv (Qaw x0 0) λ(x1:Int)=> .lv (Q6p m.A3) λ(x2:Bool)=> .an (Qbk x2 1) (.lv (Qaw x2 1) λ(x3:Int)=> .lv (Qcj m.B1) λ(x4:Bool)=> .an (Qbk x4 2) (.lv (Qaw x4 2) λ(x5:Int)=> .lv (Qdu m.C2) λ(x6:Bool)=> .an (Qbk x6 3) (.lv (Qaw x6 3) λ(x7:Int)=> .lv (Q4j m.A1) λ(x8:Bool)=> .an (Qbk x8 4) (.lv (Qaw x8 4) λ(x9:Int)=> .lf (ior u32 (ior u32 (ior u32 (ior u32 x1 x3) x5) x7) x9))))))
def Qhs(m:Q01):Int:=(Qga m).m
abbrev Qq1(m:Q01):Prop:=(Qga m).p
def Zdl:Q0d:=mkP 169 [] true [.agg Q01.sig] [] (λargs rows=>Qq1 (Q01.of (args.getD 0 .dead).cells)) (λargs rows=>Qhs (Q01.of (args.getD 0 .dead).cells)) (λX=> .int .u32 X) (λX=>[])
theorem Z8n:Q05 Tryz.prog Zdl:=Q0k Q0j Q0i (.cons Zdr (.cons Qpt (.cons Qn6 (.cons Qqm (.cons Qs7 (.cons Qn7 (.nil))))))) Tryz.func169 Tryz.call169 (λargs rows=>Qga (Q01.of (args.getD 0 .dead).cells)) [] [] 2 (λ_ _ _=>by kernel_rfl) (λ_ _=>rfl) (λ_ _ h=>h) (λ_ X=>by kernel_rfl)
def Q9o(m:Q01):Tree Int:=
.an (Qq1 m) (.lv (Qhs m) λ(x0:Int)=> .lf (iand u32 x0 m.B2.B5.a7))
def Q3n(m:Q01):Int:=(Q9o m).m
abbrev Qgm(m:Q01):Prop:=(Q9o m).p
def Z4b:Q0d:=mkP 115 [] true [.agg Q01.sig] [] (λargs rows=>Qgm (Q01.of (args.getD 0 .dead).cells)) (λargs rows=>Q3n (Q01.of (args.getD 0 .dead).cells)) (λX=> .int .u32 X) (λX=>[])
theorem Qo4:Q05 Tryz.prog Z4b:=Q0k Q0j Q0i (.cons Z8n (.nil)) Tryz.func115 Tryz.call115 (λargs rows=>Q9o (Q01.of (args.getD 0 .dead).cells)) [] [] 2 (λ_ _ _=>by kernel_rfl) (λ_ _=>rfl) (λ_ _ h=>h) (λ_ X=>by kernel_rfl)
def Qeq(m:Q01):Tree Bool:=
.br m.A4 (.an (Qgm m) (.lv (Q3n m) λ(x0:Int)=> .lf (x0==0))) (.lf false)
def Qdv(m:Q01):Bool:=(Qeq m).m
abbrev Qlw(m:Q01):Prop:=(Qeq m).p
def Zgt:Q0d:=mkP 81 [] true [.agg Q01.sig] [] (λargs rows=>Qlw (Q01.of (args.getD 0 .dead).cells)) (λargs rows=>Qdv (Q01.of (args.getD 0 .dead).cells)) (λX=> .bool X) (λX=>[])
theorem Qxk:Q05 Tryz.prog Zgt:=Q0k Q0j Q0i (.cons Qo4 (.nil)) Tryz.func81 Tryz.call81 (λargs rows=>Qeq (Q01.of (args.getD 0 .dead).cells)) [] [] 2 (λ_ _ _=>by kernel_rfl) (λ_ _=>rfl) (λ_ _ h=>h) (λ_ X=>by kernel_rfl)
def Q8u(m:Q01):Tree Bool:=
.lv (Q5x m) λ(x0:Bool)=> .br (!x0) (.lf true) (.br m.A7 (.lf true) (.an (Qlw m) (.lv (Qdv m) λ(x1:Bool)=> .br x1 (.lf true) (.lf (decide (m.A6≥1152921504606846976))))))
def Q1c(m:Q01):Bool:=(Q8u m).m
abbrev Qfj(m:Q01):Prop:=(Q8u m).p
def Zbn:Q0d:=mkP 62 [] true [.agg Q01.sig] [] (λargs rows=>Qfj (Q01.of (args.getD 0 .dead).cells)) (λargs rows=>Q1c (Q01.of (args.getD 0 .dead).cells)) (λX=> .bool X) (λX=>[])
theorem Qu6:Q05 Tryz.prog Zbn:=Q0k Q0j Q0i (.cons Qrh (.cons Qxk (.nil))) Tryz.func62 Tryz.call62 (λargs rows=>Q8u (Q01.of (args.getD 0 .dead).cells)) [] [] 2 (λ_ _ _=>by kernel_rfl) (λ_ _=>rfl) (λ_ _ h=>h) (λ_ X=>by kernel_rfl)
end
end Go.Proofs.YtpcbkbalabgnlaaGreat

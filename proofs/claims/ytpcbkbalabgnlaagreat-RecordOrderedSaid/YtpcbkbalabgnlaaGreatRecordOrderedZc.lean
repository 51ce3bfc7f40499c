/-
  Functions of the program: models, and that its calls come to them (by a program: gen3.py).
-/
import Derived.Test.YtpcbkbalabgnlaaGreatRecordOrderedBase
import Derived.Test.YtpcbkbalabgnlaaGreatRecordOrderedZa
import Derived.Test.YtpcbkbalabgnlaaGreatRecordOrderedZb
set_option linter.unusedVariables false
set_option linter.unusedSimpArgs false
namespace Go.Proofs.YtpcbkbalabgnlaaGreat
open Go Go.GD Go.IntKind
set_option maxRecDepth 100000
noncomputable section
def Qhw(steps:Int):Tree Int:=
.lf (if 4000<if 0>steps then 0 else steps then 4000 else if 0>steps then 0 else steps)
def Q0l(steps:Int):Int:=(Qhw steps).m
def Zk2(t:Q0h)(now:Int):Tree Bool:=
.br t.D7 (.lf (decide (now≥t.C8))) (.lf false)
def Qd3(t:Q0h)(now:Int):Bool:=(Zk2 t now).m
def Qdg(m:Q00)(z:(Int)):Nat:=(32-z).toNat
def Q4s(m:Q00):Tree Q03:=
.an (Qfj m) (.lv (Q3a m) λ(x0:Int)=> .br (iand u32 m.B3.B6.a0 (2:Int)==(0:Int)) (.lf m.B3) (.br (x0==0) (.lf m.B3) (.lp inferInstance (Qdg m 0+1) (((rE (0:Nat)∧rE (0:Nat))∧(rE (0:Nat)∧rE (0:Nat))∧rE (x0:Int)∧rE (0:Int)∧True)∧(mE m (((Els.Nil (Els.ints u32 m.Mem)∨rE (1:Nat))∧rE m.Mem)) True)∧(rE (0:Int)∧rE (0:Int)∧rE (0:Int)∧rE (0:Int)∧rE (0:Int)∧rE (0:Int)∧rE (0:Int)∧rE (0:Int)∧rE (0:Int)∧rE (0:Int)∧rE (0:Int)∧rE (0:Int)∧rE (0:Int)∧rE (0:Int)∧rE (0:Int)∧rE (0:Int)∧rE (0:Int)∧rE (0:Int)∧rE (0:Int)∧rE (0:Int)∧rE (0:Int)∧rE (0:Int)∧rE (0:Int)∧rE (0:Int)∧rE (0:Int)∧True)∧True) 0 λ(v0:Int)=> .cn (decide (0≤wrap u64 v0)) (.br (iand u32 (ishr u32 x0 (wrap u64 v0)) (1:Int)==(0:Int)) (.nx (((rE (0:Nat)∧rE (0:Nat))∧(rE (0:Nat)∧rE (0:Nat))∧rE (x0:Int)∧rE ((wrap i64 (v0+1)):Int)∧True)∧(mE m (((Els.Nil (Els.ints u32 m.Mem)∨rE (1:Nat))∧rE m.Mem)) True)∧(rE (0:Int)∧rE (0:Int)∧rE (0:Int)∧rE (0:Int)∧rE (0:Int)∧rE (0:Int)∧rE (0:Int)∧rE (0:Int)∧rE (0:Int)∧rE (0:Int)∧rE (0:Int)∧rE (0:Int)∧rE (0:Int)∧rE (0:Int)∧rE (0:Int)∧rE (0:Int)∧rE (0:Int)∧rE (0:Int)∧rE (0:Int)∧rE (0:Int)∧rE (0:Int)∧rE (0:Int)∧rE (0:Int)∧rE (0:Int)∧rE (0:Int)∧True)∧True) (Sum.inl (wrap i64 (v0+1)))) (.lv (Q33 m.B3 (wrap i64 (16+v0)) 0) λ(x1:Q03)=> .lf (Sum.inr x1))))))
def Q0k(m:Q00):Q03:=(Q4s m).m
abbrev Q7h(m:Q00):Prop:=(Q4s m).p
def Qpa:LInv:={
 α:=(Int)
 F:=λst a=>([(1, .ptr 0 0 0),(2, .ptr 1 0 0),(3,(lk st 3)),(4, .int i64 a)],[⟨true,41,49, .gen [[(cT st 1 0),(cT st 1 1),(cT st 1 2),(cT st 1 3),(cT st 1 4),(cT st 1 5),(cT st 1 6),(cT st 1 7),(cT st 1 8),(cT st 1 9),(cT st 1 10),(cT st 1 11),(cT st 1 12),(cT st 1 13),(cT st 1 14),(cT st 1 15),(cT st 1 16),(cT st 1 17),(cT st 1 18),(cT st 1 19),(cT st 1 20),(cT st 1 21),(cT st 1 22),(cT st 1 23),(cT st 1 24),(cT st 1 25),(cT st 1 26),(cT st 1 27),(cT st 1 28),(cT st 1 29),(cT st 1 30),(cT st 1 31),(cT st 1 32),(cT st 1 33),(cT st 1 34),(cT st 1 35),(cT st 1 36),(cT st 1 37),(cT st 1 38),(cT st 1 39),(cT st 1 40),(cT st 1 41),(cT st 1 42),(cT st 1 43),(cT st 1 44),(cT st 1 45),(cT st 1 46),(cT st 1 47),(cT st 1 48)]]⟩,⟨true,27,25, .gen [[(cT st 2 0),(cT st 2 1),(cT st 2 2),(cT st 2 3),(cT st 2 4),(cT st 2 5),(cT st 2 6),(cT st 2 7),(cT st 2 8),(cT st 2 9),(cT st 2 10),(cT st 2 11),(cT st 2 12),(cT st 2 13),(cT st 2 14),(cT st 2 15),(cT st 2 16),(cT st 2 17),(cT st 2 18),(cT st 2 19),(cT st 2 20),(cT st 2 21),(cT st 2 22),(cT st 2 23),(cT st 2 24)]]⟩])
 a0:=λst=>(lk st 4).toInt
 ex0:=λst=>[]++[(Q1 (lk st 1) (st.rows.length+0)),(Q1 (lk st 2) (st.rows.length+1))]
 next:=λst=>(lk st 4).toInt
 ex:=λst=>[]++[(Q1 (lk st 1) (st.rows.length+0)),(Q1 (lk st 2) (st.rows.length+1))]}
def Qnc:List (Nat×LInv):=[(5,Qpa)]
def Qql:Q0d:=mkP 102 [] true [.agg Q00.sig] [] (λargs rows=>Q7h (Q00.of (args.getD 0 .dead).cells)) (λargs rows=>Q0k (Q00.of (args.getD 0 .dead).cells)) (λX=> .agg (Q03.cells X)) (λX=>[])
theorem Qhu:Q05 Tryz.prog Qql:=Q0n Q0i Q0j (.cons Qnd (.cons Qir (.nil))) Tryz.func102 Tryz.call102 (λargs rows=>Q4s (Q00.of (args.getD 0 .dead).cells)) [] Qnc 3 (λ_ _ _=>by kernel_rfl) (λ_ _=>rfl) (λ_ _ h=>h) (λ_ X=>by kernel_rfl)
def Qex(m:Q00):Tree Bool:=
.an (Q7h m) (.lv (Q0k m) λ(x0:Q03)=> .br (iand u32 x0.B6.a0 (1:Int)==(0:Int)) (.lf false) (.an (Qd7 m.Mem x0.Pc 4) (.lv (Q1b m.Mem x0.Pc 4) λ(x1:Int×Bool)=> .lv (Q1z x1.1) λ(x2:Q0g×Bool)=> .br x1.2 (.br x2.2 (.br (x2.1.Op==60) (.lf (x2.1.Imm==2)) (.lf false)) (.lf false)) (.lf false))))
def Qjf(m:Q00):Bool:=(Qex m).m
abbrev Qj3(m:Q00):Prop:=(Qex m).p
def Zaw:Q0d:=mkP 82 [] true [.agg Q00.sig] [] (λargs rows=>Qj3 (Q00.of (args.getD 0 .dead).cells)) (λargs rows=>Qjf (Q00.of (args.getD 0 .dead).cells)) (λX=> .bool X) (λX=>[])
theorem Z5m:Q05 Tryz.prog Zaw:=Q0n Q0i Q0j (.cons Qhu (.cons Qmg (.cons Qos (.nil)))) Tryz.func82 Tryz.call82 (λargs rows=>Qex (Q00.of (args.getD 0 .dead).cells)) [] [] 2 (λ_ _ _=>by kernel_rfl) (λ_ _=>rfl) (λ_ _ h=>h) (λ_ X=>by kernel_rfl)
def Qjy(m:Q00):Tree Bool:=
.an (Qjc m) (.lv (Q13 m) λ(x0:Bool)=> .br x0 (.lf false) (.an (Qj3 m) (.lv (Qjf m) λ(x1:Bool)=> .lf x1)))
def Q3n(m:Q00):Bool:=(Qjy m).m
abbrev Qgy(m:Q00):Prop:=(Qjy m).p
def Q3w(c:Q0b)(port:Int):Tree (Q0b×Int):=
let T1:Tree ((Q0b×Int)):= .br (port==0) (.cn (decide ((0:Int)≤(1:Int)∧1≤(c.D1.length:Int)∧(c.D1.length:Int)≤(c.D1.length:Int))) (.cn (decide ((0:Int)≤(0:Int)∧0<(c.D1.length:Int))) (.lf ({D1:=List.take (Int.toNat (c.D1.length:Int)-Int.toNat 1) (List.drop (Int.toNat 1) c.D1)},wrap u32 (↑(UInt8.toNat (c.D1.getD (Int.toNat 0) (0:UInt8))):Int))))) (.br (port==1) (.lf (c,wrap u32 (c.D1.length:Int))) (.lf (c,0))); .br (port==0) (.br ((c.D1.length:Int)==(0:Int)) (.lf (c,4294967295)) T1) T1
def Q5l(c:Q0b)(port:Int):(Q0b×Int):=(Q3w c port).m
theorem Qry(c:Q0b)(port:Int):(Q3w c port).p:=by
 unfold Tree.p Q3w
 repeat'(first|exact trivial|refine w_br (λ_=> ?_) (λ_=> ?_)|refine w_cn ?_ ?_|refine w_an ?_ ?_|refine w_lv (λ_ _=> ?_)|refine w_nx ?_|refine w_lf ?_|refine And.intro ?_ ?_)
 all_goals(((subst_vars;first|trivial|assumption|omega|((simp(config:={decide:=true,failIfUnchanged:=false}) only[Bool.and_eq_true,Bool.or_eq_true,Bool.and_eq_false_iff,Bool.or_eq_false_iff,Bool.not_eq_true',Bool.not_eq_false',Bool.not_eq_true,Bool.not_eq_false,decide_eq_true_eq,decide_eq_false_iff_not,Q74,Q4y,Q77,Q4u,beq_iff_eq,beq_eq_false_iff_ne,bne_iff_ne,bne_eq_false_iff_eq,ne_eq,List.all_cons,List.all_nil,D.plain,List.length_cons,List.length_nil,List.length_append,List.length_set,List.length_replicate,IntKind.wrap_i64,IntKind.wrap_u64,IntKind.wrap_u32,IntKind.wrap_i32,IntKind.wrap_u8,true_and,and_true,or_false,false_or,or_true,true_or,not_true_eq_false,not_false_eq_true,Prod.fst,Prod.snd]at*);first|done|assumption|omega)|((simp(config:={decide:=true,failIfUnchanged:=false}) only[Bool.and_eq_true,Bool.or_eq_true,Bool.and_eq_false_iff,Bool.or_eq_false_iff,Bool.not_eq_true',Bool.not_eq_false',Bool.not_eq_true,Bool.not_eq_false,decide_eq_true_eq,decide_eq_false_iff_not,Q74,Q4y,Q77,Q4u,beq_iff_eq,beq_eq_false_iff_ne,bne_iff_ne,bne_eq_false_iff_eq,ne_eq,List.all_cons,List.all_nil,D.plain,List.length_cons,List.length_nil,List.length_append,List.length_set,List.length_replicate,IntKind.wrap_i64,IntKind.wrap_u64,IntKind.wrap_u32,IntKind.wrap_i32,IntKind.wrap_u8,true_and,and_true,or_false,false_or,or_true,true_or,not_true_eq_false,not_false_eq_true,Prod.fst,Prod.snd]at*);simp only[←List.length_pos_iff]at*;omega)|(simp_all;done)|(have:= @Qje;simp_all;try omega))))
def Qvp:Q0d:=mkR 153 [] true [.agg Q0b.sig, .one (.int .i64)] [] (λargs rows=>Q5l (Q0b.of (args.getD 0 .dead).cells) (argI args 1)) (λX=> .tup [.agg (Q0b.cells (X.1)), .int .u32 (X.2)]) (λX=>[])
theorem Qsj:Q05 Tryz.prog Qvp:=Q0z Q0i Q0j (.nil) Tryz.func153 Tryz.call153 (λargs rows=>Q3w (Q0b.of (args.getD 0 .dead).cells) (argI args 1)) [] [] 2 (λ_ _ _=>by kernel_rfl) (λ_ _=>rfl) (λargs rows=>Qry (Q0b.of (args.getD 0 .dead).cells) (argI args 1)) (λ_ X=>by kernel_rfl)
def Qed(t:Q0h):Tree Int:=
.br t.D6 (.lf 1) (.lf 0)
def Qel(t:Q0h):Int:=(Qed t).m
def Z28:Q0d:=mkR 154 [] true [.agg Q0h.sig] [] (λargs rows=>Qel (Q0h.of (args.getD 0 .dead).cells)) (λX=> .int .u32 X) (λX=>[])
theorem Qy2:Q05 Tryz.prog Z28:=Q0z Q0i Q0j (.nil) Tryz.func154 Tryz.call154 (λargs rows=>Qed (Q0h.of (args.getD 0 .dead).cells)) [] [] 2 (λ_ _ _=>by kernel_rfl) (λ_ _=>rfl) (λ_ _=>Tree.free_ok (by kernel_rfl)) (λ_ X=>by kernel_rfl)
def Qg6(d0:Q0c)(port:Int):Tree Int:=
.br (port==4) (.lf d0.C2) (.br (port==5) (.lf d0.B4) (.br (port==6) (.lf (wrap u32 d0.B9)) (.lf 0)))
def Qgs(d0:Q0c)(port:Int):Int:=(Qg6 d0 port).m
def Z6c:Q0d:=mkR 155 [] true [.agg Q0c.sig, .one (.int .i64)] [] (λargs rows=>Qgs (Q0c.of (args.getD 0 .dead).cells) (argI args 1)) (λX=> .int .u32 X) (λX=>[])
theorem Z1n:Q05 Tryz.prog Z6c:=Q0z Q0i Q0j (.nil) Tryz.func155 Tryz.call155 (λargs rows=>Qg6 (Q0c.of (args.getD 0 .dead).cells) (argI args 1)) [] [] 2 (λ_ _ _=>by kernel_rfl) (λ_ _=>rfl) (λ_ _=>Tree.free_ok (by kernel_rfl)) (λ_ X=>by kernel_rfl)
def Qf6(n:Q0m)(port:Int):Tree Int:=
.br (port==7) (.lf n.B4) (.br (port==8) (.lf n.F2) (.br (port==9) (.br n.C7 (.br n.B8 (.lf (wrap u32 ((1:Int)+(2:Int)))) (.lf 1)) (.br n.B8 (.lf (wrap u32 ((0:Int)+(2:Int)))) (.lf 0))) (.lf 0)))
def Qgi(n:Q0m)(port:Int):Int:=(Qf6 n port).m
def Zbu:Q0d:=mkR 156 [] true [.agg Q0m.sig, .one (.int .i64)] [] (λargs rows=>Qgi (Q0m.of (args.getD 0 .dead).cells) (argI args 1)) (λX=> .int .u32 X) (λX=>[])
theorem Z70:Q05 Tryz.prog Zbu:=Q0z Q0i Q0j (.nil) Tryz.func156 Tryz.call156 (λargs rows=>Qf6 (Q0m.of (args.getD 0 .dead).cells) (argI args 1)) [] [] 2 (λ_ _ _=>by kernel_rfl) (λ_ _=>rfl) (λ_ _=>Tree.free_ok (by kernel_rfl)) (λ_ X=>by kernel_rfl)
def Q6a(b:Q06)(port:Int):Tree Int:=
.br (port==10) (.lf b.C9) (.br (port==11) (.lv (Qdo b) λ(x0:Int)=> .lf (wrap u32 x0)) (.lf 0))
def Q5k(b:Q06)(port:Int):Int:=(Q6a b port).m
def Qw4:Q0d:=mkR 157 [] true [.agg Q06.sig, .one (.int .i64)] [] (λargs rows=>Q5k (Q06.of (args.getD 0 .dead).cells) (argI args 1)) (λX=> .int .u32 X) (λX=>[])
theorem Qt4:Q05 Tryz.prog Qw4:=Q0z Q0i Q0j (.cons Qr4 (.nil)) Tryz.func157 Tryz.call157 (λargs rows=>Q6a (Q06.of (args.getD 0 .dead).cells) (argI args 1)) [] [] 2 (λ_ _ _=>by kernel_rfl) (λ_ _=>rfl) (λ_ _=>Tree.free_ok (by kernel_rfl)) (λ_ X=>by kernel_rfl)
def Qk4(m:Q00)(port:Int)(clock:Int):Tree (Int×Q00):=
.br (decide (port≤1)) (.lv (Q5l m.A3 port) λ(x0:Q0b×Int)=> .lf (x0.2,{B3:=m.B3,Mem:=m.Mem,A3:=x0.1,B0:=m.B0,B1:=m.B1,C5:=m.C5,A1:=m.A1,A2:=m.A2,A6:=m.A6,A9:=m.A9})) (.br (port==2) (.lf (clock,m)) (.br (port==3) (.lv (Qel m.B0) λ(x1:Int)=> .lf (x1,m)) (.br (decide (port≤6)) (.lv (Qgs m.B1 port) λ(x2:Int)=> .lf (x2,m)) (.br (decide (port≤9)) (.lv (Qgi m.C5 port) λ(x3:Int)=> .lf (x3,m)) (.lv (Q5k m.A1 port) λ(x4:Int)=> .lf (x4,m))))))
def Qd8(m:Q00)(port:Int)(clock:Int):(Int×Q00):=(Qk4 m port clock).m
def ref7_in_m:Q0d:=mkR 104 [true,false,false] true [.ptr 0, .one (.int .i64), .one (.int .u32)] [.box 41 49 (Q00.sigW (.row 1)), .arr 23 1 (.ints .u32)] (λargs rows=>Qd8 (Q00.ofW (rows.getD 0 default).cs (rowL .u32 rows 1)) (argI args 1) (argI args 2)) (λX=> .int .u32 (X.1)) (λX=>[⟨true,41,49, .gen [(Q00.cellsW (X.2) (.all 1))]⟩,⟨false,23,1, .ints .u32 (X.2).Mem⟩])
theorem Zj:Q05 Tryz.prog ref7_in_m:=Q0z Q0i Q0j (.cons Qsj (.cons Qy2 (.cons Z1n (.cons Z70 (.cons Qt4 (.nil)))))) Tryz.func104 Tryz.call104 (λargs rows=>Qk4 (Q00.ofW (rows.getD 0 default).cs (rowL .u32 rows 1)) (argI args 1) (argI args 2)) [.row 23 1 (.ints .u32)] [] 2 (λ_ _ _=>by kernel_rfl) (λ_ _=>rfl) (λ_ _=>Tree.free_ok (by kernel_rfl)) (λ_ X=>by kernel_rfl)
def Qtn(deadline:Int):Tree Q0h:=
.br (deadline==0) (.lf ({D7:=false,C8:=0,D6:=false})) (.lf ({D7:=true,C8:=deadline,D6:=false}))
def Qqe(deadline:Int):Q0h:=(Qtn deadline).m
def Zj2:Q0d:=mkR 158 [] true [.one (.int .u32)] [] (λargs rows=>Qqe (argI args 0)) (λX=> .agg (Q0h.cells X)) (λX=>[])
theorem Zfj:Q05 Tryz.prog Zj2:=Q0z Q0i Q0j (.nil) Tryz.func158 Tryz.call158 (λargs rows=>Qtn (argI args 0)) [] [] 2 (λ_ _ _=>by kernel_rfl) (λ_ _=>rfl) (λ_ _=>Tree.free_ok (by kernel_rfl)) (λ_ X=>by kernel_rfl)
def Qs(x:Int)(n:Int)(z:(Int)×(List Int)):Prop:=0≤z.1∧(z.2.length:Int)=z.1∧(z.1≤n∨z.1=0)
def Qee(x:Int)(n:Int)(z:(Int)×(List Int)):Nat:=(n-z.1).toNat
def Qgc(x:Int)(n:Int):Tree (List UInt8):=
.lp inferInstance (Qee x n (0,[])+1) ((rE (x:Int)∧rE (n:Int)∧True∧rE (0:Int)∧True)∧rE ([]:List Int)∧True) (0,[]) λ(v0:Int×List Int)=> .br (decide (v0.1<n)) (.cn (decide (0≤wrap u64 (wrap i64 (8*v0.1)))) (.cn (decide (1*(v0.2.length+1)≤140737488355328)) (.nx ((rE (x:Int)∧rE (n:Int)∧True∧rE ((wrap i64 (v0.1+1)):Int)∧True)∧rE ((v0.2++[wrap u8 (ishr u32 x (wrap u64 (wrap i64 (8*v0.1))))]):List Int)∧True) (Sum.inl (wrap i64 (v0.1+1),v0.2++[wrap u8 (ishr u32 x (wrap u64 (wrap i64 (8*v0.1))))]))))) (.lf (Sum.inr (bytesOf v0.2)))
def Z7g(x:Int)(n:Int):(List UInt8):=(Qgc x n).m
def Qii(x:Int)(n:Int):Prop:=
n≤1000000000000
theorem Z9j(x:Int)(n:Int)(hw:Qii x n):(Qgc x n).p:=by
 simp only[Qii]at hw
 unfold Tree.p Qgc
 repeat'(first|refine w_lp (inv:=Qs x n) (μ:=Qee x n) ?_ (Nat.lt_succ_self _) (λ_ _=> ?_)|exact trivial|refine w_br (λ_=> ?_) (λ_=> ?_)|refine w_cn ?_ ?_|refine w_an ?_ ?_|refine w_lv (λ_ _=> ?_)|refine w_nx ?_|refine w_lf ?_|refine And.intro ?_ ?_)
 all_goals((try simp only[Qs,Qee]at*);((subst_vars;first|trivial|assumption|omega|((simp(config:={decide:=true,failIfUnchanged:=false}) only[Bool.and_eq_true,Bool.or_eq_true,Bool.and_eq_false_iff,Bool.or_eq_false_iff,Bool.not_eq_true',Bool.not_eq_false',Bool.not_eq_true,Bool.not_eq_false,decide_eq_true_eq,decide_eq_false_iff_not,Q74,Q4y,Q77,Q4u,beq_iff_eq,beq_eq_false_iff_ne,bne_iff_ne,bne_eq_false_iff_eq,ne_eq,List.all_cons,List.all_nil,D.plain,List.length_cons,List.length_nil,List.length_append,List.length_set,List.length_replicate,IntKind.wrap_i64,IntKind.wrap_u64,IntKind.wrap_u32,IntKind.wrap_i32,IntKind.wrap_u8,true_and,and_true,or_false,false_or,or_true,true_or,not_true_eq_false,not_false_eq_true,Prod.fst,Prod.snd]at*);first|done|assumption|omega)|((simp(config:={decide:=true,failIfUnchanged:=false}) only[Bool.and_eq_true,Bool.or_eq_true,Bool.and_eq_false_iff,Bool.or_eq_false_iff,Bool.not_eq_true',Bool.not_eq_false',Bool.not_eq_true,Bool.not_eq_false,decide_eq_true_eq,decide_eq_false_iff_not,Q74,Q4y,Q77,Q4u,beq_iff_eq,beq_eq_false_iff_ne,bne_iff_ne,bne_eq_false_iff_eq,ne_eq,List.all_cons,List.all_nil,D.plain,List.length_cons,List.length_nil,List.length_append,List.length_set,List.length_replicate,IntKind.wrap_i64,IntKind.wrap_u64,IntKind.wrap_u32,IntKind.wrap_i32,IntKind.wrap_u8,true_and,and_true,or_false,false_or,or_true,true_or,not_true_eq_false,not_false_eq_true,Prod.fst,Prod.snd]at*);simp only[←List.length_pos_iff]at*;omega)|(simp_all;done)|(have:= @Qje;simp_all;try omega))))
def Zdw:LInv:={
 α:=(Int)×(List Int)
 F:=λst a=>([(0,(lk st 0)),(1,(lk st 1)),(5, .all 0),(6, .int i64 a.1)],[⟨false,5,1, .ints u8 a.2⟩])
 a0:=λst=>((lk st 6).toInt,(Q8 st.rows (rN st 5)))
 ex0:=λst=>[]++[(Q1 (lk st 5) (st.rows.length+0))]
 next:=λst=>((lk st 6).toInt,(Q8 st.rows (rN st 5)))
 ex:=λst=>[]++[(Q1 (lk st 5) (st.rows.length+0))]}
def Z4v:List (Nat×LInv):=[(3,Zdw)]
def Zi1:Q0d:=mkP 242 [] true [.one (.int .u32), .one (.int .i64)] [] (λargs rows=>Qii (argI args 0) (argI args 1)) (λargs rows=>Z7g (argI args 0) (argI args 1)) (λX=> .str X) (λX=>[])
theorem Zd2:Q05 Tryz.prog Zi1:=Q0n Q0i Q0j (.nil) Tryz.func242 Tryz.call242 (λargs rows=>Qgc (argI args 0) (argI args 1)) [] Z4v 3 (λ_ _ _=>by kernel_rfl) (λ_ _=>rfl) (λargs rows h=>Z9j (argI args 0) (argI args 1) h) (λ_ X=>by kernel_rfl)
def Qi0(m:(List Int))(frame:Int)(z:(Int)×(List Int)):Nat:=(32-z.1).toNat
def Q9h(m:(List Int))(frame:Int):Tree ((List UInt8)×Bool):=
.br (decide (frame<0)) (.lf ([],false)) (.lv (Q44 m) λ(x0:Int)=> .br (decide (frame≥x0)) (.lf ([],false)) (.lp inferInstance (Qi0 m frame (0,[])+1) ((((Els.Nil (Els.ints u32 m)∨rE (1:Nat))∧rE (m:List Int))∧rE (frame:Int)∧True∧rE (0:Int)∧True)∧rE ([]:List Int)∧True) (0,[]) λ(v0:Int×List Int)=> .br (decide (v0.1<32)) (.cn (Nat.beq 1 1&&Nat.blt 0 1&&decide (0≤wrap i64 (wrap i64 (frame*32)+v0.1)∧wrap i64 (wrap i64 (frame*32)+v0.1)<(m.length:Int))) (let E1:=m.getD (Int.toNat (wrap i64 (wrap i64 (frame*32)+v0.1))) 0; .an (Qii E1 4) (.lv (Z7g E1 4) λ(x1:List UInt8)=> .cn (decide (1*(v0.2.length+List.length (Qb7 x1))≤140737488355328)) (.nx ((((Els.Nil (Els.ints u32 m)∨rE (1:Nat))∧rE (m:List Int))∧rE (frame:Int)∧True∧rE ((wrap i64 (v0.1+1)):Int)∧True)∧rE ((v0.2++Qb7 x1):List Int)∧True) (Sum.inl (wrap i64 (v0.1+1),v0.2++Qb7 x1)))))) (.lf (Sum.inr (bytesOf v0.2,true)))))
def Qi3(m:(List Int))(frame:Int):((List UInt8)×Bool):=(Q9h m frame).m
abbrev Qg9(m:(List Int))(frame:Int):Prop:=(Q9h m frame).p
def Zaa:LInv:={
 α:=(Int)×(List Int)
 F:=λst a=>([(0,(lk st 0)),(1,(lk st 1)),(6, .all 0),(7, .int i64 a.1)],[⟨false,5,1, .ints u8 a.2⟩])
 a0:=λst=>((lk st 7).toInt,(Q8 st.rows (rN st 6)))
 ex0:=λst=>[]++[(Q1 (lk st 6) (st.rows.length+0))]
 next:=λst=>((lk st 7).toInt,(Q8 st.rows (rN st 6)))
 ex:=λst=>[]++[(Q1 (lk st 6) (st.rows.length+0))]}
def Z1c:List (Nat×LInv):=[(5,Zaa)]
def Zda:Q0d:=mkP 212 [] true [.one (.ints .u32), .one (.int .i64)] [] (λargs rows=>Qg9 (argL .u32 args 0) (argI args 1)) (λargs rows=>Qi3 (argL .u32 args 0) (argI args 1)) (λX=> .tup [.str (X.1), .bool (X.2)]) (λX=>[])
theorem Qum:Q05 Tryz.prog Zda:=Q0n Q0i Q0j (.cons Qcr (.cons Zd2 (.nil))) Tryz.func212 Tryz.call212 (λargs rows=>Q9h (argL .u32 args 0) (argI args 1)) [] Z1c 3 (λ_ _ _=>by kernel_rfl) (λ_ _=>rfl) (λ_ _ h=>h) (λ_ X=>by kernel_rfl)
def Qoo(d0:Q0c)(at0:Int):Tree (Q07×Bool):=
.br (d0.B9 !=1) (.lf ({B5:=0,At:=0,C2:=0,C6:=[]},false)) (.br (d0.D8==1) (.lf ({B5:=3,At:=at0,C2:=d0.B7,C6:=[]},true)) (.br (d0.D8==2) (.lf ({B5:=4,At:=at0,C2:=d0.B7,C6:=d0.C3},true)) (.lf ({B5:=0,At:=0,C2:=0,C6:=[]},false))))
def Qih(d0:Q0c)(at0:Int):(Q07×Bool):=(Qoo d0 at0).m
def Z24:Q0d:=mkR 213 [] true [.agg Q0c.sig, .one (.int .u64)] [] (λargs rows=>Qih (Q0c.of (args.getD 0 .dead).cells) (argI args 1)) (λX=> .tup [.agg (Q07.cells (X.1)), .bool (X.2)]) (λX=>[])
theorem Qxe:Q05 Tryz.prog Z24:=Q0z Q0i Q0j (.nil) Tryz.func213 Tryz.call213 (λargs rows=>Qoo (Q0c.of (args.getD 0 .dead).cells) (argI args 1)) [] [] 2 (λ_ _ _=>by kernel_rfl) (λ_ _=>rfl) (λ_ _=>Tree.free_ok (by kernel_rfl)) (λ_ X=>by kernel_rfl)
def Q8p(d0:Q0c)(m:(List Int))(port:Int)(v:Int)(at0:Int):Tree (Q0c×(List Q07)):=
.br (port==4) (.lf ({Blocks:=d0.Blocks,C2:=v,B4:=d0.B4,B9:=d0.B9,D8:=d0.D8,B7:=d0.B7,B2:=d0.B2,C3:=d0.C3},[])) (.br (port==5) (.lf ({Blocks:=d0.Blocks,C2:=d0.C2,B4:=v,B9:=d0.B9,D8:=d0.D8,B7:=d0.B7,B2:=d0.B2,C3:=d0.C3},[])) (.br (port !=6) (.lf (d0,[])) (let T1:Tree ((Q0c×(List Q07))):= .br (d0.B9==0) (let T2:Tree ((Q0c×(List Q07))):= .lf ({Blocks:=d0.Blocks,C2:=d0.C2,B4:=d0.B4,B9:=3,D8:=d0.D8,B7:=d0.B7,B2:=d0.B2,C3:=d0.C3},[]); .br (decide (d0.C2≥d0.Blocks)) T2 (.lv (Q25 m d0.B4) λ(x0:Bool)=> .br (!x0) T2 (.br (v==2) (.an (Qg9 m (wrap i64 d0.B4)) (.lv (Qi3 m (wrap i64 d0.B4)) λ(x1:List UInt8×Bool)=>let E4:=({Blocks:=d0.Blocks,C2:=d0.C2,B4:=d0.B4,B9:=1,D8:=wrap i64 v,B7:=d0.C2,B2:=d0.B4,C3:=x1.1}:Q0c); .lv (Qih E4 at0) λ(x2:Q07×Bool)=> .lf (E4,[x2.1]))) (let E5:=({Blocks:=d0.Blocks,C2:=d0.C2,B4:=d0.B4,B9:=1,D8:=wrap i64 v,B7:=d0.C2,B2:=d0.B4,C3:=[]}:Q0c); .lv (Qih E5 at0) λ(x3:Q07×Bool)=> .lf (E5,[x3.1]))))) (.lf (d0,[])); .br (v==0) (let T3:Tree ((Q0c×(List Q07))):= .lf ({Blocks:=d0.Blocks,C2:=d0.C2,B4:=d0.B4,B9:=0,D8:=d0.D8,B7:=d0.B7,B2:=d0.B2,C3:=d0.C3},[]); .br (d0.B9==2) T3 (.br (d0.B9==3) T3 (.br (v==1) T1 (.br (v==2) T1 (.lf (d0,[])))))) (.br (v==1) T1 (.br (v==2) T1 (.lf (d0,[])))))))
def Qew(d0:Q0c)(m:(List Int))(port:Int)(v:Int)(at0:Int):(Q0c×(List Q07)):=(Q8p d0 m port v at0).m
abbrev Qfg(d0:Q0c)(m:(List Int))(port:Int)(v:Int)(at0:Int):Prop:=(Q8p d0 m port v at0).p
def Z1r:Q0d:=mkP 159 [] true [.agg Q0c.sig, .one (.ints .u32), .one (.int .i64), .one (.int .u32), .one (.int .u64)] [] (λargs rows=>Qfg (Q0c.of (args.getD 0 .dead).cells) (argL .u32 args 1) (argI args 2) (argI args 3) (argI args 4)) (λargs rows=>Qew (Q0c.of (args.getD 0 .dead).cells) (argL .u32 args 1) (argI args 2) (argI args 3) (argI args 4)) (λX=> .tup [.agg (Q0c.cells (X.1)), .sl 4 (.recs .apiOutput (X.2)) true]) (λX=>[])
theorem Qxd:Q05 Tryz.prog Z1r:=Q0n Q0i Q0j (.cons Qf4 (.cons Qum (.cons Qxe (.nil)))) Tryz.func159 Tryz.call159 (λargs rows=>Q8p (Q0c.of (args.getD 0 .dead).cells) (argL .u32 args 1) (argI args 2) (argI args 3) (argI args 4)) [.sl (.recs .apiOutput) true] [] 2 (λ_ _ _=>by kernel_rfl) (λ_ _=>rfl) (λ_ _ h=>h) (λ_ X=>by kernel_rfl)
def Qae(n:Q0m)(m:(List Int))(port:Int)(v:Int)(at0:Int):Tree (Q0m×(List Q07)):=
.br (port==7) (.lf ({B4:=v,F0:=n.F0,C7:=n.C7,C0:=n.C0,B8:=n.B8,F2:=n.F2},[])) (.br (port==8) (.lf ({B4:=n.B4,F0:=v,C7:=n.C7,C0:=n.C0,B8:=n.B8,F2:=n.F2},[])) (.br (port !=9) (.lf (n,[])) (.br (v==0) (.lf ({B4:=n.B4,F0:=n.F0,C7:=n.C7,C0:=n.C0,B8:=false,F2:=0},[])) (let T1:Tree ((Q0m×(List Q07))):= .br (v==2) (.lv (Q25 m n.B4) λ(x2:Bool)=> .br x2 (.br (!n.C7) (.br (!n.B8) (.lf ({B4:=n.B4,F0:=n.F0,C7:=true,C0:=n.B4,B8:=n.B8,F2:=n.F2},[])) (.lf (n,[]))) (.lf (n,[]))) (.lf (n,[]))) (.lf (n,[])); .br (v==1) (.br (decide (n.F0≥1)) (.br (decide (n.F0≤128)) (.lv (Q25 m n.B4) λ(x0:Bool)=> .br x0 (.an (Qg9 m (wrap i64 n.B4)) (.lv (Qi3 m (wrap i64 n.B4)) λ(x1:List UInt8×Bool)=> .cn (decide ((0:Int)≤(0:Int)∧0≤n.F0∧n.F0≤(x1.1.length:Int))) (.lf (n,[{B5:=2,At:=at0,C2:=0,C6:=List.take (Int.toNat n.F0-Int.toNat 0) (List.drop (Int.toNat 0) x1.1)}])))) T1) T1) T1) T1))))
def Qhk(n:Q0m)(m:(List Int))(port:Int)(v:Int)(at0:Int):(Q0m×(List Q07)):=(Qae n m port v at0).m
abbrev Qgn(n:Q0m)(m:(List Int))(port:Int)(v:Int)(at0:Int):Prop:=(Qae n m port v at0).p
def Z56:Q0d:=mkP 160 [] true [.agg Q0m.sig, .one (.ints .u32), .one (.int .i64), .one (.int .u32), .one (.int .u64)] [] (λargs rows=>Qgn (Q0m.of (args.getD 0 .dead).cells) (argL .u32 args 1) (argI args 2) (argI args 3) (argI args 4)) (λargs rows=>Qhk (Q0m.of (args.getD 0 .dead).cells) (argL .u32 args 1) (argI args 2) (argI args 3) (argI args 4)) (λX=> .tup [.agg (Q0m.cells (X.1)), .sl 4 (.recs .apiOutput (X.2)) true]) (λX=>[])
theorem Z11:Q05 Tryz.prog Z56:=Q0n Q0i Q0j (.cons Qf4 (.cons Qum (.nil))) Tryz.func160 Tryz.call160 (λargs rows=>Qae (Q0m.of (args.getD 0 .dead).cells) (argL .u32 args 1) (argI args 2) (argI args 3) (argI args 4)) [.sl (.recs .apiOutput) true] [] 2 (λ_ _ _=>by kernel_rfl) (λ_ _=>rfl) (λ_ _ h=>h) (λ_ X=>by kernel_rfl)
def Qhs(b:Q06)(m:(List Int))(port:Int)(v:Int)(z:(Int)×(List Int)):Nat:=(32-z.1).toNat
def Q5(b:Q06)(m:(List Int))(port:Int)(v:Int):Tree (Q06×(List Int)):=
let T1:Tree ((Q06×(List Int))):= .br (port==11) (.br (decide (v<32)) (.cn (decide (0≤v)) (.lf ({C9:=b.C9,C1:=Qg u32 b.C1 (ishl u32 1 v)},m))) (.lf (b,m))) (.lf (b,m)); .br (port==10) (.lv (Q25 m v) λ(x0:Bool)=> .br x0 (.cn (decide (0≤v)) (.br (iand u32 (ishr u32 b.C1 v) (1:Int)==(0:Int)) (.cn (decide (0≤v)) (.lp inferInstance (Qhs b m port v (0,m)+1) ((True∧rE (v:Int)∧(rE (0:Nat)∧rE (0:Nat))∧(rE (0:Nat)∧rE (0:Nat))∧rE (0:Int)∧True)∧rE (m:List Int)∧(rE b.C9∧rE ((ior u32 b.C1 (ishl u32 1 v)):Int)∧True)∧(rE (0:Int)∧rE (0:Int)∧True)∧True) (0,m) λ(v0:Int×List Int)=> .br (decide (v0.1<32)) (let E2:=wrap i64 (wrap i64 v*32)+v0.1; .cn (Nat.beq 1 1&&Nat.blt 0 1&&decide (0≤wrap i64 E2∧wrap i64 E2<(v0.2.length:Int))) (.nx ((True∧rE (v:Int)∧(rE (0:Nat)∧rE (0:Nat))∧(rE (0:Nat)∧rE (0:Nat))∧rE ((wrap i64 (v0.1+1)):Int)∧True)∧rE ((List.set v0.2 (Int.toNat (wrap i64 (wrap i64 (wrap i64 v*32)+v0.1))) 0):List Int)∧(rE b.C9∧rE ((ior u32 b.C1 (ishl u32 1 v)):Int)∧True)∧(rE (0:Int)∧rE (0:Int)∧True)∧True) (Sum.inl (wrap i64 (v0.1+1),List.set v0.2 (Int.toNat (wrap i64 E2)) 0)))) (.lf (Sum.inr ({C9:=b.C9,C1:=ior u32 b.C1 (ishl u32 1 v)},v0.2))))) T1)) T1) T1
def Q6t(b:Q06)(m:(List Int))(port:Int)(v:Int):(Q06×(List Int)):=(Q5 b m port v).m
abbrev Ql5(b:Q06)(m:(List Int))(port:Int)(v:Int):Prop:=(Q5 b m port v).p
def Z9y:LInv:={
 α:=(Int)×(List Int)
 F:=λst a=>([(1, .all 0),(3,(lk st 3)),(4, .ptr 1 0 0),(8, .ptr 2 0 0),(9, .int i64 a.1)],[⟨false,23,1, .ints u32 a.2⟩,⟨true,38,2, .gen [[(cT st 4 0),(cT st 4 1)]]⟩,⟨true,38,2, .gen [[(cT st 8 0),(cT st 8 1)]]⟩])
 a0:=λst=>((lk st 9).toInt,(Q8 st.rows 0))
 ex0:=λst=>[0]++[(Q1 (lk st 4) (st.rows.length+1)),(Q1 (lk st 8) (st.rows.length+2))]
 next:=λst=>((lk st 9).toInt,(Q8 st.rows 0))
 ex:=λst=>[0]++[(Q1 (lk st 4) (st.rows.length+1)),(Q1 (lk st 8) (st.rows.length+2))]}
def Z1t:List (Nat×LInv):=[(4,Z9y)]
def Zcn:Q0d:=mkP 161 [false,true,false,false] true [.agg Q06.sig, .one (.row 0), .one (.int .i64), .one (.int .u32)] [.arr 23 1 (.ints .u32)] (λargs rows=>Ql5 (Q06.of (args.getD 0 .dead).cells) (rowL .u32 rows 0) (argI args 2) (argI args 3)) (λargs rows=>Q6t (Q06.of (args.getD 0 .dead).cells) (rowL .u32 rows 0) (argI args 2) (argI args 3)) (λX=> .agg (Q06.cells (X.1))) (λX=>[⟨false,23,1, .ints .u32 (X.2)⟩])
theorem Zbz:Q05 Tryz.prog Zcn:=Q0n Q0i Q0j (.cons Qf4 (.nil)) Tryz.func161 Tryz.call161 (λargs rows=>Q5 (Q06.of (args.getD 0 .dead).cells) (rowL .u32 rows 0) (argI args 2) (argI args 3)) [] Z1t 3 (λ_ _ _=>by kernel_rfl) (λ_ _=>rfl) (λ_ _ h=>h) (λ_ X=>by kernel_rfl)
def Qe3(m:Q00)(port:Int)(v:Int):Tree ((List Q07)×Q00):=
.br (port==0) (.lf ([{B5:=1,At:=m.A2,C2:=0,C6:=[(λ(n:Int)=>UInt8.ofNat n.toNat) (wrap u8 v)]}],m)) (.br (decide (port≤2)) (.lf ([],m)) (.br (port==3) (.lv (Qqe v) λ(x0:Q0h)=> .lf ([],{B3:=m.B3,Mem:=m.Mem,A3:=m.A3,B0:=x0,B1:=m.B1,C5:=m.C5,A1:=m.A1,A2:=m.A2,A6:=m.A6,A9:=m.A9})) (.br (decide (port≤6)) (.an (Qfg m.B1 m.Mem port v m.A2) (.lv (Qew m.B1 m.Mem port v m.A2) λ(x1:Q0c×List Q07)=> .lf (x1.2,{B3:=m.B3,Mem:=m.Mem,A3:=m.A3,B0:=m.B0,B1:=x1.1,C5:=m.C5,A1:=m.A1,A2:=m.A2,A6:=m.A6,A9:=m.A9}))) (.br (decide (port≤9)) (.an (Qgn m.C5 m.Mem port v m.A2) (.lv (Qhk m.C5 m.Mem port v m.A2) λ(x2:Q0m×List Q07)=> .lf (x2.2,{B3:=m.B3,Mem:=m.Mem,A3:=m.A3,B0:=m.B0,B1:=m.B1,C5:=x2.1,A1:=m.A1,A2:=m.A2,A6:=m.A6,A9:=m.A9}))) (.an (Ql5 m.A1 m.Mem port v) (.lv (Q6t m.A1 m.Mem port v) λ(x3:Q06×List Int)=> .lf ([],{B3:=m.B3,Mem:=x3.2,A3:=m.A3,B0:=m.B0,B1:=m.B1,C5:=m.C5,A1:=x3.1,A2:=m.A2,A6:=m.A6,A9:=m.A9})))))))
def Qac(m:Q00)(port:Int)(v:Int):((List Q07)×Q00):=(Qe3 m port v).m
abbrev Quv(m:Q00)(port:Int)(v:Int):Prop:=(Qe3 m port v).p
def Zk5:Q0d:=mkP 106 [true,false,false] true [.ptr 0, .one (.int .i64), .one (.int .u32)] [.box 41 49 (Q00.sigW (.row 1)), .arr 23 1 (.ints .u32)] (λargs rows=>Quv (Q00.ofW (rows.getD 0 default).cs (rowL .u32 rows 1)) (argI args 1) (argI args 2)) (λargs rows=>Qac (Q00.ofW (rows.getD 0 default).cs (rowL .u32 rows 1)) (argI args 1) (argI args 2)) (λX=> .sl 4 (.recs .apiOutput (X.1)) true) (λX=>[⟨true,41,49, .gen [(Q00.cellsW (X.2) (.all 1))]⟩,⟨false,23,1, .ints .u32 (X.2).Mem⟩])
theorem Zf5:Q05 Tryz.prog Zk5:=Q0n Q0i Q0j (.cons Zfj (.cons Qxd (.cons Z11 (.cons Zbz (.nil))))) Tryz.func106 Tryz.call106 (λargs rows=>Qe3 (Q00.ofW (rows.getD 0 default).cs (rowL .u32 rows 1)) (argI args 1) (argI args 2)) [.sl (.recs .apiOutput) true, .row 23 1 (.ints .u32)] [] 2 (λ_ _ _=>by kernel_rfl) (λ_ _=>rfl) (λ_ _ h=>h) (λ_ X=>by kernel_rfl)
def Q8w(m:Q00)(clock:Int):Tree ((List Q07)×Q00):=
.an (Q7h m) (.lv (Q0k m) λ(x0:Q03)=> .an (Qpy x0 m.Mem) (.lv (Q8e x0 m.Mem) λ(x1:Q03×Q11×List Int)=>let E1:=({B3:=x1.1,Mem:=x1.2.2,A3:=m.A3,B0:=m.B0,B1:=m.B1,C5:=m.C5,A1:=m.A1,A2:=m.A2,A6:=false,A9:=m.A9}:Q00); .br (x1.2.1.B5==1) (.lv (Qd8 E1 x1.2.1.D0 clock) λ(x2:Int×Q00)=> .an (Q3c x2.2.B3 x1.2.1.D9 x2.1) (.lv (Q1r x2.2.B3 x1.2.1.D9 x2.1) λ(x3:Q03)=> .lf ([],{B3:=x3,Mem:=x2.2.Mem,A3:=x2.2.A3,B0:=x2.2.B0,B1:=x2.2.B1,C5:=x2.2.C5,A1:=x2.2.A1,A2:=wrap u64 (x2.2.A2+1),A6:=x2.2.A6,A9:=x2.2.A9}))) (.br (x1.2.1.B5==2) (.an (Quv E1 x1.2.1.D0 x1.2.1.Value) (.lv (Qac E1 x1.2.1.D0 x1.2.1.Value) λ(x4:List Q07×Q00)=> .lf (x4.1,{B3:=x4.2.B3,Mem:=x4.2.Mem,A3:=x4.2.A3,B0:=x4.2.B0,B1:=x4.2.B1,C5:=x4.2.C5,A1:=x4.2.A1,A2:=wrap u64 (x4.2.A2+1),A6:=x4.2.A6,A9:=x4.2.A9}))) (.br (x1.2.1.B5==3) (.lf ([],{B3:=x1.1,Mem:=x1.2.2,A3:=m.A3,B0:=m.B0,B1:=m.B1,C5:=m.C5,A1:=m.A1,A2:=wrap u64 (m.A2+1),A6:=true,A9:=m.A9})) (.br (x1.2.1.B5==4) (.lf ([],{B3:=x1.1,Mem:=x1.2.2,A3:=m.A3,B0:=m.B0,B1:=m.B1,C5:=m.C5,A1:=m.A1,A2:=wrap u64 (m.A2+1),A6:=false,A9:=true})) (.lf ([],{B3:=x1.1,Mem:=x1.2.2,A3:=m.A3,B0:=m.B0,B1:=m.B1,C5:=m.C5,A1:=m.A1,A2:=wrap u64 (m.A2+1),A6:=false,A9:=m.A9})))))))
def Q0o(m:Q00)(clock:Int):((List Q07)×Q00):=(Q8w m clock).m
abbrev Qlj(m:Q00)(clock:Int):Prop:=(Q8w m clock).p
def Z0j:Q0d:=mkP 64 [true,false] true [.ptr 0, .one (.int .u32)] [.box 41 49 (Q00.sigW (.row 1)), .arr 23 1 (.ints .u32)] (λargs rows=>Qlj (Q00.ofW (rows.getD 0 default).cs (rowL .u32 rows 1)) (argI args 1)) (λargs rows=>Q0o (Q00.ofW (rows.getD 0 default).cs (rowL .u32 rows 1)) (argI args 1)) (λX=> .sl 4 (.recs .apiOutput (X.1)) true) (λX=>[⟨true,41,49, .gen [(Q00.cellsW (X.2) (.all 1))]⟩,⟨false,23,1, .ints .u32 (X.2).Mem⟩])
theorem Qxa:Q05 Tryz.prog Z0j:=Q0n Q0i Q0j (.cons Qhu (.cons Zjf (.cons Zj (.cons Qho (.cons Zf5 (.nil)))))) Tryz.func64 Tryz.call64 (λargs rows=>Q8w (Q00.ofW (rows.getD 0 default).cs (rowL .u32 rows 1)) (argI args 1)) [.sl (.recs .apiOutput) true, .row 23 1 (.ints .u32)] [] 2 (λ_ _ _=>by kernel_rfl) (λ_ _=>rfl) (λ_ _ h=>h) (λ_ X=>by kernel_rfl)
end
end Go.Proofs.YtpcbkbalabgnlaaGreat

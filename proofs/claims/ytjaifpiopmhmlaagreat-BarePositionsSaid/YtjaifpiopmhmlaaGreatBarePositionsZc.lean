/-
  Functions of the program: models, and that its calls come to them (by a program: gen3.py).
-/
import Derived.Test.YtjaifpiopmhmlaaGreatBarePositionsBase
import Derived.Test.YtjaifpiopmhmlaaGreatBarePositionsZa
import Derived.Test.YtjaifpiopmhmlaaGreatBarePositionsZb
set_option maxRecDepth 100000
set_option linter.unusedVariables false
set_option linter.unusedSimpArgs false
namespace Go.Proofs.YtjaifpiopmhmlaaGreat
open Go Go.GD Go.IntKind
noncomputable section
def Qbl(steps:Int):Tree Int:=
.lf (if 4000<if 0>steps then 0 else steps then 4000 else if 0>steps then 0 else steps)
def Q13(steps:Int):Int:=(Qbl steps).m
def Qy8:Q0c:=mkR 183 [] true [.one (.int .i64)] [] (λargs rows=>Q13 (argI args 0)) (λX=> .int .i64 X) (λX=>[])
theorem Qwa:Q05 Tryz.prog Qy8:=Q0z Q0k Q0l (.nil) Tryz.func183 Tryz.call183 (λargs rows=>Qbl (argI args 0)) [] [] 2 (λ_ _ _=>by kernel_rfl) (λ_ _=>rfl) (λ_ _=>Tree.free_ok (by kernel_rfl)) (λ_ X=>by kernel_rfl)
def Qtf(t:Q0g)(now:Int):Tree Bool:=
.br t.D2 (.lf (decide (now≥t.D0))) (.lf false)
def Q76(t:Q0g)(now:Int):Bool:=(Qtf t now).m
def Zjc:Q0c:=mkR 184 [] true [.agg Q0g.sig, .one (.int .u32)] [] (λargs rows=>Q76 (Q0g.of (args.getD 0 .dead).cells) (argI args 1)) (λX=> .bool X) (λX=>[])
theorem Zg9:Q05 Tryz.prog Zjc:=Q0z Q0k Q0l (.nil) Tryz.func184 Tryz.call184 (λargs rows=>Qtf (Q0g.of (args.getD 0 .dead).cells) (argI args 1)) [] [] 2 (λ_ _ _=>by kernel_rfl) (λ_ _=>rfl) (λ_ _=>Tree.free_ok (by kernel_rfl)) (λ_ X=>by kernel_rfl)
def Qcm(m:Q00)(z:(Int)):Nat:=(32-z).toNat
def Q4d(m:Q00):Tree Q04:=
.an (Qex m) (.lv (Q2p m) λ(x0:Int)=> .br (iand u32 m.B3.B6.a0 (2:Int)==(0:Int)) (.lf m.B3) (.br (x0==0) (.lf m.B3) (.lp inferInstance (Qcm m 0+1) (((rE (0:Nat)∧rE (0:Nat))∧(rE (0:Nat)∧rE (0:Nat))∧rE (x0:Int)∧rE (0:Int)∧True)∧(mE m (((Els.Nil (Els.ints u32 m.Mem)∨rE (1:Nat))∧rE m.Mem)) True)∧(rE (0:Int)∧rE (0:Int)∧rE (0:Int)∧rE (0:Int)∧rE (0:Int)∧rE (0:Int)∧rE (0:Int)∧rE (0:Int)∧rE (0:Int)∧rE (0:Int)∧rE (0:Int)∧rE (0:Int)∧rE (0:Int)∧rE (0:Int)∧rE (0:Int)∧rE (0:Int)∧rE (0:Int)∧rE (0:Int)∧rE (0:Int)∧rE (0:Int)∧rE (0:Int)∧rE (0:Int)∧rE (0:Int)∧rE (0:Int)∧rE (0:Int)∧True)∧True) 0 λ(v0:Int)=> .cn (decide (0≤wrap u64 v0)) (.br (iand u32 (ishr u32 x0 (wrap u64 v0)) (1:Int)==(0:Int)) (.nx (((rE (0:Nat)∧rE (0:Nat))∧(rE (0:Nat)∧rE (0:Nat))∧rE (x0:Int)∧rE ((wrap i64 (v0+1)):Int)∧True)∧(mE m (((Els.Nil (Els.ints u32 m.Mem)∨rE (1:Nat))∧rE m.Mem)) True)∧(rE (0:Int)∧rE (0:Int)∧rE (0:Int)∧rE (0:Int)∧rE (0:Int)∧rE (0:Int)∧rE (0:Int)∧rE (0:Int)∧rE (0:Int)∧rE (0:Int)∧rE (0:Int)∧rE (0:Int)∧rE (0:Int)∧rE (0:Int)∧rE (0:Int)∧rE (0:Int)∧rE (0:Int)∧rE (0:Int)∧rE (0:Int)∧rE (0:Int)∧rE (0:Int)∧rE (0:Int)∧rE (0:Int)∧rE (0:Int)∧rE (0:Int)∧True)∧True) (Sum.inl (wrap i64 (v0+1)))) (.lv (Q2j m.B3 (wrap i64 (16+v0)) 0) λ(x1:Q04)=> .lf (Sum.inr x1))))))
def Q0j(m:Q00):Q04:=(Q4d m).m
abbrev Q6j(m:Q00):Prop:=(Q4d m).p
def Qq7:LInv:={
 α:=(Int)
 F:=λst a=>([(1, .ptr 0 0 0),(2, .ptr 1 0 0),(3,(lk st 3)),(4, .int i64 a)],[⟨true,41,49, .gen [[(cT st 1 0),(cT st 1 1),(cT st 1 2),(cT st 1 3),(cT st 1 4),(cT st 1 5),(cT st 1 6),(cT st 1 7),(cT st 1 8),(cT st 1 9),(cT st 1 10),(cT st 1 11),(cT st 1 12),(cT st 1 13),(cT st 1 14),(cT st 1 15),(cT st 1 16),(cT st 1 17),(cT st 1 18),(cT st 1 19),(cT st 1 20),(cT st 1 21),(cT st 1 22),(cT st 1 23),(cT st 1 24),(cT st 1 25),(cT st 1 26),(cT st 1 27),(cT st 1 28),(cT st 1 29),(cT st 1 30),(cT st 1 31),(cT st 1 32),(cT st 1 33),(cT st 1 34),(cT st 1 35),(cT st 1 36),(cT st 1 37),(cT st 1 38),(cT st 1 39),(cT st 1 40),(cT st 1 41),(cT st 1 42),(cT st 1 43),(cT st 1 44),(cT st 1 45),(cT st 1 46),(cT st 1 47),(cT st 1 48)]]⟩,⟨true,27,25, .gen [[(cT st 2 0),(cT st 2 1),(cT st 2 2),(cT st 2 3),(cT st 2 4),(cT st 2 5),(cT st 2 6),(cT st 2 7),(cT st 2 8),(cT st 2 9),(cT st 2 10),(cT st 2 11),(cT st 2 12),(cT st 2 13),(cT st 2 14),(cT st 2 15),(cT st 2 16),(cT st 2 17),(cT st 2 18),(cT st 2 19),(cT st 2 20),(cT st 2 21),(cT st 2 22),(cT st 2 23),(cT st 2 24)]]⟩])
 a0:=λst=>(lk st 4).toInt
 ex0:=λst=>[]++[(Q0o (lk st 1) (st.rows.length+0)),(Q0o (lk st 2) (st.rows.length+1))]
 next:=λst=>(lk st 4).toInt
 ex:=λst=>[]++[(Q0o (lk st 1) (st.rows.length+0)),(Q0o (lk st 2) (st.rows.length+1))]}
def Qn3:List (Nat×LInv):=[(5,Qq7)]
def Qsd:Q0c:=mkP 136 [] true [.agg Q00.sig] [] (λargs rows=>Q6j (Q00.of (args.getD 0 .dead).cells)) (λargs rows=>Q0j (Q00.of (args.getD 0 .dead).cells)) (λX=> .agg (Q04.cells X)) (λX=>[])
theorem Qau:Q05 Tryz.prog Qsd:=Q0n Q0k Q0l (.cons Qm4 (.cons Qie (.nil))) Tryz.func136 Tryz.call136 (λargs rows=>Q4d (Q00.of (args.getD 0 .dead).cells)) [] Qn3 3 (λ_ _ _=>by kernel_rfl) (λ_ _=>rfl) (λ_ _ h=>h) (λ_ X=>by kernel_rfl)
def Qe8(m:Q00):Tree Bool:=
.an (Q6j m) (.lv (Q0j m) λ(x0:Q04)=> .br (iand u32 x0.B6.a0 (1:Int)==(0:Int)) (.lf false) (.an (Qbq m.Mem x0.Pc 4) (.lv (Q16 m.Mem x0.Pc 4) λ(x1:Int×Bool)=> .lv (Q1r x1.1) λ(x2:Q0i×Bool)=> .br x1.2 (.br x2.2 (.br (x2.1.Op==60) (.lf (x2.1.Imm==2)) (.lf false)) (.lf false)) (.lf false))))
def Qct(m:Q00):Bool:=(Qe8 m).m
abbrev Qiv(m:Q00):Prop:=(Qe8 m).p
def Zd9:Q0c:=mkP 69 [] true [.agg Q00.sig] [] (λargs rows=>Qiv (Q00.of (args.getD 0 .dead).cells)) (λargs rows=>Qct (Q00.of (args.getD 0 .dead).cells)) (λX=> .bool X) (λX=>[])
theorem Qqr:Q05 Tryz.prog Zd9:=Q0n Q0k Q0l (.cons Qau (.cons Qni (.cons Qow (.nil)))) Tryz.func69 Tryz.call69 (λargs rows=>Qe8 (Q00.of (args.getD 0 .dead).cells)) [] [] 2 (λ_ _ _=>by kernel_rfl) (λ_ _=>rfl) (λ_ _ h=>h) (λ_ X=>by kernel_rfl)
def Q6p(m:Q00):Tree Bool:=
.an (Qdo m) (.lv (Q0y m) λ(x0:Bool)=> .br x0 (.lf false) (.an (Qiv m) (.lv (Qct m) λ(x1:Bool)=> .lf x1)))
def Q0t(m:Q00):Bool:=(Q6p m).m
abbrev Qaz(m:Q00):Prop:=(Q6p m).p
def Qu8:Q0c:=mkP 50 [] true [.agg Q00.sig] [] (λargs rows=>Qaz (Q00.of (args.getD 0 .dead).cells)) (λargs rows=>Q0t (Q00.of (args.getD 0 .dead).cells)) (λX=> .bool X) (λX=>[])
theorem Qqg:Q05 Tryz.prog Qu8:=Q0n Q0k Q0l (.cons Qse (.cons Qqr (.nil))) Tryz.func50 Tryz.call50 (λargs rows=>Q6p (Q00.of (args.getD 0 .dead).cells)) [] [] 2 (λ_ _ _=>by kernel_rfl) (λ_ _=>rfl) (λ_ _ h=>h) (λ_ X=>by kernel_rfl)
def Q35(c:Q0b)(port:Int):Tree (Q0b×Int):=
let T1:Tree ((Q0b×Int)):= .br (port==0) (.cn (decide ((0:Int)≤(1:Int)∧1≤(c.D3.length:Int)∧(c.D3.length:Int)≤(c.D3.length:Int))) (.cn (decide ((0:Int)≤(0:Int)∧0<(c.D3.length:Int))) (.lf ({D3:=List.take (Int.toNat (c.D3.length:Int)-Int.toNat 1) (List.drop (Int.toNat 1) c.D3)},wrap u32 (↑(UInt8.toNat (c.D3.getD (Int.toNat 0) (0:UInt8))):Int))))) (.br (port==1) (.lf (c,wrap u32 (c.D3.length:Int))) (.lf (c,0))); .br (port==0) (.br ((c.D3.length:Int)==(0:Int)) (.lf (c,4294967295)) T1) T1
def Q4x(c:Q0b)(port:Int):(Q0b×Int):=(Q35 c port).m
theorem Qs1(c:Q0b)(port:Int):(Q35 c port).p:=by
 unfold Tree.p Q35
 repeat'(first|exact trivial|refine w_br (λ_=> ?_) (λ_=> ?_)|refine w_cn ?_ ?_|refine w_an ?_ ?_|refine w_lv (λ_ _=> ?_)|refine w_nx ?_|refine w_lf ?_|refine And.intro ?_ ?_)
 all_goals(((subst_vars;first|trivial|assumption|omega|((simp(config:={decide:=true,failIfUnchanged:=false}) only[Bool.and_eq_true,Bool.or_eq_true,Bool.and_eq_false_iff,Bool.or_eq_false_iff,Bool.not_eq_true',Bool.not_eq_false',Bool.not_eq_true,Bool.not_eq_false,decide_eq_true_eq,decide_eq_false_iff_not,Q69,Q4c,Q6a,Q47,beq_iff_eq,beq_eq_false_iff_ne,bne_iff_ne,bne_eq_false_iff_eq,ne_eq,List.all_cons,List.all_nil,D.plain,List.length_cons,List.length_nil,List.length_append,List.length_set,List.length_replicate,IntKind.wrap_i64,IntKind.wrap_u64,IntKind.wrap_u32,IntKind.wrap_i32,IntKind.wrap_u8,true_and,and_true,or_false,false_or,or_true,true_or,not_true_eq_false,not_false_eq_true,Prod.fst,Prod.snd]at*);first|done|assumption|omega)|((simp(config:={decide:=true,failIfUnchanged:=false}) only[Bool.and_eq_true,Bool.or_eq_true,Bool.and_eq_false_iff,Bool.or_eq_false_iff,Bool.not_eq_true',Bool.not_eq_false',Bool.not_eq_true,Bool.not_eq_false,decide_eq_true_eq,decide_eq_false_iff_not,Q69,Q4c,Q6a,Q47,beq_iff_eq,beq_eq_false_iff_ne,bne_iff_ne,bne_eq_false_iff_eq,ne_eq,List.all_cons,List.all_nil,D.plain,List.length_cons,List.length_nil,List.length_append,List.length_set,List.length_replicate,IntKind.wrap_i64,IntKind.wrap_u64,IntKind.wrap_u32,IntKind.wrap_i32,IntKind.wrap_u8,true_and,and_true,or_false,false_or,or_true,true_or,not_true_eq_false,not_false_eq_true,Prod.fst,Prod.snd]at*);simp only[←List.length_pos_iff]at*;omega)|(simp_all;done)|(have:= @Qiw;simp_all;try omega))))
def Qwl:Q0c:=mkR 196 [] true [.agg Q0b.sig, .one (.int .i64)] [] (λargs rows=>Q4x (Q0b.of (args.getD 0 .dead).cells) (argI args 1)) (λX=> .tup [.agg (Q0b.cells (X.1)), .int .u32 (X.2)]) (λX=>[])
theorem Qka:Q05 Tryz.prog Qwl:=Q0z Q0k Q0l (.nil) Tryz.func196 Tryz.call196 (λargs rows=>Q35 (Q0b.of (args.getD 0 .dead).cells) (argI args 1)) [] [] 2 (λ_ _ _=>by kernel_rfl) (λ_ _=>rfl) (λargs rows=>Qs1 (Q0b.of (args.getD 0 .dead).cells) (argI args 1)) (λ_ X=>by kernel_rfl)
def Qdq(t:Q0g):Tree Int:=
.br t.D6 (.lf 1) (.lf 0)
def Qeo(t:Q0g):Int:=(Qdq t).m
def Z2r:Q0c:=mkR 197 [] true [.agg Q0g.sig] [] (λargs rows=>Qeo (Q0g.of (args.getD 0 .dead).cells)) (λX=> .int .u32 X) (λX=>[])
theorem Qm3:Q05 Tryz.prog Z2r:=Q0z Q0k Q0l (.nil) Tryz.func197 Tryz.call197 (λargs rows=>Qdq (Q0g.of (args.getD 0 .dead).cells)) [] [] 2 (λ_ _ _=>by kernel_rfl) (λ_ _=>rfl) (λ_ _=>Tree.free_ok (by kernel_rfl)) (λ_ X=>by kernel_rfl)
def Qfx(d0:Q0d)(port:Int):Tree Int:=
.br (port==4) (.lf d0.B9) (.br (port==5) (.lf d0.B4) (.br (port==6) (.lf (wrap u32 d0.C0)) (.lf 0)))
def Qgj(d0:Q0d)(port:Int):Int:=(Qfx d0 port).m
def Z7t:Q0c:=mkR 198 [] true [.agg Q0d.sig, .one (.int .i64)] [] (λargs rows=>Qgj (Q0d.of (args.getD 0 .dead).cells) (argI args 1)) (λX=> .int .u32 X) (λX=>[])
theorem Qpk:Q05 Tryz.prog Z7t:=Q0z Q0k Q0l (.nil) Tryz.func198 Tryz.call198 (λargs rows=>Qfx (Q0d.of (args.getD 0 .dead).cells) (argI args 1)) [] [] 2 (λ_ _ _=>by kernel_rfl) (λ_ _=>rfl) (λ_ _=>Tree.free_ok (by kernel_rfl)) (λ_ X=>by kernel_rfl)
def Qej(n:Q0p)(port:Int):Tree Int:=
.br (port==7) (.lf n.B4) (.br (port==8) (.lf n.F2) (.br (port==9) (.br n.C6 (.br n.B8 (.lf (wrap u32 ((1:Int)+(2:Int)))) (.lf 1)) (.br n.B8 (.lf (wrap u32 ((0:Int)+(2:Int)))) (.lf 0))) (.lf 0)))
def Qg6(n:Q0p)(port:Int):Int:=(Qej n port).m
def Za3:Q0c:=mkR 199 [] true [.agg Q0p.sig, .one (.int .i64)] [] (λargs rows=>Qg6 (Q0p.of (args.getD 0 .dead).cells) (argI args 1)) (λX=> .int .u32 X) (λX=>[])
theorem Qr4:Q05 Tryz.prog Za3:=Q0z Q0k Q0l (.nil) Tryz.func199 Tryz.call199 (λargs rows=>Qej (Q0p.of (args.getD 0 .dead).cells) (argI args 1)) [] [] 2 (λ_ _ _=>by kernel_rfl) (λ_ _=>rfl) (λ_ _=>Tree.free_ok (by kernel_rfl)) (λ_ X=>by kernel_rfl)
def Q5q(b:Q07)(port:Int):Tree Int:=
.br (port==10) (.lf b.C9) (.br (port==11) (.lv (Qdf b) λ(x0:Int)=> .lf (wrap u32 x0)) (.lf 0))
def Q4u(b:Q07)(port:Int):Int:=(Q5q b port).m
def Qwy:Q0c:=mkR 200 [] true [.agg Q07.sig, .one (.int .i64)] [] (λargs rows=>Q4u (Q07.of (args.getD 0 .dead).cells) (argI args 1)) (λX=> .int .u32 X) (λX=>[])
theorem Qjc:Q05 Tryz.prog Qwy:=Q0z Q0k Q0l (.cons Qr1 (.nil)) Tryz.func200 Tryz.call200 (λargs rows=>Q5q (Q07.of (args.getD 0 .dead).cells) (argI args 1)) [] [] 2 (λ_ _ _=>by kernel_rfl) (λ_ _=>rfl) (λ_ _=>Tree.free_ok (by kernel_rfl)) (λ_ X=>by kernel_rfl)
def Qk3(m:Q00)(port:Int)(clock:Int):Tree (Int×Q00):=
.br (decide (port≤1)) (.lv (Q4x m.A3 port) λ(x0:Q0b×Int)=> .lf (x0.2,{B3:=m.B3,Mem:=m.Mem,A3:=x0.1,B0:=m.B0,B1:=m.B1,C5:=m.C5,A2:=m.A2,A1:=m.A1,A6:=m.A6,A7:=m.A7})) (.br (port==2) (.lf (clock,m)) (.br (port==3) (.lv (Qeo m.B0) λ(x1:Int)=> .lf (x1,m)) (.br (decide (port≤6)) (.lv (Qgj m.B1 port) λ(x2:Int)=> .lf (x2,m)) (.br (decide (port≤9)) (.lv (Qg6 m.C5 port) λ(x3:Int)=> .lf (x3,m)) (.lv (Q4u m.A2 port) λ(x4:Int)=> .lf (x4,m))))))
def Qc7(m:Q00)(port:Int)(clock:Int):(Int×Q00):=(Qk3 m port clock).m
def ref7_in_m:Q0c:=mkR 140 [true,false,false] true [.ptr 0, .one (.int .i64), .one (.int .u32)] [.box 41 49 (Q00.sigW (.row 1)), .arr 23 1 (.ints .u32)] (λargs rows=>Qc7 (Q00.ofW (rows.getD 0 default).cs (rowL .u32 rows 1)) (argI args 1) (argI args 2)) (λX=> .int .u32 (X.1)) (λX=>[⟨true,41,49, .gen [(Q00.cellsW (X.2) (.all 1))]⟩,⟨false,23,1, .ints .u32 (X.2).Mem⟩])
theorem Zk4:Q05 Tryz.prog ref7_in_m:=Q0z Q0k Q0l (.cons Qka (.cons Qm3 (.cons Qpk (.cons Qr4 (.cons Qjc (.nil)))))) Tryz.func140 Tryz.call140 (λargs rows=>Qk3 (Q00.ofW (rows.getD 0 default).cs (rowL .u32 rows 1)) (argI args 1) (argI args 2)) [.row 23 1 (.ints .u32)] [] 2 (λ_ _ _=>by kernel_rfl) (λ_ _=>rfl) (λ_ _=>Tree.free_ok (by kernel_rfl)) (λ_ X=>by kernel_rfl)
def Qu1(deadline:Int):Tree Q0g:=
.br (deadline==0) (.lf ({D2:=false,D0:=0,D6:=false})) (.lf ({D2:=true,D0:=deadline,D6:=false}))
def Qrm(deadline:Int):Q0g:=(Qu1 deadline).m
def Zit:Q0c:=mkR 201 [] true [.one (.int .u32)] [] (λargs rows=>Qrm (argI args 0)) (λX=> .agg (Q0g.cells X)) (λX=>[])
theorem Z1e:Q05 Tryz.prog Zit:=Q0z Q0k Q0l (.nil) Tryz.func201 Tryz.call201 (λargs rows=>Qu1 (argI args 0)) [] [] 2 (λ_ _ _=>by kernel_rfl) (λ_ _=>rfl) (λ_ _=>Tree.free_ok (by kernel_rfl)) (λ_ X=>by kernel_rfl)
def Qs4(x:Int)(n:Int)(z:(Int)×(List Int)):Prop:=0≤z.1∧(z.2.length:Int)=z.1∧(z.1≤n∨z.1=0)
def Qdu(x:Int)(n:Int)(z:(Int)×(List Int)):Nat:=(n-z.1).toNat
def Qg9(x:Int)(n:Int):Tree (List UInt8):=
.lp inferInstance (Qdu x n (0,[])+1) ((rE (x:Int)∧rE (n:Int)∧True∧rE (0:Int)∧True)∧rE ([]:List Int)∧True) (0,[]) λ(v0:Int×List Int)=> .br (decide (v0.1<n)) (.cn (decide (0≤wrap u64 (wrap i64 (8*v0.1)))) (.cn (decide (1*(v0.2.length+1)≤140737488355328)) (.nx ((rE (x:Int)∧rE (n:Int)∧True∧rE ((wrap i64 (v0.1+1)):Int)∧True)∧rE ((v0.2++[wrap u8 (ishr u32 x (wrap u64 (wrap i64 (8*v0.1))))]):List Int)∧True) (Sum.inl (wrap i64 (v0.1+1),v0.2++[wrap u8 (ishr u32 x (wrap u64 (wrap i64 (8*v0.1))))]))))) (.lf (Sum.inr (bytesOf v0.2)))
def Z7o(x:Int)(n:Int):(List UInt8):=(Qg9 x n).m
def Qii(x:Int)(n:Int):Prop:=
n≤1000000000000
theorem Zd1(x:Int)(n:Int)(hw:Qii x n):(Qg9 x n).p:=by
 simp only[Qii]at hw
 unfold Tree.p Qg9
 repeat'(first|refine w_lp (inv:=Qs4 x n) (μ:=Qdu x n) ?_ (Nat.lt_succ_self _) (λ_ _=> ?_)|exact trivial|refine w_br (λ_=> ?_) (λ_=> ?_)|refine w_cn ?_ ?_|refine w_an ?_ ?_|refine w_lv (λ_ _=> ?_)|refine w_nx ?_|refine w_lf ?_|refine And.intro ?_ ?_)
 all_goals((try simp only[Qs4,Qdu]at*);((subst_vars;first|trivial|assumption|omega|((simp(config:={decide:=true,failIfUnchanged:=false}) only[Bool.and_eq_true,Bool.or_eq_true,Bool.and_eq_false_iff,Bool.or_eq_false_iff,Bool.not_eq_true',Bool.not_eq_false',Bool.not_eq_true,Bool.not_eq_false,decide_eq_true_eq,decide_eq_false_iff_not,Q69,Q4c,Q6a,Q47,beq_iff_eq,beq_eq_false_iff_ne,bne_iff_ne,bne_eq_false_iff_eq,ne_eq,List.all_cons,List.all_nil,D.plain,List.length_cons,List.length_nil,List.length_append,List.length_set,List.length_replicate,IntKind.wrap_i64,IntKind.wrap_u64,IntKind.wrap_u32,IntKind.wrap_i32,IntKind.wrap_u8,true_and,and_true,or_false,false_or,or_true,true_or,not_true_eq_false,not_false_eq_true,Prod.fst,Prod.snd]at*);first|done|assumption|omega)|((simp(config:={decide:=true,failIfUnchanged:=false}) only[Bool.and_eq_true,Bool.or_eq_true,Bool.and_eq_false_iff,Bool.or_eq_false_iff,Bool.not_eq_true',Bool.not_eq_false',Bool.not_eq_true,Bool.not_eq_false,decide_eq_true_eq,decide_eq_false_iff_not,Q69,Q4c,Q6a,Q47,beq_iff_eq,beq_eq_false_iff_ne,bne_iff_ne,bne_eq_false_iff_eq,ne_eq,List.all_cons,List.all_nil,D.plain,List.length_cons,List.length_nil,List.length_append,List.length_set,List.length_replicate,IntKind.wrap_i64,IntKind.wrap_u64,IntKind.wrap_u32,IntKind.wrap_i32,IntKind.wrap_u8,true_and,and_true,or_false,false_or,or_true,true_or,not_true_eq_false,not_false_eq_true,Prod.fst,Prod.snd]at*);simp only[←List.length_pos_iff]at*;omega)|(simp_all;done)|(have:= @Qiw;simp_all;try omega))))
def Ze2:LInv:={
 α:=(Int)×(List Int)
 F:=λst a=>([(0,(lk st 0)),(1,(lk st 1)),(5, .all 0),(6, .int i64 a.1)],[⟨false,5,1, .ints u8 a.2⟩])
 a0:=λst=>((lk st 6).toInt,(Q49 st.rows (rN st 5)))
 ex0:=λst=>[]++[(Q0o (lk st 5) (st.rows.length+0))]
 next:=λst=>((lk st 6).toInt,(Q49 st.rows (rN st 5)))
 ex:=λst=>[]++[(Q0o (lk st 5) (st.rows.length+0))]}
def Z89:List (Nat×LInv):=[(3,Ze2)]
def Zj3:Q0c:=mkP 268 [] true [.one (.int .u32), .one (.int .i64)] [] (λargs rows=>Qii (argI args 0) (argI args 1)) (λargs rows=>Z7o (argI args 0) (argI args 1)) (λX=> .str X) (λX=>[])
theorem Zfg:Q05 Tryz.prog Zj3:=Q0n Q0k Q0l (.nil) Tryz.func268 Tryz.call268 (λargs rows=>Qg9 (argI args 0) (argI args 1)) [] Z89 3 (λ_ _ _=>by kernel_rfl) (λ_ _=>rfl) (λargs rows h=>Zd1 (argI args 0) (argI args 1) h) (λ_ X=>by kernel_rfl)
def Qhu(m:(List Int))(frame:Int)(z:(Int)×(List Int)):Nat:=(32-z.1).toNat
def Q98(m:(List Int))(frame:Int):Tree ((List UInt8)×Bool):=
.br (decide (frame<0)) (.lf ([],false)) (.lv (Q3d m) λ(x0:Int)=> .br (decide (frame≥x0)) (.lf ([],false)) (.lp inferInstance (Qhu m frame (0,[])+1) ((((Els.Nil (Els.ints u32 m)∨rE (1:Nat))∧rE (m:List Int))∧rE (frame:Int)∧True∧rE (0:Int)∧True)∧rE ([]:List Int)∧True) (0,[]) λ(v0:Int×List Int)=> .br (decide (v0.1<32)) (.cn (Nat.beq 1 1&&Nat.blt 0 1&&decide (0≤wrap i64 (wrap i64 (frame*32)+v0.1)∧wrap i64 (wrap i64 (frame*32)+v0.1)<(m.length:Int))) (let E1:=m.getD (Int.toNat (wrap i64 (wrap i64 (frame*32)+v0.1))) 0; .an (Qii E1 4) (.lv (Z7o E1 4) λ(x1:List UInt8)=> .cn (decide (1*(v0.2.length+List.length (Q8y x1))≤140737488355328)) (.nx ((((Els.Nil (Els.ints u32 m)∨rE (1:Nat))∧rE (m:List Int))∧rE (frame:Int)∧True∧rE ((wrap i64 (v0.1+1)):Int)∧True)∧rE ((v0.2++Q8y x1):List Int)∧True) (Sum.inl (wrap i64 (v0.1+1),v0.2++Q8y x1)))))) (.lf (Sum.inr (bytesOf v0.2,true)))))
def Qhd(m:(List Int))(frame:Int):((List UInt8)×Bool):=(Q98 m frame).m
abbrev Qg1(m:(List Int))(frame:Int):Prop:=(Q98 m frame).p
def Zbs:LInv:={
 α:=(Int)×(List Int)
 F:=λst a=>([(0,(lk st 0)),(1,(lk st 1)),(6, .all 0),(7, .int i64 a.1)],[⟨false,5,1, .ints u8 a.2⟩])
 a0:=λst=>((lk st 7).toInt,(Q49 st.rows (rN st 6)))
 ex0:=λst=>[]++[(Q0o (lk st 6) (st.rows.length+0))]
 next:=λst=>((lk st 7).toInt,(Q49 st.rows (rN st 6)))
 ex:=λst=>[]++[(Q0o (lk st 6) (st.rows.length+0))]}
def Z24:List (Nat×LInv):=[(5,Zbs)]
def Zg2:Q0c:=mkP 247 [] true [.one (.ints .u32), .one (.int .i64)] [] (λargs rows=>Qg1 (argL .u32 args 0) (argI args 1)) (λargs rows=>Qhd (argL .u32 args 0) (argI args 1)) (λX=> .tup [.str (X.1), .bool (X.2)]) (λX=>[])
theorem Qvm:Q05 Tryz.prog Zg2:=Q0n Q0k Q0l (.cons Qch (.cons Zfg (.nil))) Tryz.func247 Tryz.call247 (λargs rows=>Q98 (argL .u32 args 0) (argI args 1)) [] Z24 3 (λ_ _ _=>by kernel_rfl) (λ_ _=>rfl) (λ_ _ h=>h) (λ_ X=>by kernel_rfl)
def Qdw(d0:Q0d)(at0:Int):Tree (Q03×Bool):=
.br (d0.C0 !=1) (.lf ({B5:=0,At:=0,B9:=0,C8:=[]},false)) (.br (d0.D8==1) (.lf ({B5:=3,At:=at0,B9:=d0.B7,C8:=[]},true)) (.br (d0.D8==2) (.lf ({B5:=4,At:=at0,B9:=d0.B7,C8:=d0.C3},true)) (.lf ({B5:=0,At:=0,B9:=0,C8:=[]},false))))
def Qes(d0:Q0d)(at0:Int):(Q03×Bool):=(Qdw d0 at0).m
def Z3a:Q0c:=mkR 248 [] true [.agg Q0d.sig, .one (.int .u64)] [] (λargs rows=>Qes (Q0d.of (args.getD 0 .dead).cells) (argI args 1)) (λX=> .tup [.agg (Q03.cells (X.1)), .bool (X.2)]) (λX=>[])
theorem Z1f:Q05 Tryz.prog Z3a:=Q0z Q0k Q0l (.nil) Tryz.func248 Tryz.call248 (λargs rows=>Qdw (Q0d.of (args.getD 0 .dead).cells) (argI args 1)) [] [] 2 (λ_ _ _=>by kernel_rfl) (λ_ _=>rfl) (λ_ _=>Tree.free_ok (by kernel_rfl)) (λ_ X=>by kernel_rfl)
def Q4v(d0:Q0d)(m:(List Int))(port:Int)(v:Int)(at0:Int):Tree (Q0d×(List Q03)):=
.br (port==4) (.lf ({Blocks:=d0.Blocks,B9:=v,B4:=d0.B4,C0:=d0.C0,D8:=d0.D8,B7:=d0.B7,B2:=d0.B2,C3:=d0.C3},[])) (.br (port==5) (.lf ({Blocks:=d0.Blocks,B9:=d0.B9,B4:=v,C0:=d0.C0,D8:=d0.D8,B7:=d0.B7,B2:=d0.B2,C3:=d0.C3},[])) (.br (port !=6) (.lf (d0,[])) (let T1:Tree ((Q0d×(List Q03))):= .br (d0.C0==0) (let T2:Tree ((Q0d×(List Q03))):= .lf ({Blocks:=d0.Blocks,B9:=d0.B9,B4:=d0.B4,C0:=3,D8:=d0.D8,B7:=d0.B7,B2:=d0.B2,C3:=d0.C3},[]); .br (decide (d0.B9≥d0.Blocks)) T2 (.lv (Q2 m d0.B4) λ(x0:Bool)=> .br (!x0) T2 (.br (v==2) (.an (Qg1 m (wrap i64 d0.B4)) (.lv (Qhd m (wrap i64 d0.B4)) λ(x1:List UInt8×Bool)=>let E4:=({Blocks:=d0.Blocks,B9:=d0.B9,B4:=d0.B4,C0:=1,D8:=wrap i64 v,B7:=d0.B9,B2:=d0.B4,C3:=x1.1}:Q0d); .lv (Qes E4 at0) λ(x2:Q03×Bool)=> .lf (E4,[x2.1]))) (let E5:=({Blocks:=d0.Blocks,B9:=d0.B9,B4:=d0.B4,C0:=1,D8:=wrap i64 v,B7:=d0.B9,B2:=d0.B4,C3:=[]}:Q0d); .lv (Qes E5 at0) λ(x3:Q03×Bool)=> .lf (E5,[x3.1]))))) (.lf (d0,[])); .br (v==0) (let T3:Tree ((Q0d×(List Q03))):= .lf ({Blocks:=d0.Blocks,B9:=d0.B9,B4:=d0.B4,C0:=0,D8:=d0.D8,B7:=d0.B7,B2:=d0.B2,C3:=d0.C3},[]); .br (d0.C0==2) T3 (.br (d0.C0==3) T3 (.br (v==1) T1 (.br (v==2) T1 (.lf (d0,[])))))) (.br (v==1) T1 (.br (v==2) T1 (.lf (d0,[])))))))
def Qbd(d0:Q0d)(m:(List Int))(port:Int)(v:Int)(at0:Int):(Q0d×(List Q03)):=(Q4v d0 m port v at0).m
abbrev Qf(d0:Q0d)(m:(List Int))(port:Int)(v:Int)(at0:Int):Prop:=(Q4v d0 m port v at0).p
def Z3:Q0c:=mkP 202 [] true [.agg Q0d.sig, .one (.ints .u32), .one (.int .i64), .one (.int .u32), .one (.int .u64)] [] (λargs rows=>Qf (Q0d.of (args.getD 0 .dead).cells) (argL .u32 args 1) (argI args 2) (argI args 3) (argI args 4)) (λargs rows=>Qbd (Q0d.of (args.getD 0 .dead).cells) (argL .u32 args 1) (argI args 2) (argI args 3) (argI args 4)) (λX=> .tup [.agg (Q0d.cells (X.1)), .sl 4 (.recs .apiOutput (X.2)) true]) (λX=>[])
theorem Qno:Q05 Tryz.prog Z3:=Q0n Q0k Q0l (.cons Qe3 (.cons Qvm (.cons Z1f (.nil)))) Tryz.func202 Tryz.call202 (λargs rows=>Q4v (Q0d.of (args.getD 0 .dead).cells) (argL .u32 args 1) (argI args 2) (argI args 3) (argI args 4)) [.sl (.recs .apiOutput) true] [] 2 (λ_ _ _=>by kernel_rfl) (λ_ _=>rfl) (λ_ _ h=>h) (λ_ X=>by kernel_rfl)
def Q67(n:Q0p)(m:(List Int))(port:Int)(v:Int)(at0:Int):Tree (Q0p×(List Q03)):=
.br (port==7) (.lf ({B4:=v,F0:=n.F0,C6:=n.C6,C1:=n.C1,B8:=n.B8,F2:=n.F2},[])) (.br (port==8) (.lf ({B4:=n.B4,F0:=v,C6:=n.C6,C1:=n.C1,B8:=n.B8,F2:=n.F2},[])) (.br (port !=9) (.lf (n,[])) (.br (v==0) (.lf ({B4:=n.B4,F0:=n.F0,C6:=n.C6,C1:=n.C1,B8:=false,F2:=0},[])) (let T1:Tree ((Q0p×(List Q03))):= .br (v==2) (.lv (Q2 m n.B4) λ(x2:Bool)=> .br x2 (.br (!n.C6) (.br (!n.B8) (.lf ({B4:=n.B4,F0:=n.F0,C6:=true,C1:=n.B4,B8:=n.B8,F2:=n.F2},[])) (.lf (n,[]))) (.lf (n,[]))) (.lf (n,[]))) (.lf (n,[])); .br (v==1) (.br (decide (n.F0≥1)) (.br (decide (n.F0≤128)) (.lv (Q2 m n.B4) λ(x0:Bool)=> .br x0 (.an (Qg1 m (wrap i64 n.B4)) (.lv (Qhd m (wrap i64 n.B4)) λ(x1:List UInt8×Bool)=> .cn (decide ((0:Int)≤(0:Int)∧0≤n.F0∧n.F0≤(x1.1.length:Int))) (.lf (n,[{B5:=2,At:=at0,B9:=0,C8:=List.take (Int.toNat n.F0-Int.toNat 0) (List.drop (Int.toNat 0) x1.1)}])))) T1) T1) T1) T1))))
def Qco(n:Q0p)(m:(List Int))(port:Int)(v:Int)(at0:Int):(Q0p×(List Q03)):=(Q67 n m port v at0).m
abbrev Qhz(n:Q0p)(m:(List Int))(port:Int)(v:Int)(at0:Int):Prop:=(Q67 n m port v at0).p
def Z7:Q0c:=mkP 203 [] true [.agg Q0p.sig, .one (.ints .u32), .one (.int .i64), .one (.int .u32), .one (.int .u64)] [] (λargs rows=>Qhz (Q0p.of (args.getD 0 .dead).cells) (argL .u32 args 1) (argI args 2) (argI args 3) (argI args 4)) (λargs rows=>Qco (Q0p.of (args.getD 0 .dead).cells) (argL .u32 args 1) (argI args 2) (argI args 3) (argI args 4)) (λX=> .tup [.agg (Q0p.cells (X.1)), .sl 4 (.recs .apiOutput (X.2)) true]) (λX=>[])
theorem Qp1:Q05 Tryz.prog Z7:=Q0n Q0k Q0l (.cons Qe3 (.cons Qvm (.nil))) Tryz.func203 Tryz.call203 (λargs rows=>Q67 (Q0p.of (args.getD 0 .dead).cells) (argL .u32 args 1) (argI args 2) (argI args 3) (argI args 4)) [.sl (.recs .apiOutput) true] [] 2 (λ_ _ _=>by kernel_rfl) (λ_ _=>rfl) (λ_ _ h=>h) (λ_ X=>by kernel_rfl)
def Qgr(b:Q07)(m:(List Int))(port:Int)(v:Int)(z:(Int)×(List Int)):Nat:=(32-z.1).toNat
def Q4g(b:Q07)(m:(List Int))(port:Int)(v:Int):Tree (Q07×(List Int)):=
let T1:Tree ((Q07×(List Int))):= .br (port==11) (.br (decide (v<32)) (.cn (decide (0≤v)) (.lf ({C9:=b.C9,C2:=Qfg u32 b.C2 (ishl u32 1 v)},m))) (.lf (b,m))) (.lf (b,m)); .br (port==10) (.lv (Q2 m v) λ(x0:Bool)=> .br x0 (.cn (decide (0≤v)) (.br (iand u32 (ishr u32 b.C2 v) (1:Int)==(0:Int)) (.cn (decide (0≤v)) (.lp inferInstance (Qgr b m port v (0,m)+1) ((True∧rE (v:Int)∧(rE (0:Nat)∧rE (0:Nat))∧(rE (0:Nat)∧rE (0:Nat))∧rE (0:Int)∧True)∧rE (m:List Int)∧(rE b.C9∧rE ((ior u32 b.C2 (ishl u32 1 v)):Int)∧True)∧(rE (0:Int)∧rE (0:Int)∧True)∧True) (0,m) λ(v0:Int×List Int)=> .br (decide (v0.1<32)) (let E2:=wrap i64 (wrap i64 v*32)+v0.1; .cn (Nat.beq 1 1&&Nat.blt 0 1&&decide (0≤wrap i64 E2∧wrap i64 E2<(v0.2.length:Int))) (.nx ((True∧rE (v:Int)∧(rE (0:Nat)∧rE (0:Nat))∧(rE (0:Nat)∧rE (0:Nat))∧rE ((wrap i64 (v0.1+1)):Int)∧True)∧rE ((List.set v0.2 (Int.toNat (wrap i64 (wrap i64 (wrap i64 v*32)+v0.1))) 0):List Int)∧(rE b.C9∧rE ((ior u32 b.C2 (ishl u32 1 v)):Int)∧True)∧(rE (0:Int)∧rE (0:Int)∧True)∧True) (Sum.inl (wrap i64 (v0.1+1),List.set v0.2 (Int.toNat (wrap i64 E2)) 0)))) (.lf (Sum.inr ({C9:=b.C9,C2:=ior u32 b.C2 (ishl u32 1 v)},v0.2))))) T1)) T1) T1
def Q5v(b:Q07)(m:(List Int))(port:Int)(v:Int):(Q07×(List Int)):=(Q4g b m port v).m
abbrev Ql0(b:Q07)(m:(List Int))(port:Int)(v:Int):Prop:=(Q4g b m port v).p
def Zb8:LInv:={
 α:=(Int)×(List Int)
 F:=λst a=>([(1, .all 0),(3,(lk st 3)),(4, .ptr 1 0 0),(8, .ptr 2 0 0),(9, .int i64 a.1)],[⟨false,23,1, .ints u32 a.2⟩,⟨true,38,2, .gen [[(cT st 4 0),(cT st 4 1)]]⟩,⟨true,38,2, .gen [[(cT st 8 0),(cT st 8 1)]]⟩])
 a0:=λst=>((lk st 9).toInt,(Q49 st.rows 0))
 ex0:=λst=>[0]++[(Q0o (lk st 4) (st.rows.length+1)),(Q0o (lk st 8) (st.rows.length+2))]
 next:=λst=>((lk st 9).toInt,(Q49 st.rows 0))
 ex:=λst=>[0]++[(Q0o (lk st 4) (st.rows.length+1)),(Q0o (lk st 8) (st.rows.length+2))]}
def Z1q:List (Nat×LInv):=[(4,Zb8)]
def Zfn:Q0c:=mkP 204 [false,true,false,false] true [.agg Q07.sig, .one (.row 0), .one (.int .i64), .one (.int .u32)] [.arr 23 1 (.ints .u32)] (λargs rows=>Ql0 (Q07.of (args.getD 0 .dead).cells) (rowL .u32 rows 0) (argI args 2) (argI args 3)) (λargs rows=>Q5v (Q07.of (args.getD 0 .dead).cells) (rowL .u32 rows 0) (argI args 2) (argI args 3)) (λX=> .agg (Q07.cells (X.1))) (λX=>[⟨false,23,1, .ints .u32 (X.2)⟩])
theorem Qvi:Q05 Tryz.prog Zfn:=Q0n Q0k Q0l (.cons Qe3 (.nil)) Tryz.func204 Tryz.call204 (λargs rows=>Q4g (Q07.of (args.getD 0 .dead).cells) (rowL .u32 rows 0) (argI args 2) (argI args 3)) [] Z1q 3 (λ_ _ _=>by kernel_rfl) (λ_ _=>rfl) (λ_ _ h=>h) (λ_ X=>by kernel_rfl)
def Q9m(m:Q00)(port:Int)(v:Int):Tree ((List Q03)×Q00):=
.br (port==0) (.lf ([{B5:=1,At:=m.A1,B9:=0,C8:=[(λ(n:Int)=>UInt8.ofNat n.toNat) (wrap u8 v)]}],m)) (.br (decide (port≤2)) (.lf ([],m)) (.br (port==3) (.lv (Qrm v) λ(x0:Q0g)=> .lf ([],{B3:=m.B3,Mem:=m.Mem,A3:=m.A3,B0:=x0,B1:=m.B1,C5:=m.C5,A2:=m.A2,A1:=m.A1,A6:=m.A6,A7:=m.A7})) (.br (decide (port≤6)) (.an (Qf m.B1 m.Mem port v m.A1) (.lv (Qbd m.B1 m.Mem port v m.A1) λ(x1:Q0d×List Q03)=> .lf (x1.2,{B3:=m.B3,Mem:=m.Mem,A3:=m.A3,B0:=m.B0,B1:=x1.1,C5:=m.C5,A2:=m.A2,A1:=m.A1,A6:=m.A6,A7:=m.A7}))) (.br (decide (port≤9)) (.an (Qhz m.C5 m.Mem port v m.A1) (.lv (Qco m.C5 m.Mem port v m.A1) λ(x2:Q0p×List Q03)=> .lf (x2.2,{B3:=m.B3,Mem:=m.Mem,A3:=m.A3,B0:=m.B0,B1:=m.B1,C5:=x2.1,A2:=m.A2,A1:=m.A1,A6:=m.A6,A7:=m.A7}))) (.an (Ql0 m.A2 m.Mem port v) (.lv (Q5v m.A2 m.Mem port v) λ(x3:Q07×List Int)=> .lf ([],{B3:=m.B3,Mem:=x3.2,A3:=m.A3,B0:=m.B0,B1:=m.B1,C5:=m.C5,A2:=x3.1,A1:=m.A1,A6:=m.A6,A7:=m.A7})))))))
def Q8f(m:Q00)(port:Int)(v:Int):((List Q03)×Q00):=(Q9m m port v).m
abbrev Qw7(m:Q00)(port:Int)(v:Int):Prop:=(Q9m m port v).p
def Zkr:Q0c:=mkP 142 [true,false,false] true [.ptr 0, .one (.int .i64), .one (.int .u32)] [.box 41 49 (Q00.sigW (.row 1)), .arr 23 1 (.ints .u32)] (λargs rows=>Qw7 (Q00.ofW (rows.getD 0 default).cs (rowL .u32 rows 1)) (argI args 1) (argI args 2)) (λargs rows=>Q8f (Q00.ofW (rows.getD 0 default).cs (rowL .u32 rows 1)) (argI args 1) (argI args 2)) (λX=> .sl 4 (.recs .apiOutput (X.1)) true) (λX=>[⟨true,41,49, .gen [(Q00.cellsW (X.2) (.all 1))]⟩,⟨false,23,1, .ints .u32 (X.2).Mem⟩])
theorem Zeh:Q05 Tryz.prog Zkr:=Q0n Q0k Q0l (.cons Z1e (.cons Qno (.cons Qp1 (.cons Qvi (.nil))))) Tryz.func142 Tryz.call142 (λargs rows=>Q9m (Q00.ofW (rows.getD 0 default).cs (rowL .u32 rows 1)) (argI args 1) (argI args 2)) [.sl (.recs .apiOutput) true, .row 23 1 (.ints .u32)] [] 2 (λ_ _ _=>by kernel_rfl) (λ_ _=>rfl) (λ_ _ h=>h) (λ_ X=>by kernel_rfl)
def Q82(m:Q00)(clock:Int):Tree ((List Q03)×Q00):=
.an (Q6j m) (.lv (Q0j m) λ(x0:Q04)=> .an (Qq8 x0 m.Mem) (.lv (Q6c x0 m.Mem) λ(x1:Q04×Q11×List Int)=>let E1:=({B3:=x1.1,Mem:=x1.2.2,A3:=m.A3,B0:=m.B0,B1:=m.B1,C5:=m.C5,A2:=m.A2,A1:=m.A1,A6:=false,A7:=m.A7}:Q00); .br (x1.2.1.B5==1) (.lv (Qc7 E1 x1.2.1.D1 clock) λ(x2:Int×Q00)=> .an (Q2r x2.2.B3 x1.2.1.E0 x2.1) (.lv (Q1p x2.2.B3 x1.2.1.E0 x2.1) λ(x3:Q04)=> .lf ([],{B3:=x3,Mem:=x2.2.Mem,A3:=x2.2.A3,B0:=x2.2.B0,B1:=x2.2.B1,C5:=x2.2.C5,A2:=x2.2.A2,A1:=wrap u64 (x2.2.A1+1),A6:=x2.2.A6,A7:=x2.2.A7}))) (.br (x1.2.1.B5==2) (.an (Qw7 E1 x1.2.1.D1 x1.2.1.Value) (.lv (Q8f E1 x1.2.1.D1 x1.2.1.Value) λ(x4:List Q03×Q00)=> .lf (x4.1,{B3:=x4.2.B3,Mem:=x4.2.Mem,A3:=x4.2.A3,B0:=x4.2.B0,B1:=x4.2.B1,C5:=x4.2.C5,A2:=x4.2.A2,A1:=wrap u64 (x4.2.A1+1),A6:=x4.2.A6,A7:=x4.2.A7}))) (.br (x1.2.1.B5==3) (.lf ([],{B3:=x1.1,Mem:=x1.2.2,A3:=m.A3,B0:=m.B0,B1:=m.B1,C5:=m.C5,A2:=m.A2,A1:=wrap u64 (m.A1+1),A6:=true,A7:=m.A7})) (.br (x1.2.1.B5==4) (.lf ([],{B3:=x1.1,Mem:=x1.2.2,A3:=m.A3,B0:=m.B0,B1:=m.B1,C5:=m.C5,A2:=m.A2,A1:=wrap u64 (m.A1+1),A6:=false,A7:=true})) (.lf ([],{B3:=x1.1,Mem:=x1.2.2,A3:=m.A3,B0:=m.B0,B1:=m.B1,C5:=m.C5,A2:=m.A2,A1:=wrap u64 (m.A1+1),A6:=false,A7:=m.A7})))))))
def Q0a(m:Q00)(clock:Int):((List Q03)×Q00):=(Q82 m clock).m
abbrev Qlf(m:Q00)(clock:Int):Prop:=(Q82 m clock).p
def Z2e:Q0c:=mkP 70 [true,false] true [.ptr 0, .one (.int .u32)] [.box 41 49 (Q00.sigW (.row 1)), .arr 23 1 (.ints .u32)] (λargs rows=>Qlf (Q00.ofW (rows.getD 0 default).cs (rowL .u32 rows 1)) (argI args 1)) (λargs rows=>Q0a (Q00.ofW (rows.getD 0 default).cs (rowL .u32 rows 1)) (argI args 1)) (λX=> .sl 4 (.recs .apiOutput (X.1)) true) (λX=>[⟨true,41,49, .gen [(Q00.cellsW (X.2) (.all 1))]⟩,⟨false,23,1, .ints .u32 (X.2).Mem⟩])
theorem Qyn:Q05 Tryz.prog Z2e:=Q0n Q0k Q0l (.cons Qau (.cons Z55 (.cons Zk4 (.cons Qdj (.cons Zeh (.nil)))))) Tryz.func70 Tryz.call70 (λargs rows=>Q82 (Q00.ofW (rows.getD 0 default).cs (rowL .u32 rows 1)) (argI args 1)) [.sl (.recs .apiOutput) true, .row 23 1 (.ints .u32)] [] 2 (λ_ _ _=>by kernel_rfl) (λ_ _=>rfl) (λ_ _ h=>h) (λ_ X=>by kernel_rfl)
end
end Go.Proofs.YtjaifpiopmhmlaaGreat

/-
  Functions of the program: models, and that its calls come to them (by a program: gen3.py).
-/
import Derived.Test.YtmalmklaonainaaGreatPrecopyCopiesBase
import Derived.Test.YtmalmklaonainaaGreatPrecopyCopiesZa
import Derived.Test.YtmalmklaonainaaGreatPrecopyCopiesZb
set_option maxRecDepth 100000
set_option linter.unusedVariables false
set_option linter.unusedSimpArgs false
namespace Go.Proofs.YtmalmklaonainaaGreat
open Go Go.GD Go.IntKind
noncomputable section
def Q9b(m:Q00)(z:(Int)):Nat:=(32-z).toNat
def Q3i(m:Q00):Tree Q02:=
.an (Qb9 m) (.lv (Qj m) λ(x0:Int)=> .br (iand u32 m.B1.B5.a0 (2:Int)==(0:Int)) (.lf m.B1) (.br (x0==0) (.lf m.B1) (.lp inferInstance (Q9b m 0+1) (((rE (0:Nat)∧rE (0:Nat))∧(rE (0:Nat)∧rE (0:Nat))∧rE (x0:Int)∧rE (0:Int)∧True)∧(mE m (((Els.Nil (Els.ints u32 m.Mem)∨rE (1:Nat))∧rE m.Mem)) True)∧(rE (0:Int)∧rE (0:Int)∧rE (0:Int)∧rE (0:Int)∧rE (0:Int)∧rE (0:Int)∧rE (0:Int)∧rE (0:Int)∧rE (0:Int)∧rE (0:Int)∧rE (0:Int)∧rE (0:Int)∧rE (0:Int)∧rE (0:Int)∧rE (0:Int)∧rE (0:Int)∧rE (0:Int)∧rE (0:Int)∧rE (0:Int)∧rE (0:Int)∧rE (0:Int)∧rE (0:Int)∧rE (0:Int)∧rE (0:Int)∧rE (0:Int)∧True)∧True) 0 λ(v0:Int)=> .cn (decide (0≤wrap u64 v0)) (.br (iand u32 (ishr u32 x0 (wrap u64 v0)) (1:Int)==(0:Int)) (.nx (((rE (0:Nat)∧rE (0:Nat))∧(rE (0:Nat)∧rE (0:Nat))∧rE (x0:Int)∧rE ((wrap i64 (v0+1)):Int)∧True)∧(mE m (((Els.Nil (Els.ints u32 m.Mem)∨rE (1:Nat))∧rE m.Mem)) True)∧(rE (0:Int)∧rE (0:Int)∧rE (0:Int)∧rE (0:Int)∧rE (0:Int)∧rE (0:Int)∧rE (0:Int)∧rE (0:Int)∧rE (0:Int)∧rE (0:Int)∧rE (0:Int)∧rE (0:Int)∧rE (0:Int)∧rE (0:Int)∧rE (0:Int)∧rE (0:Int)∧rE (0:Int)∧rE (0:Int)∧rE (0:Int)∧rE (0:Int)∧rE (0:Int)∧rE (0:Int)∧rE (0:Int)∧rE (0:Int)∧rE (0:Int)∧True)∧True) (Sum.inl (wrap i64 (v0+1)))) (.lv (Q5l m.B1 (wrap i64 (16+v0)) 0) λ(x1:Q02)=> .lf (Sum.inr x1))))))
def Qba(m:Q00):Q02:=(Q3i m).m
abbrev Q6e(m:Q00):Prop:=(Q3i m).p
def Qmx:LInv:={
 α:=(Int)
 F:=λst a=>([(1, .ptr 0 0 0),(2, .ptr 1 0 0),(3,(lk st 3)),(4, .int i64 a)],[⟨true,43,49, .gen [[(cT st 1 0),(cT st 1 1),(cT st 1 2),(cT st 1 3),(cT st 1 4),(cT st 1 5),(cT st 1 6),(cT st 1 7),(cT st 1 8),(cT st 1 9),(cT st 1 10),(cT st 1 11),(cT st 1 12),(cT st 1 13),(cT st 1 14),(cT st 1 15),(cT st 1 16),(cT st 1 17),(cT st 1 18),(cT st 1 19),(cT st 1 20),(cT st 1 21),(cT st 1 22),(cT st 1 23),(cT st 1 24),(cT st 1 25),(cT st 1 26),(cT st 1 27),(cT st 1 28),(cT st 1 29),(cT st 1 30),(cT st 1 31),(cT st 1 32),(cT st 1 33),(cT st 1 34),(cT st 1 35),(cT st 1 36),(cT st 1 37),(cT st 1 38),(cT st 1 39),(cT st 1 40),(cT st 1 41),(cT st 1 42),(cT st 1 43),(cT st 1 44),(cT st 1 45),(cT st 1 46),(cT st 1 47),(cT st 1 48)]]⟩,⟨true,29,25, .gen [[(cT st 2 0),(cT st 2 1),(cT st 2 2),(cT st 2 3),(cT st 2 4),(cT st 2 5),(cT st 2 6),(cT st 2 7),(cT st 2 8),(cT st 2 9),(cT st 2 10),(cT st 2 11),(cT st 2 12),(cT st 2 13),(cT st 2 14),(cT st 2 15),(cT st 2 16),(cT st 2 17),(cT st 2 18),(cT st 2 19),(cT st 2 20),(cT st 2 21),(cT st 2 22),(cT st 2 23),(cT st 2 24)]]⟩])
 a0:=λst=>(lk st 4).toInt
 ex0:=λst=>[]++[(Q0o (lk st 1) (st.rows.length+0)),(Q0o (lk st 2) (st.rows.length+1))]
 next:=λst=>(lk st 4).toInt
 ex:=λst=>[]++[(Q0o (lk st 1) (st.rows.length+0)),(Q0o (lk st 2) (st.rows.length+1))]}
def Qjp:List (Nat×LInv):=[(5,Qmx)]
def Qot:Q09:=mkP 186 [] true [.agg Q00.sig] [] (λargs rows=>Q6e (Q00.of (args.getD 0 .dead).cells)) (λargs rows=>Qba (Q00.of (args.getD 0 .dead).cells)) (λX=> .agg (Q02.cells X)) (λX=>[])
theorem Qd3:Q01 Tryz.prog Qot:=Q0j drawn Q0g (.cons Qjw (.cons Qe5 (.nil))) Tryz.func186 Tryz.call186 (λargs rows=>Q3i (Q00.of (args.getD 0 .dead).cells)) [] Qjp 3 (λ_ _ _=>by kernel_rfl) (λ_ _=>rfl) (λ_ _ h=>h) (λ_ X=>by kernel_rfl)
def Qb8(m:Q00):Tree Bool:=
.an (Q6e m) (.lv (Qba m) λ(x0:Q02)=> .br (iand u32 x0.B5.a0 (1:Int)==(0:Int)) (.lf false) (.an (Q8r m.Mem x0.Pc 4) (.lv (Qj5 m.Mem x0.Pc 4) λ(x1:Int×Bool)=> .lv (Qm x1.1) λ(x2:Q0h×Bool)=> .br x1.2 (.br x2.2 (.br (x2.1.Op==60) (.lf (x2.1.D3==2)) (.lf false)) (.lf false)) (.lf false))))
def Z0v(m:Q00):Bool:=(Qb8 m).m
abbrev Qlt(m:Q00):Prop:=(Qb8 m).p
def Z9m:Q09:=mkP 116 [] true [.agg Q00.sig] [] (λargs rows=>Qlt (Q00.of (args.getD 0 .dead).cells)) (λargs rows=>Z0v (Q00.of (args.getD 0 .dead).cells)) (λX=> .bool X) (λX=>[])
theorem Z4i:Q01 Tryz.prog Z9m:=Q0j drawn Q0g (.cons Qd3 (.cons Qjg (.cons Qlu (.nil)))) Tryz.func116 Tryz.call116 (λargs rows=>Qb8 (Q00.of (args.getD 0 .dead).cells)) [] [] 2 (λ_ _ _=>by kernel_rfl) (λ_ _=>rfl) (λ_ _ h=>h) (λ_ X=>by kernel_rfl)
def Q3b(c:Q0a)(port:Int):Tree (Q0a×Int):=
let T1:Tree ((Q0a×Int)):= .br (port==0) (.cn (decide ((0:Int)≤(1:Int)∧1≤(c.D0.length:Int)∧(c.D0.length:Int)≤(c.D0.length:Int))) (.cn (decide ((0:Int)≤(0:Int)∧0<(c.D0.length:Int))) (.lf ({D0:=List.take (Int.toNat (c.D0.length:Int)-Int.toNat 1) (List.drop (Int.toNat 1) c.D0)},wrap u32 (↑(UInt8.toNat (c.D0.getD (Int.toNat 0) (0:UInt8))):Int))))) (.br (port==1) (.lf (c,wrap u32 (c.D0.length:Int))) (.lf (c,0))); .br (port==0) (.br ((c.D0.length:Int)==(0:Int)) (.lf (c,4294967295)) T1) T1
def Qf6(c:Q0a)(port:Int):(Q0a×Int):=(Q3b c port).m
theorem Qpi(c:Q0a)(port:Int):(Q3b c port).p:=by
 unfold Tree.p Q3b
 repeat'(first|exact trivial|refine w_br (λ_=> ?_) (λ_=> ?_)|refine w_cn ?_ ?_|refine w_an ?_ ?_|refine w_lv (λ_ _=> ?_)|refine w_nx ?_|refine w_lf ?_|refine And.intro ?_ ?_)
 all_goals(((subst_vars;first|trivial|assumption|omega|((simp(config:={decide:=true,failIfUnchanged:=false}) only[Bool.and_eq_true,Bool.or_eq_true,Bool.and_eq_false_iff,Bool.or_eq_false_iff,Bool.not_eq_true',Bool.not_eq_false',Bool.not_eq_true,Bool.not_eq_false,decide_eq_true_eq,decide_eq_false_iff_not,Q3t,Q2i,Q3y,Q2j,beq_iff_eq,beq_eq_false_iff_ne,bne_iff_ne,bne_eq_false_iff_eq,ne_eq,List.all_cons,List.all_nil,D.plain,List.length_cons,List.length_nil,List.length_append,List.length_set,List.length_replicate,IntKind.wrap_i64,IntKind.wrap_u64,IntKind.wrap_u32,IntKind.wrap_i32,IntKind.wrap_u8,true_and,and_true,or_false,false_or,or_true,true_or,not_true_eq_false,not_false_eq_true,Prod.fst,Prod.snd]at*);first|done|assumption|omega)|((simp(config:={decide:=true,failIfUnchanged:=false}) only[Bool.and_eq_true,Bool.or_eq_true,Bool.and_eq_false_iff,Bool.or_eq_false_iff,Bool.not_eq_true',Bool.not_eq_false',Bool.not_eq_true,Bool.not_eq_false,decide_eq_true_eq,decide_eq_false_iff_not,Q3t,Q2i,Q3y,Q2j,beq_iff_eq,beq_eq_false_iff_ne,bne_iff_ne,bne_eq_false_iff_eq,ne_eq,List.all_cons,List.all_nil,D.plain,List.length_cons,List.length_nil,List.length_append,List.length_set,List.length_replicate,IntKind.wrap_i64,IntKind.wrap_u64,IntKind.wrap_u32,IntKind.wrap_i32,IntKind.wrap_u8,true_and,and_true,or_false,false_or,or_true,true_or,not_true_eq_false,not_false_eq_true,Prod.fst,Prod.snd]at*);simp only[←List.length_pos_iff]at*;omega)|(simp_all;done)|(have:= @Qf2;simp_all;try omega))))
def Qtc:Q09:=mkR 260 [] true [.agg Q0a.sig, .one (.int .i64)] [] (λargs rows=>Qf6 (Q0a.of (args.getD 0 .dead).cells) (argI args 1)) (λX=> .tup [.agg (Q0a.cells (X.1)), .int .u32 (X.2)]) (λX=>[])
theorem Qre:Q01 Tryz.prog Qtc:=Q0p drawn Q0g (.nil) Tryz.func260 Tryz.call260 (λargs rows=>Q3b (Q0a.of (args.getD 0 .dead).cells) (argI args 1)) [] [] 2 (λ_ _ _=>by kernel_rfl) (λ_ _=>rfl) (λargs rows=>Qpi (Q0a.of (args.getD 0 .dead).cells) (argI args 1)) (λ_ X=>by kernel_rfl)
def Qa4(t:Q0k):Tree Int:=
.br t.D4 (.lf 1) (.lf 0)
def Qj8(t:Q0k):Int:=(Qa4 t).m
def Z0:Q09:=mkR 261 [] true [.agg Q0k.sig] [] (λargs rows=>Qj8 (Q0k.of (args.getD 0 .dead).cells)) (λX=> .int .u32 X) (λX=>[])
theorem Qyh:Q01 Tryz.prog Z0:=Q0p drawn Q0g (.nil) Tryz.func261 Tryz.call261 (λargs rows=>Qa4 (Q0k.of (args.getD 0 .dead).cells)) [] [] 2 (λ_ _ _=>by kernel_rfl) (λ_ _=>rfl) (λ_ _=>Tree.free_ok (by kernel_rfl)) (λ_ X=>by kernel_rfl)
def Qc1(d0:Q0b)(port:Int):Tree Int:=
.br (port==4) (.lf d0.B6) (.br (port==5) (.lf d0.Frame) (.br (port==6) (.lf (wrap u32 d0.C0)) (.lf 0)))
def Qmr(d0:Q0b)(port:Int):Int:=(Qc1 d0 port).m
def Z36:Q09:=mkR 262 [] true [.agg Q0b.sig, .one (.int .i64)] [] (λargs rows=>Qmr (Q0b.of (args.getD 0 .dead).cells) (argI args 1)) (λX=> .int .u32 X) (λX=>[])
theorem Qz6:Q01 Tryz.prog Z36:=Q0p drawn Q0g (.nil) Tryz.func262 Tryz.call262 (λargs rows=>Qc1 (Q0b.of (args.getD 0 .dead).cells) (argI args 1)) [] [] 2 (λ_ _ _=>by kernel_rfl) (λ_ _=>rfl) (λ_ _=>Tree.free_ok (by kernel_rfl)) (λ_ X=>by kernel_rfl)
def Qea(n:Q0m)(port:Int):Tree Int:=
.br (port==7) (.lf n.Frame) (.br (port==8) (.lf n.E0) (.br (port==9) (.br n.B8 (.br n.B2 (.lf (wrap u32 ((1:Int)+(2:Int)))) (.lf 1)) (.br n.B2 (.lf (wrap u32 ((0:Int)+(2:Int)))) (.lf 0))) (.lf 0)))
def Qql(n:Q0m)(port:Int):Int:=(Qea n port).m
def Z5y:Q09:=mkR 263 [] true [.agg Q0m.sig, .one (.int .i64)] [] (λargs rows=>Qql (Q0m.of (args.getD 0 .dead).cells) (argI args 1)) (λX=> .int .u32 X) (λX=>[])
theorem Z4o:Q01 Tryz.prog Z5y:=Q0p drawn Q0g (.nil) Tryz.func263 Tryz.call263 (λargs rows=>Qea (Q0m.of (args.getD 0 .dead).cells) (argI args 1)) [] [] 2 (λ_ _ _=>by kernel_rfl) (λ_ _=>rfl) (λ_ _=>Tree.free_ok (by kernel_rfl)) (λ_ X=>by kernel_rfl)
def Q78(b:Q07)(port:Int):Tree Int:=
.br (port==10) (.lf b.C3) (.br (port==11) (.lv (Qri b) λ(x0:Int)=> .lf (wrap u32 x0)) (.lf 0))
def Qf4(b:Q07)(port:Int):Int:=(Q78 b port).m
def Qu:Q09:=mkR 264 [] true [.agg Q07.sig, .one (.int .i64)] [] (λargs rows=>Qf4 (Q07.of (args.getD 0 .dead).cells) (argI args 1)) (λX=> .int .u32 X) (λX=>[])
theorem Qr5:Q01 Tryz.prog Qu:=Q0p drawn Q0g (.cons Qoe (.nil)) Tryz.func264 Tryz.call264 (λargs rows=>Q78 (Q07.of (args.getD 0 .dead).cells) (argI args 1)) [] [] 2 (λ_ _ _=>by kernel_rfl) (λ_ _=>rfl) (λ_ _=>Tree.free_ok (by kernel_rfl)) (λ_ X=>by kernel_rfl)
def Qp7(m:Q00)(port:Int)(clock:Int):Tree (Int×Q00):=
.br (decide (port≤1)) (.lv (Qf6 m.A1 port) λ(x0:Q0a×Int)=> .lf (x0.2,{B1:=m.B1,Mem:=m.Mem,A1:=x0.1,A9:=m.A9,B0:=m.B0,C2:=m.C2,A0:=m.A0,A4:=m.A4,A2:=m.A2,A6:=m.A6})) (.br (port==2) (.lf (clock,m)) (.br (port==3) (.lv (Qj8 m.A9) λ(x1:Int)=> .lf (x1,m)) (.br (decide (port≤6)) (.lv (Qmr m.B0 port) λ(x2:Int)=> .lf (x2,m)) (.br (decide (port≤9)) (.lv (Qql m.C2 port) λ(x3:Int)=> .lf (x3,m)) (.lv (Qf4 m.A0 port) λ(x4:Int)=> .lf (x4,m))))))
def ref7_in(m:Q00)(port:Int)(clock:Int):(Int×Q00):=(Qp7 m port clock).m
def ref7_in_m:Q09:=mkR 218 [true,false,false] true [.ptr 0, .one (.int .i64), .one (.int .u32)] [.box 43 49 (Q00.sigW (.row 1)), .arr 25 1 (.ints .u32)] (λargs rows=>ref7_in (Q00.ofW (rows.getD 0 default).cs (rowL .u32 rows 1)) (argI args 1) (argI args 2)) (λX=> .int .u32 (X.1)) (λX=>[⟨true,43,49, .gen [(Q00.cellsW (X.2) (.all 1))]⟩,⟨false,25,1, .ints .u32 (X.2).Mem⟩])
theorem Zfb:Q01 Tryz.prog ref7_in_m:=Q0p drawn Q0g (.cons Qre (.cons Qyh (.cons Qz6 (.cons Z4o (.cons Qr5 (.nil)))))) Tryz.func218 Tryz.call218 (λargs rows=>Qp7 (Q00.ofW (rows.getD 0 default).cs (rowL .u32 rows 1)) (argI args 1) (argI args 2)) [.row 25 1 (.ints .u32)] [] 2 (λ_ _ _=>by kernel_rfl) (λ_ _=>rfl) (λ_ _=>Tree.free_ok (by kernel_rfl)) (λ_ X=>by kernel_rfl)
def Z10(deadline:Int):Tree Q0k:=
.br (deadline==0) (.lf ({D6:=false,C4:=0,D4:=false})) (.lf ({D6:=true,C4:=deadline,D4:=false}))
def Zca(deadline:Int):Q0k:=(Z10 deadline).m
def Zfr:Q09:=mkR 265 [] true [.one (.int .u32)] [] (λargs rows=>Zca (argI args 0)) (λX=> .agg (Q0k.cells X)) (λX=>[])
theorem Zaa:Q01 Tryz.prog Zfr:=Q0p drawn Q0g (.nil) Tryz.func265 Tryz.call265 (λargs rows=>Z10 (argI args 0)) [] [] 2 (λ_ _ _=>by kernel_rfl) (λ_ _=>rfl) (λ_ _=>Tree.free_ok (by kernel_rfl)) (λ_ X=>by kernel_rfl)
def Qnc(x:Int)(n:Int)(z:(Int)×(List Int)):Prop:=0≤z.1∧(z.2.length:Int)=z.1∧(z.1≤n∨z.1=0)
def Qa9(x:Int)(n:Int)(z:(Int)×(List Int)):Nat:=(n-z.1).toNat
def Qc9(x:Int)(n:Int):Tree (List UInt8):=
.lp inferInstance (Qa9 x n (0,[])+1) ((rE (x:Int)∧rE (n:Int)∧True∧rE (0:Int)∧True)∧rE ([]:List Int)∧True) (0,[]) λ(v0:Int×List Int)=> .br (decide (v0.1<n)) (.cn (decide (0≤wrap u64 (wrap i64 (8*v0.1)))) (.cn (decide (1*(v0.2.length+1)≤140737488355328)) (.nx ((rE (x:Int)∧rE (n:Int)∧True∧rE ((wrap i64 (v0.1+1)):Int)∧True)∧rE ((v0.2++[wrap u8 (ishr u32 x (wrap u64 (wrap i64 (8*v0.1))))]):List Int)∧True) (Sum.inl (wrap i64 (v0.1+1),v0.2++[wrap u8 (ishr u32 x (wrap u64 (wrap i64 (8*v0.1))))]))))) (.lf (Sum.inr (bytesOf v0.2)))
def Zdo(x:Int)(n:Int):(List UInt8):=(Qc9 x n).m
def Qee(x:Int)(n:Int):Prop:=
n≤1000000000000
theorem Z61(x:Int)(n:Int)(hw:Qee x n):(Qc9 x n).p:=by
 simp only[Qee]at hw
 unfold Tree.p Qc9
 repeat'(first|refine w_lp (inv:=Qnc x n) (μ:=Qa9 x n) ?_ (Nat.lt_succ_self _) (λ_ _=> ?_)|exact trivial|refine w_br (λ_=> ?_) (λ_=> ?_)|refine w_cn ?_ ?_|refine w_an ?_ ?_|refine w_lv (λ_ _=> ?_)|refine w_nx ?_|refine w_lf ?_|refine And.intro ?_ ?_)
 all_goals((try simp only[Qnc,Qa9]at*);((subst_vars;first|trivial|assumption|omega|((simp(config:={decide:=true,failIfUnchanged:=false}) only[Bool.and_eq_true,Bool.or_eq_true,Bool.and_eq_false_iff,Bool.or_eq_false_iff,Bool.not_eq_true',Bool.not_eq_false',Bool.not_eq_true,Bool.not_eq_false,decide_eq_true_eq,decide_eq_false_iff_not,Q3t,Q2i,Q3y,Q2j,beq_iff_eq,beq_eq_false_iff_ne,bne_iff_ne,bne_eq_false_iff_eq,ne_eq,List.all_cons,List.all_nil,D.plain,List.length_cons,List.length_nil,List.length_append,List.length_set,List.length_replicate,IntKind.wrap_i64,IntKind.wrap_u64,IntKind.wrap_u32,IntKind.wrap_i32,IntKind.wrap_u8,true_and,and_true,or_false,false_or,or_true,true_or,not_true_eq_false,not_false_eq_true,Prod.fst,Prod.snd]at*);first|done|assumption|omega)|((simp(config:={decide:=true,failIfUnchanged:=false}) only[Bool.and_eq_true,Bool.or_eq_true,Bool.and_eq_false_iff,Bool.or_eq_false_iff,Bool.not_eq_true',Bool.not_eq_false',Bool.not_eq_true,Bool.not_eq_false,decide_eq_true_eq,decide_eq_false_iff_not,Q3t,Q2i,Q3y,Q2j,beq_iff_eq,beq_eq_false_iff_ne,bne_iff_ne,bne_eq_false_iff_eq,ne_eq,List.all_cons,List.all_nil,D.plain,List.length_cons,List.length_nil,List.length_append,List.length_set,List.length_replicate,IntKind.wrap_i64,IntKind.wrap_u64,IntKind.wrap_u32,IntKind.wrap_i32,IntKind.wrap_u8,true_and,and_true,or_false,false_or,or_true,true_or,not_true_eq_false,not_false_eq_true,Prod.fst,Prod.snd]at*);simp only[←List.length_pos_iff]at*;omega)|(simp_all;done)|(have:= @Qf2;simp_all;try omega))))
def Zbp:LInv:={
 α:=(Int)×(List Int)
 F:=λst a=>([(0,(lk st 0)),(1,(lk st 1)),(5, .all 0),(6, .int i64 a.1)],[⟨false,5,1, .ints u8 a.2⟩])
 a0:=λst=>((lk st 6).toInt,(Q37 st.rows (rN st 5)))
 ex0:=λst=>[]++[(Q0o (lk st 5) (st.rows.length+0))]
 next:=λst=>((lk st 6).toInt,(Q37 st.rows (rN st 5)))
 ex:=λst=>[]++[(Q0o (lk st 5) (st.rows.length+0))]}
def Z2p:List (Nat×LInv):=[(3,Zbp)]
def Zed:Q09:=mkP 315 [] true [.one (.int .u32), .one (.int .i64)] [] (λargs rows=>Qee (argI args 0) (argI args 1)) (λargs rows=>Zdo (argI args 0) (argI args 1)) (λX=> .str X) (λX=>[])
theorem Zay:Q01 Tryz.prog Zed:=Q0j drawn Q0g (.nil) Tryz.func315 Tryz.call315 (λargs rows=>Qc9 (argI args 0) (argI args 1)) [] Z2p 3 (λ_ _ _=>by kernel_rfl) (λ_ _=>rfl) (λargs rows h=>Z61 (argI args 0) (argI args 1) h) (λ_ X=>by kernel_rfl)
def Qim(m:(List Int))(frame:Int)(z:(Int)×(List Int)):Nat:=(32-z.1).toNat
def Qdy(m:(List Int))(frame:Int):Tree ((List UInt8)×Bool):=
.br (decide (frame<0)) (.lf ([],false)) (.lv (Q6a m) λ(x0:Int)=> .br (decide (frame≥x0)) (.lf ([],false)) (.lp inferInstance (Qim m frame (0,[])+1) ((((Els.Nil (Els.ints u32 m)∨rE (1:Nat))∧rE (m:List Int))∧rE (frame:Int)∧True∧rE (0:Int)∧True)∧rE ([]:List Int)∧True) (0,[]) λ(v0:Int×List Int)=> .br (decide (v0.1<32)) (.cn (Nat.beq 1 1&&Nat.blt 0 1&&decide (0≤wrap i64 (wrap i64 (frame*32)+v0.1)∧wrap i64 (wrap i64 (frame*32)+v0.1)<(m.length:Int))) (let E1:=m.getD (Int.toNat (wrap i64 (wrap i64 (frame*32)+v0.1))) 0; .an (Qee E1 4) (.lv (Zdo E1 4) λ(x1:List UInt8)=> .cn (decide (1*(v0.2.length+List.length (Qae x1))≤140737488355328)) (.nx ((((Els.Nil (Els.ints u32 m)∨rE (1:Nat))∧rE (m:List Int))∧rE (frame:Int)∧True∧rE ((wrap i64 (v0.1+1)):Int)∧True)∧rE ((v0.2++Qae x1):List Int)∧True) (Sum.inl (wrap i64 (v0.1+1),v0.2++Qae x1)))))) (.lf (Sum.inr (bytesOf v0.2,true)))))
def Qnw(m:(List Int))(frame:Int):((List UInt8)×Bool):=(Qdy m frame).m
abbrev Qc3(m:(List Int))(frame:Int):Prop:=(Qdy m frame).p
def Z8n:LInv:={
 α:=(Int)×(List Int)
 F:=λst a=>([(0,(lk st 0)),(1,(lk st 1)),(6, .all 0),(7, .int i64 a.1)],[⟨false,5,1, .ints u8 a.2⟩])
 a0:=λst=>((lk st 7).toInt,(Q37 st.rows (rN st 6)))
 ex0:=λst=>[]++[(Q0o (lk st 6) (st.rows.length+0))]
 next:=λst=>((lk st 7).toInt,(Q37 st.rows (rN st 6)))
 ex:=λst=>[]++[(Q0o (lk st 6) (st.rows.length+0))]}
def Qzt:List (Nat×LInv):=[(5,Z8n)]
def Zbt:Q09:=mkP 304 [] true [.one (.ints .u32), .one (.int .i64)] [] (λargs rows=>Qc3 (argL .u32 args 0) (argI args 1)) (λargs rows=>Qnw (argL .u32 args 0) (argI args 1)) (λX=> .tup [.str (X.1), .bool (X.2)]) (λX=>[])
theorem Qrp:Q01 Tryz.prog Zbt:=Q0j drawn Q0g (.cons Q8m (.cons Zay (.nil))) Tryz.func304 Tryz.call304 (λargs rows=>Qdy (argL .u32 args 0) (argI args 1)) [] Qzt 3 (λ_ _ _=>by kernel_rfl) (λ_ _=>rfl) (λ_ _ h=>h) (λ_ X=>by kernel_rfl)
def Qln(d0:Q0b)(at0:Int):Tree (Q0e×Bool):=
.br (d0.C0 !=1) (.lf ({C6:=0,At:=0,B6:=0,D5:=[]},false)) (.br (d0.D7==1) (.lf ({C6:=3,At:=at0,B6:=d0.B3,D5:=[]},true)) (.br (d0.D7==2) (.lf ({C6:=4,At:=at0,B6:=d0.B3,D5:=d0.B7},true)) (.lf ({C6:=0,At:=0,B6:=0,D5:=[]},false))))
def Qih(d0:Q0b)(at0:Int):(Q0e×Bool):=(Qln d0 at0).m
def Z04:Q09:=mkR 305 [] true [.agg Q0b.sig, .one (.int .u64)] [] (λargs rows=>Qih (Q0b.of (args.getD 0 .dead).cells) (argI args 1)) (λX=> .tup [.agg (Q0e.cells (X.1)), .bool (X.2)]) (λX=>[])
theorem Qv4:Q01 Tryz.prog Z04:=Q0p drawn Q0g (.nil) Tryz.func305 Tryz.call305 (λargs rows=>Qln (Q0b.of (args.getD 0 .dead).cells) (argI args 1)) [] [] 2 (λ_ _ _=>by kernel_rfl) (λ_ _=>rfl) (λ_ _=>Tree.free_ok (by kernel_rfl)) (λ_ X=>by kernel_rfl)
def Q7(d0:Q0b)(m:(List Int))(port:Int)(v:Int)(at0:Int):Tree (Q0b×(List Q0e)):=
.br (port==4) (.lf ({Blocks:=d0.Blocks,B6:=v,Frame:=d0.Frame,C0:=d0.C0,D7:=d0.D7,B3:=d0.B3,B4:=d0.B4,B7:=d0.B7},[])) (.br (port==5) (.lf ({Blocks:=d0.Blocks,B6:=d0.B6,Frame:=v,C0:=d0.C0,D7:=d0.D7,B3:=d0.B3,B4:=d0.B4,B7:=d0.B7},[])) (.br (port !=6) (.lf (d0,[])) (let T1:Tree ((Q0b×(List Q0e))):= .br (d0.C0==0) (let T2:Tree ((Q0b×(List Q0e))):= .lf ({Blocks:=d0.Blocks,B6:=d0.B6,Frame:=d0.Frame,C0:=3,D7:=d0.D7,B3:=d0.B3,B4:=d0.B4,B7:=d0.B7},[]); .br (decide (d0.B6≥d0.Blocks)) T2 (.lv (Q5b m d0.Frame) λ(x0:Bool)=> .br (!x0) T2 (.br (v==2) (.an (Qc3 m (wrap i64 d0.Frame)) (.lv (Qnw m (wrap i64 d0.Frame)) λ(x1:List UInt8×Bool)=>let E4:=({Blocks:=d0.Blocks,B6:=d0.B6,Frame:=d0.Frame,C0:=1,D7:=wrap i64 v,B3:=d0.B6,B4:=d0.Frame,B7:=x1.1}:Q0b); .lv (Qih E4 at0) λ(x2:Q0e×Bool)=> .lf (E4,[x2.1]))) (let E5:=({Blocks:=d0.Blocks,B6:=d0.B6,Frame:=d0.Frame,C0:=1,D7:=wrap i64 v,B3:=d0.B6,B4:=d0.Frame,B7:=[]}:Q0b); .lv (Qih E5 at0) λ(x3:Q0e×Bool)=> .lf (E5,[x3.1]))))) (.lf (d0,[])); .br (v==0) (let T3:Tree ((Q0b×(List Q0e))):= .lf ({Blocks:=d0.Blocks,B6:=d0.B6,Frame:=d0.Frame,C0:=0,D7:=d0.D7,B3:=d0.B3,B4:=d0.B4,B7:=d0.B7},[]); .br (d0.C0==2) T3 (.br (d0.C0==3) T3 (.br (v==1) T1 (.br (v==2) T1 (.lf (d0,[])))))) (.br (v==1) T1 (.br (v==2) T1 (.lf (d0,[])))))))
def Qsj(d0:Q0b)(m:(List Int))(port:Int)(v:Int)(at0:Int):(Q0b×(List Q0e)):=(Q7 d0 m port v at0).m
abbrev Qhc(d0:Q0b)(m:(List Int))(port:Int)(v:Int)(at0:Int):Prop:=(Q7 d0 m port v at0).p
def Qzb:Q09:=mkP 266 [] true [.agg Q0b.sig, .one (.ints .u32), .one (.int .i64), .one (.int .u32), .one (.int .u64)] [] (λargs rows=>Qhc (Q0b.of (args.getD 0 .dead).cells) (argL .u32 args 1) (argI args 2) (argI args 3) (argI args 4)) (λargs rows=>Qsj (Q0b.of (args.getD 0 .dead).cells) (argL .u32 args 1) (argI args 2) (argI args 3) (argI args 4)) (λX=> .tup [.agg (Q0b.cells (X.1)), .sl 4 (.recs .apiOutput (X.2)) true]) (λX=>[])
theorem Qvl:Q01 Tryz.prog Qzb:=Q0j drawn Q0g (.cons Qay (.cons Qrp (.cons Qv4 (.nil)))) Tryz.func266 Tryz.call266 (λargs rows=>Q7 (Q0b.of (args.getD 0 .dead).cells) (argL .u32 args 1) (argI args 2) (argI args 3) (argI args 4)) [.sl (.recs .apiOutput) true] [] 2 (λ_ _ _=>by kernel_rfl) (λ_ _=>rfl) (λ_ _ h=>h) (λ_ X=>by kernel_rfl)
def Q87(n:Q0m)(m:(List Int))(port:Int)(v:Int)(at0:Int):Tree (Q0m×(List Q0e)):=
.br (port==7) (.lf ({Frame:=v,D9:=n.D9,B8:=n.B8,B9:=n.B9,B2:=n.B2,E0:=n.E0},[])) (.br (port==8) (.lf ({Frame:=n.Frame,D9:=v,B8:=n.B8,B9:=n.B9,B2:=n.B2,E0:=n.E0},[])) (.br (port !=9) (.lf (n,[])) (.br (v==0) (.lf ({Frame:=n.Frame,D9:=n.D9,B8:=n.B8,B9:=n.B9,B2:=false,E0:=0},[])) (let T1:Tree ((Q0m×(List Q0e))):= .br (v==2) (.lv (Q5b m n.Frame) λ(x2:Bool)=> .br x2 (.br (!n.B8) (.br (!n.B2) (.lf ({Frame:=n.Frame,D9:=n.D9,B8:=true,B9:=n.Frame,B2:=n.B2,E0:=n.E0},[])) (.lf (n,[]))) (.lf (n,[]))) (.lf (n,[]))) (.lf (n,[])); .br (v==1) (.br (decide (n.D9≥1)) (.br (decide (n.D9≤128)) (.lv (Q5b m n.Frame) λ(x0:Bool)=> .br x0 (.an (Qc3 m (wrap i64 n.Frame)) (.lv (Qnw m (wrap i64 n.Frame)) λ(x1:List UInt8×Bool)=> .cn (decide ((0:Int)≤(0:Int)∧0≤n.D9∧n.D9≤(x1.1.length:Int))) (.lf (n,[{C6:=2,At:=at0,B6:=0,D5:=List.take (Int.toNat n.D9-Int.toNat 0) (List.drop (Int.toNat 0) x1.1)}])))) T1) T1) T1) T1))))
def Qvy(n:Q0m)(m:(List Int))(port:Int)(v:Int)(at0:Int):(Q0m×(List Q0e)):=(Q87 n m port v at0).m
abbrev Qiv(n:Q0m)(m:(List Int))(port:Int)(v:Int)(at0:Int):Prop:=(Q87 n m port v at0).p
def Z37:Q09:=mkP 267 [] true [.agg Q0m.sig, .one (.ints .u32), .one (.int .i64), .one (.int .u32), .one (.int .u64)] [] (λargs rows=>Qiv (Q0m.of (args.getD 0 .dead).cells) (argL .u32 args 1) (argI args 2) (argI args 3) (argI args 4)) (λargs rows=>Qvy (Q0m.of (args.getD 0 .dead).cells) (argL .u32 args 1) (argI args 2) (argI args 3) (argI args 4)) (λX=> .tup [.agg (Q0m.cells (X.1)), .sl 4 (.recs .apiOutput (X.2)) true]) (λX=>[])
theorem Qzq:Q01 Tryz.prog Z37:=Q0j drawn Q0g (.cons Qay (.cons Qrp (.nil))) Tryz.func267 Tryz.call267 (λargs rows=>Q87 (Q0m.of (args.getD 0 .dead).cells) (argL .u32 args 1) (argI args 2) (argI args 3) (argI args 4)) [.sl (.recs .apiOutput) true] [] 2 (λ_ _ _=>by kernel_rfl) (λ_ _=>rfl) (λ_ _ h=>h) (λ_ X=>by kernel_rfl)
def Qji(b:Q07)(m:(List Int))(port:Int)(v:Int)(z:(Int)×(List Int)):Nat:=(32-z.1).toNat
def Qe(b:Q07)(m:(List Int))(port:Int)(v:Int):Tree (Q07×(List Int)):=
let T1:Tree ((Q07×(List Int))):= .br (port==11) (.br (decide (v<32)) (.cn (decide (0≤v)) (.lf ({C3:=b.C3,C5:=Ql9 u32 b.C5 (ishl u32 1 v)},m))) (.lf (b,m))) (.lf (b,m)); .br (port==10) (.lv (Q5b m v) λ(x0:Bool)=> .br x0 (.cn (decide (0≤v)) (.br (iand u32 (ishr u32 b.C5 v) (1:Int)==(0:Int)) (.cn (decide (0≤v)) (.lp inferInstance (Qji b m port v (0,m)+1) ((True∧rE (v:Int)∧(rE (0:Nat)∧rE (0:Nat))∧(rE (0:Nat)∧rE (0:Nat))∧rE (0:Int)∧True)∧rE (m:List Int)∧(rE b.C3∧rE ((ior u32 b.C5 (ishl u32 1 v)):Int)∧True)∧(rE (0:Int)∧rE (0:Int)∧True)∧True) (0,m) λ(v0:Int×List Int)=> .br (decide (v0.1<32)) (let E2:=wrap i64 (wrap i64 v*32)+v0.1; .cn (Nat.beq 1 1&&Nat.blt 0 1&&decide (0≤wrap i64 E2∧wrap i64 E2<(v0.2.length:Int))) (.nx ((True∧rE (v:Int)∧(rE (0:Nat)∧rE (0:Nat))∧(rE (0:Nat)∧rE (0:Nat))∧rE ((wrap i64 (v0.1+1)):Int)∧True)∧rE ((List.set v0.2 (Int.toNat (wrap i64 (wrap i64 (wrap i64 v*32)+v0.1))) 0):List Int)∧(rE b.C3∧rE ((ior u32 b.C5 (ishl u32 1 v)):Int)∧True)∧(rE (0:Int)∧rE (0:Int)∧True)∧True) (Sum.inl (wrap i64 (v0.1+1),List.set v0.2 (Int.toNat (wrap i64 E2)) 0)))) (.lf (Sum.inr ({C3:=b.C3,C5:=ior u32 b.C5 (ishl u32 1 v)},v0.2))))) T1)) T1) T1
def Z7d(b:Q07)(m:(List Int))(port:Int)(v:Int):(Q07×(List Int)):=(Qe b m port v).m
abbrev Qoz(b:Q07)(m:(List Int))(port:Int)(v:Int):Prop:=(Qe b m port v).p
def Z6s:LInv:={
 α:=(Int)×(List Int)
 F:=λst a=>([(1, .all 0),(3,(lk st 3)),(4, .ptr 1 0 0),(8, .ptr 2 0 0),(9, .int i64 a.1)],[⟨false,25,1, .ints u32 a.2⟩,⟨true,40,2, .gen [[(cT st 4 0),(cT st 4 1)]]⟩,⟨true,40,2, .gen [[(cT st 8 0),(cT st 8 1)]]⟩])
 a0:=λst=>((lk st 9).toInt,(Q37 st.rows 0))
 ex0:=λst=>[0]++[(Q0o (lk st 4) (st.rows.length+1)),(Q0o (lk st 8) (st.rows.length+2))]
 next:=λst=>((lk st 9).toInt,(Q37 st.rows 0))
 ex:=λst=>[0]++[(Q0o (lk st 4) (st.rows.length+1)),(Q0o (lk st 8) (st.rows.length+2))]}
def Qym:List (Nat×LInv):=[(4,Z6s)]
def Za6:Q09:=mkP 268 [false,true,false,false] true [.agg Q07.sig, .one (.row 0), .one (.int .i64), .one (.int .u32)] [.arr 25 1 (.ints .u32)] (λargs rows=>Qoz (Q07.of (args.getD 0 .dead).cells) (rowL .u32 rows 0) (argI args 2) (argI args 3)) (λargs rows=>Z7d (Q07.of (args.getD 0 .dead).cells) (rowL .u32 rows 0) (argI args 2) (argI args 3)) (λX=> .agg (Q07.cells (X.1))) (λX=>[⟨false,25,1, .ints .u32 (X.2)⟩])
theorem Z90:Q01 Tryz.prog Za6:=Q0j drawn Q0g (.cons Qay (.nil)) Tryz.func268 Tryz.call268 (λargs rows=>Qe (Q07.of (args.getD 0 .dead).cells) (rowL .u32 rows 0) (argI args 2) (argI args 3)) [] Qym 3 (λ_ _ _=>by kernel_rfl) (λ_ _=>rfl) (λ_ _ h=>h) (λ_ X=>by kernel_rfl)
def Qg3(m:Q00)(port:Int)(v:Int):Tree ((List Q0e)×Q00):=
.br (port==0) (.lf ([{C6:=1,At:=m.A4,B6:=0,D5:=[(λ(n:Int)=>UInt8.ofNat n.toNat) (wrap u8 v)]}],m)) (.br (decide (port≤2)) (.lf ([],m)) (.br (port==3) (.lv (Zca v) λ(x0:Q0k)=> .lf ([],{B1:=m.B1,Mem:=m.Mem,A1:=m.A1,A9:=x0,B0:=m.B0,C2:=m.C2,A0:=m.A0,A4:=m.A4,A2:=m.A2,A6:=m.A6})) (.br (decide (port≤6)) (.an (Qhc m.B0 m.Mem port v m.A4) (.lv (Qsj m.B0 m.Mem port v m.A4) λ(x1:Q0b×List Q0e)=> .lf (x1.2,{B1:=m.B1,Mem:=m.Mem,A1:=m.A1,A9:=m.A9,B0:=x1.1,C2:=m.C2,A0:=m.A0,A4:=m.A4,A2:=m.A2,A6:=m.A6}))) (.br (decide (port≤9)) (.an (Qiv m.C2 m.Mem port v m.A4) (.lv (Qvy m.C2 m.Mem port v m.A4) λ(x2:Q0m×List Q0e)=> .lf (x2.2,{B1:=m.B1,Mem:=m.Mem,A1:=m.A1,A9:=m.A9,B0:=m.B0,C2:=x2.1,A0:=m.A0,A4:=m.A4,A2:=m.A2,A6:=m.A6}))) (.an (Qoz m.A0 m.Mem port v) (.lv (Z7d m.A0 m.Mem port v) λ(x3:Q07×List Int)=> .lf ([],{B1:=m.B1,Mem:=x3.2,A1:=m.A1,A9:=m.A9,B0:=m.B0,C2:=m.C2,A0:=x3.1,A4:=m.A4,A2:=m.A2,A6:=m.A6})))))))
def Zco(m:Q00)(port:Int)(v:Int):((List Q0e)×Q00):=(Qg3 m port v).m
abbrev Qsf(m:Q00)(port:Int)(v:Int):Prop:=(Qg3 m port v).p
def Zg2:Q09:=mkP 220 [true,false,false] true [.ptr 0, .one (.int .i64), .one (.int .u32)] [.box 43 49 (Q00.sigW (.row 1)), .arr 25 1 (.ints .u32)] (λargs rows=>Qsf (Q00.ofW (rows.getD 0 default).cs (rowL .u32 rows 1)) (argI args 1) (argI args 2)) (λargs rows=>Zco (Q00.ofW (rows.getD 0 default).cs (rowL .u32 rows 1)) (argI args 1) (argI args 2)) (λX=> .sl 4 (.recs .apiOutput (X.1)) true) (λX=>[⟨true,43,49, .gen [(Q00.cellsW (X.2) (.all 1))]⟩,⟨false,25,1, .ints .u32 (X.2).Mem⟩])
theorem Zbd:Q01 Tryz.prog Zg2:=Q0j drawn Q0g (.cons Zaa (.cons Qvl (.cons Qzq (.cons Z90 (.nil))))) Tryz.func220 Tryz.call220 (λargs rows=>Qg3 (Q00.ofW (rows.getD 0 default).cs (rowL .u32 rows 1)) (argI args 1) (argI args 2)) [.sl (.recs .apiOutput) true, .row 25 1 (.ints .u32)] [] 2 (λ_ _ _=>by kernel_rfl) (λ_ _=>rfl) (λ_ _ h=>h) (λ_ X=>by kernel_rfl)
def Q6j(m:Q00)(clock:Int):Tree ((List Q0e)×Q00):=
.an (Q6e m) (.lv (Qba m) λ(x0:Q02)=> .an (Qxn x0 m.Mem) (.lv (ref1_Do x0 m.Mem) λ(x1:Q02×Q16×List Int)=>let E1:=({B1:=x1.1,Mem:=x1.2.2,A1:=m.A1,A9:=m.A9,B0:=m.B0,C2:=m.C2,A0:=m.A0,A4:=m.A4,A2:=false,A6:=m.A6}:Q00); .br (x1.2.1.C6==1) (.lv (ref7_in E1 x1.2.1.D2 clock) λ(x2:Int×Q00)=> .an (Q2 x2.2.B1 x1.2.1.D8 x2.1) (.lv (Q79 x2.2.B1 x1.2.1.D8 x2.1) λ(x3:Q02)=> .lf ([],{B1:=x3,Mem:=x2.2.Mem,A1:=x2.2.A1,A9:=x2.2.A9,B0:=x2.2.B0,C2:=x2.2.C2,A0:=x2.2.A0,A4:=wrap u64 (x2.2.A4+1),A2:=x2.2.A2,A6:=x2.2.A6}))) (.br (x1.2.1.C6==2) (.an (Qsf E1 x1.2.1.D2 x1.2.1.Value) (.lv (Zco E1 x1.2.1.D2 x1.2.1.Value) λ(x4:List Q0e×Q00)=> .lf (x4.1,{B1:=x4.2.B1,Mem:=x4.2.Mem,A1:=x4.2.A1,A9:=x4.2.A9,B0:=x4.2.B0,C2:=x4.2.C2,A0:=x4.2.A0,A4:=wrap u64 (x4.2.A4+1),A2:=x4.2.A2,A6:=x4.2.A6}))) (.br (x1.2.1.C6==3) (.lf ([],{B1:=x1.1,Mem:=x1.2.2,A1:=m.A1,A9:=m.A9,B0:=m.B0,C2:=m.C2,A0:=m.A0,A4:=wrap u64 (m.A4+1),A2:=true,A6:=m.A6})) (.br (x1.2.1.C6==4) (.lf ([],{B1:=x1.1,Mem:=x1.2.2,A1:=m.A1,A9:=m.A9,B0:=m.B0,C2:=m.C2,A0:=m.A0,A4:=wrap u64 (m.A4+1),A2:=false,A6:=true})) (.lf ([],{B1:=x1.1,Mem:=x1.2.2,A1:=m.A1,A9:=m.A9,B0:=m.B0,C2:=m.C2,A0:=m.A0,A4:=wrap u64 (m.A4+1),A2:=false,A6:=m.A6})))))))
def Qt(m:Q00)(clock:Int):((List Q0e)×Q00):=(Q6j m clock).m
abbrev Qi3(m:Q00)(clock:Int):Prop:=(Q6j m clock).p
def Qyy:Q09:=mkP 160 [true,false] true [.ptr 0, .one (.int .u32)] [.box 43 49 (Q00.sigW (.row 1)), .arr 25 1 (.ints .u32)] (λargs rows=>Qi3 (Q00.ofW (rows.getD 0 default).cs (rowL .u32 rows 1)) (argI args 1)) (λargs rows=>Qt (Q00.ofW (rows.getD 0 default).cs (rowL .u32 rows 1)) (argI args 1)) (λX=> .sl 4 (.recs .apiOutput (X.1)) true) (λX=>[⟨true,43,49, .gen [(Q00.cellsW (X.2) (.all 1))]⟩,⟨false,25,1, .ints .u32 (X.2).Mem⟩])
theorem Qy3:Q01 Tryz.prog Qyy:=Q0j drawn Q0g (.cons Qd3 (.cons Zg (.cons Zfb (.cons Qcq (.cons Zbd (.nil)))))) Tryz.func160 Tryz.call160 (λargs rows=>Q6j (Q00.ofW (rows.getD 0 default).cs (rowL .u32 rows 1)) (argI args 1)) [.sl (.recs .apiOutput) true, .row 25 1 (.ints .u32)] [] 2 (λ_ _ _=>by kernel_rfl) (λ_ _=>rfl) (λ_ _ h=>h) (λ_ X=>by kernel_rfl)
end
end Go.Proofs.YtmalmklaonainaaGreat

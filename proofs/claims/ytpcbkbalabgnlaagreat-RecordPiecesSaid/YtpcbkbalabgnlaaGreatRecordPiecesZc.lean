/-
  Functions of the program: models, and that its calls come to them (by a program: gen3.py).
-/
import Derived.Test.YtpcbkbalabgnlaaGreatRecordPiecesBase
import Derived.Test.YtpcbkbalabgnlaaGreatRecordPiecesZa
import Derived.Test.YtpcbkbalabgnlaaGreatRecordPiecesZb
set_option linter.unusedVariables false
set_option linter.unusedSimpArgs false
namespace Go.Proofs.YtpcbkbalabgnlaaGreat
open Go Go.GD Go.IntKind
set_option maxRecDepth 100000
noncomputable section
def Qde(steps:Int):Tree Int:=
.lf (if 4000<if 0>steps then 0 else steps then 4000 else if 0>steps then 0 else steps)
def Q0l(steps:Int):Int:=(Qde steps).m
def Z06:Q0c:=mkR 60 [] true [.one (.int .i64)] [] (λargs rows=>Q0l (argI args 0)) (λX=> .int .i64 X) (λX=>[])
theorem Qx7:Q05 Tryz.prog Z06:=Q0x Q0i Q0j (.nil) Tryz.func60 Tryz.call60 (λargs rows=>Qde (argI args 0)) [] [] 2 (λ_ _ _=>by kernel_rfl) (λ_ _=>rfl) (λ_ _=>Tree.free_ok (by kernel_rfl)) (λ_ X=>by kernel_rfl)
def Qu1(t:Q0f)(now:Int):Tree Bool:=
.br t.D3 (.lf (decide (now≥t.C8))) (.lf false)
def Q9f(t:Q0f)(now:Int):Bool:=(Qu1 t now).m
def Zl7:Q0c:=mkR 61 [] true [.agg Q0f.sig, .one (.int .u32)] [] (λargs rows=>Q9f (Q0f.of (args.getD 0 .dead).cells) (argI args 1)) (λX=> .bool X) (λX=>[])
theorem Zfq:Q05 Tryz.prog Zl7:=Q0x Q0i Q0j (.nil) Tryz.func61 Tryz.call61 (λargs rows=>Qu1 (Q0f.of (args.getD 0 .dead).cells) (argI args 1)) [] [] 2 (λ_ _ _=>by kernel_rfl) (λ_ _=>rfl) (λ_ _=>Tree.free_ok (by kernel_rfl)) (λ_ X=>by kernel_rfl)
def Qdy(m:Q00)(z:(Int)):Nat:=(32-z).toNat
def Q4y(m:Q00):Tree Q02:=
.an (Qgi m) (.lv (Q3b m) λ(x0:Int)=> .br (iand u32 m.B2.B5.a0 (2:Int)==(0:Int)) (.lf m.B2) (.br (x0==0) (.lf m.B2) (.lp inferInstance (Qdy m 0+1) (((rE (0:Nat)∧rE (0:Nat))∧(rE (0:Nat)∧rE (0:Nat))∧rE (x0:Int)∧rE (0:Int)∧True)∧(mE m (((Els.Nil (Els.ints u32 m.Mem)∨rE (1:Nat))∧rE m.Mem)) True)∧(rE (0:Int)∧rE (0:Int)∧rE (0:Int)∧rE (0:Int)∧rE (0:Int)∧rE (0:Int)∧rE (0:Int)∧rE (0:Int)∧rE (0:Int)∧rE (0:Int)∧rE (0:Int)∧rE (0:Int)∧rE (0:Int)∧rE (0:Int)∧rE (0:Int)∧rE (0:Int)∧rE (0:Int)∧rE (0:Int)∧rE (0:Int)∧rE (0:Int)∧rE (0:Int)∧rE (0:Int)∧rE (0:Int)∧rE (0:Int)∧rE (0:Int)∧True)∧True) 0 λ(v0:Int)=> .cn (decide (0≤wrap u64 v0)) (.br (iand u32 (ishr u32 x0 (wrap u64 v0)) (1:Int)==(0:Int)) (.nx (((rE (0:Nat)∧rE (0:Nat))∧(rE (0:Nat)∧rE (0:Nat))∧rE (x0:Int)∧rE ((wrap i64 (v0+1)):Int)∧True)∧(mE m (((Els.Nil (Els.ints u32 m.Mem)∨rE (1:Nat))∧rE m.Mem)) True)∧(rE (0:Int)∧rE (0:Int)∧rE (0:Int)∧rE (0:Int)∧rE (0:Int)∧rE (0:Int)∧rE (0:Int)∧rE (0:Int)∧rE (0:Int)∧rE (0:Int)∧rE (0:Int)∧rE (0:Int)∧rE (0:Int)∧rE (0:Int)∧rE (0:Int)∧rE (0:Int)∧rE (0:Int)∧rE (0:Int)∧rE (0:Int)∧rE (0:Int)∧rE (0:Int)∧rE (0:Int)∧rE (0:Int)∧rE (0:Int)∧rE (0:Int)∧True)∧True) (Sum.inl (wrap i64 (v0+1)))) (.lv (Q30 m.B2 (wrap i64 (16+v0)) 0) λ(x1:Q02)=> .lf (Sum.inr x1))))))
def Q0m(m:Q00):Q02:=(Q4y m).m
abbrev Q7u(m:Q00):Prop:=(Q4y m).p
def Qqd:LInv:={
 α:=(Int)
 F:=λst a=>([(1, .ptr 0 0 0),(2, .ptr 1 0 0),(3,(lk st 3)),(4, .int i64 a)],[⟨true,41,49, .gen [[(cT st 1 0),(cT st 1 1),(cT st 1 2),(cT st 1 3),(cT st 1 4),(cT st 1 5),(cT st 1 6),(cT st 1 7),(cT st 1 8),(cT st 1 9),(cT st 1 10),(cT st 1 11),(cT st 1 12),(cT st 1 13),(cT st 1 14),(cT st 1 15),(cT st 1 16),(cT st 1 17),(cT st 1 18),(cT st 1 19),(cT st 1 20),(cT st 1 21),(cT st 1 22),(cT st 1 23),(cT st 1 24),(cT st 1 25),(cT st 1 26),(cT st 1 27),(cT st 1 28),(cT st 1 29),(cT st 1 30),(cT st 1 31),(cT st 1 32),(cT st 1 33),(cT st 1 34),(cT st 1 35),(cT st 1 36),(cT st 1 37),(cT st 1 38),(cT st 1 39),(cT st 1 40),(cT st 1 41),(cT st 1 42),(cT st 1 43),(cT st 1 44),(cT st 1 45),(cT st 1 46),(cT st 1 47),(cT st 1 48)]]⟩,⟨true,27,25, .gen [[(cT st 2 0),(cT st 2 1),(cT st 2 2),(cT st 2 3),(cT st 2 4),(cT st 2 5),(cT st 2 6),(cT st 2 7),(cT st 2 8),(cT st 2 9),(cT st 2 10),(cT st 2 11),(cT st 2 12),(cT st 2 13),(cT st 2 14),(cT st 2 15),(cT st 2 16),(cT st 2 17),(cT st 2 18),(cT st 2 19),(cT st 2 20),(cT st 2 21),(cT st 2 22),(cT st 2 23),(cT st 2 24)]]⟩])
 a0:=λst=>(lk st 4).toInt
 ex0:=λst=>[]++[(Q0o (lk st 1) (st.rows.length+0)),(Q0o (lk st 2) (st.rows.length+1))]
 next:=λst=>(lk st 4).toInt
 ex:=λst=>[]++[(Q0o (lk st 1) (st.rows.length+0)),(Q0o (lk st 2) (st.rows.length+1))]}
def Qn3:List (Nat×LInv):=[(5,Qqd)]
def Qsd:Q0c:=mkP 102 [] true [.agg Q00.sig] [] (λargs rows=>Q7u (Q00.of (args.getD 0 .dead).cells)) (λargs rows=>Q0m (Q00.of (args.getD 0 .dead).cells)) (λX=> .agg (Q02.cells X)) (λX=>[])
theorem Qcd:Q05 Tryz.prog Qsd:=Q0k Q0i Q0j (.cons Qmm (.cons Qjc (.nil))) Tryz.func102 Tryz.call102 (λargs rows=>Q4y (Q00.of (args.getD 0 .dead).cells)) [] Qn3 3 (λ_ _ _=>by kernel_rfl) (λ_ _=>rfl) (λ_ _ h=>h) (λ_ X=>by kernel_rfl)
def Qf9(m:Q00):Tree Bool:=
.an (Q7u m) (.lv (Q0m m) λ(x0:Q02)=> .br (iand u32 x0.B5.a0 (1:Int)==(0:Int)) (.lf false) (.an (Qd1 m.Mem x0.Pc 4) (.lv (Q1b m.Mem x0.Pc 4) λ(x1:Int×Bool)=> .lv (Q1x x1.1) λ(x2:Q0h×Bool)=> .br x1.2 (.br x2.2 (.br (x2.1.Op==60) (.lf (x2.1.Imm==2)) (.lf false)) (.lf false)) (.lf false))))
def Qkv(m:Q00):Bool:=(Qf9 m).m
abbrev Qjx(m:Q00):Prop:=(Qf9 m).p
def Z9u:Q0c:=mkP 82 [] true [.agg Q00.sig] [] (λargs rows=>Qjx (Q00.of (args.getD 0 .dead).cells)) (λargs rows=>Qkv (Q00.of (args.getD 0 .dead).cells)) (λX=> .bool X) (λX=>[])
theorem Qt5:Q05 Tryz.prog Z9u:=Q0k Q0i Q0j (.cons Qcd (.cons Qmz (.cons Qpm (.nil)))) Tryz.func82 Tryz.call82 (λargs rows=>Qf9 (Q00.of (args.getD 0 .dead).cells)) [] [] 2 (λ_ _ _=>by kernel_rfl) (λ_ _=>rfl) (λ_ _ h=>h) (λ_ X=>by kernel_rfl)
def Q82(m:Q00):Tree Bool:=
.an (Qez m) (.lv (Q11 m) λ(x0:Bool)=> .br x0 (.lf false) (.an (Qjx m) (.lv (Qkv m) λ(x1:Bool)=> .lf x1)))
def Q3o(m:Q00):Bool:=(Q82 m).m
abbrev Qcg(m:Q00):Prop:=(Q82 m).p
def Qtt:Q0c:=mkP 63 [] true [.agg Q00.sig] [] (λargs rows=>Qcg (Q00.of (args.getD 0 .dead).cells)) (λargs rows=>Q3o (Q00.of (args.getD 0 .dead).cells)) (λX=> .bool X) (λX=>[])
theorem Qt0:Q05 Tryz.prog Qtt:=Q0k Q0i Q0j (.cons Qs4 (.cons Qt5 (.nil))) Tryz.func63 Tryz.call63 (λargs rows=>Q82 (Q00.of (args.getD 0 .dead).cells)) [] [] 2 (λ_ _ _=>by kernel_rfl) (λ_ _=>rfl) (λ_ _ h=>h) (λ_ X=>by kernel_rfl)
def Q3w(c:Q0b)(port:Int):Tree (Q0b×Int):=
let T1:Tree ((Q0b×Int)):= .br (port==0) (.cn (decide ((0:Int)≤(1:Int)∧1≤(c.D1.length:Int)∧(c.D1.length:Int)≤(c.D1.length:Int))) (.cn (decide ((0:Int)≤(0:Int)∧0<(c.D1.length:Int))) (.lf ({D1:=List.take (Int.toNat (c.D1.length:Int)-Int.toNat 1) (List.drop (Int.toNat 1) c.D1)},wrap u32 (↑(UInt8.toNat (c.D1.getD (Int.toNat 0) (0:UInt8))):Int))))) (.br (port==1) (.lf (c,wrap u32 (c.D1.length:Int))) (.lf (c,0))); .br (port==0) (.br ((c.D1.length:Int)==(0:Int)) (.lf (c,4294967295)) T1) T1
def Q5r(c:Q0b)(port:Int):(Q0b×Int):=(Q3w c port).m
theorem Qro(c:Q0b)(port:Int):(Q3w c port).p:=by
 unfold Tree.p Q3w
 repeat'(first|exact trivial|refine w_br (λ_=> ?_) (λ_=> ?_)|refine w_cn ?_ ?_|refine w_an ?_ ?_|refine w_lv (λ_ _=> ?_)|refine w_nx ?_|refine w_lf ?_|refine And.intro ?_ ?_)
 all_goals(((subst_vars;first|trivial|assumption|omega|((simp(config:={decide:=true,failIfUnchanged:=false}) only[Bool.and_eq_true,Bool.or_eq_true,Bool.and_eq_false_iff,Bool.or_eq_false_iff,Bool.not_eq_true',Bool.not_eq_false',Bool.not_eq_true,Bool.not_eq_false,decide_eq_true_eq,decide_eq_false_iff_not,Q6b,Q4,Q67,Q40,beq_iff_eq,beq_eq_false_iff_ne,bne_iff_ne,bne_eq_false_iff_eq,ne_eq,List.all_cons,List.all_nil,D.plain,List.length_cons,List.length_nil,List.length_append,List.length_set,List.length_replicate,IntKind.wrap_i64,IntKind.wrap_u64,IntKind.wrap_u32,IntKind.wrap_i32,IntKind.wrap_u8,true_and,and_true,or_false,false_or,or_true,true_or,not_true_eq_false,not_false_eq_true,Prod.fst,Prod.snd]at*);first|done|assumption|omega)|((simp(config:={decide:=true,failIfUnchanged:=false}) only[Bool.and_eq_true,Bool.or_eq_true,Bool.and_eq_false_iff,Bool.or_eq_false_iff,Bool.not_eq_true',Bool.not_eq_false',Bool.not_eq_true,Bool.not_eq_false,decide_eq_true_eq,decide_eq_false_iff_not,Q6b,Q4,Q67,Q40,beq_iff_eq,beq_eq_false_iff_ne,bne_iff_ne,bne_eq_false_iff_eq,ne_eq,List.all_cons,List.all_nil,D.plain,List.length_cons,List.length_nil,List.length_append,List.length_set,List.length_replicate,IntKind.wrap_i64,IntKind.wrap_u64,IntKind.wrap_u32,IntKind.wrap_i32,IntKind.wrap_u8,true_and,and_true,or_false,false_or,or_true,true_or,not_true_eq_false,not_false_eq_true,Prod.fst,Prod.snd]at*);simp only[←List.length_pos_iff]at*;omega)|(simp_all;done)|(have:= @Qhy;simp_all;try omega))))
def Qxa:Q0c:=mkR 153 [] true [.agg Q0b.sig, .one (.int .i64)] [] (λargs rows=>Q5r (Q0b.of (args.getD 0 .dead).cells) (argI args 1)) (λX=> .tup [.agg (Q0b.cells (X.1)), .int .u32 (X.2)]) (λX=>[])
theorem Qkj:Q05 Tryz.prog Qxa:=Q0x Q0i Q0j (.nil) Tryz.func153 Tryz.call153 (λargs rows=>Q3w (Q0b.of (args.getD 0 .dead).cells) (argI args 1)) [] [] 2 (λ_ _ _=>by kernel_rfl) (λ_ _=>rfl) (λargs rows=>Qro (Q0b.of (args.getD 0 .dead).cells) (argI args 1)) (λ_ X=>by kernel_rfl)
def Qf1(t:Q0f):Tree Int:=
.br t.D5 (.lf 1) (.lf 0)
def Qf6(t:Q0f):Int:=(Qf1 t).m
def Z3d:Q0c:=mkR 154 [] true [.agg Q0f.sig] [] (λargs rows=>Qf6 (Q0f.of (args.getD 0 .dead).cells)) (λX=> .int .u32 X) (λX=>[])
theorem Qnd:Q05 Tryz.prog Z3d:=Q0x Q0i Q0j (.nil) Tryz.func154 Tryz.call154 (λargs rows=>Qf1 (Q0f.of (args.getD 0 .dead).cells)) [] [] 2 (λ_ _ _=>by kernel_rfl) (λ_ _=>rfl) (λ_ _=>Tree.free_ok (by kernel_rfl)) (λ_ X=>by kernel_rfl)
def Qgy(d0:Q0e)(port:Int):Tree Int:=
.br (port==4) (.lf d0.B9) (.br (port==5) (.lf d0.B4) (.br (port==6) (.lf (wrap u32 d0.C1)) (.lf 0)))
def Qia(d0:Q0e)(port:Int):Int:=(Qgy d0 port).m
def Z6c:Q0c:=mkR 155 [] true [.agg Q0e.sig, .one (.int .i64)] [] (λargs rows=>Qia (Q0e.of (args.getD 0 .dead).cells) (argI args 1)) (λX=> .int .u32 X) (λX=>[])
theorem Qpk:Q05 Tryz.prog Z6c:=Q0x Q0i Q0j (.nil) Tryz.func155 Tryz.call155 (λargs rows=>Qgy (Q0e.of (args.getD 0 .dead).cells) (argI args 1)) [] [] 2 (λ_ _ _=>by kernel_rfl) (λ_ _=>rfl) (λ_ _=>Tree.free_ok (by kernel_rfl)) (λ_ X=>by kernel_rfl)
def Qfg(n:Q0n)(port:Int):Tree Int:=
.br (port==7) (.lf n.B4) (.br (port==8) (.lf n.F1) (.br (port==9) (.br n.C6 (.br n.B8 (.lf (wrap u32 ((1:Int)+(2:Int)))) (.lf 1)) (.br n.B8 (.lf (wrap u32 ((0:Int)+(2:Int)))) (.lf 0))) (.lf 0)))
def Qh7(n:Q0n)(port:Int):Int:=(Qfg n port).m
def Za9:Q0c:=mkR 156 [] true [.agg Q0n.sig, .one (.int .i64)] [] (λargs rows=>Qh7 (Q0n.of (args.getD 0 .dead).cells) (argI args 1)) (λX=> .int .u32 X) (λX=>[])
theorem Qrc:Q05 Tryz.prog Za9:=Q0x Q0i Q0j (.nil) Tryz.func156 Tryz.call156 (λargs rows=>Qfg (Q0n.of (args.getD 0 .dead).cells) (argI args 1)) [] [] 2 (λ_ _ _=>by kernel_rfl) (λ_ _=>rfl) (λ_ _=>Tree.free_ok (by kernel_rfl)) (λ_ X=>by kernel_rfl)
def Q6k(b:Q06)(port:Int):Tree Int:=
.br (port==10) (.lf b.C9) (.br (port==11) (.lv (Qep b) λ(x0:Int)=> .lf (wrap u32 x0)) (.lf 0))
def Q5l(b:Q06)(port:Int):Int:=(Q6k b port).m
def Qxo:Q0c:=mkR 157 [] true [.agg Q06.sig, .one (.int .i64)] [] (λargs rows=>Q5l (Q06.of (args.getD 0 .dead).cells) (argI args 1)) (λX=> .int .u32 X) (λX=>[])
theorem Qkq:Q05 Tryz.prog Qxo:=Q0x Q0i Q0j (.cons Qrw (.nil)) Tryz.func157 Tryz.call157 (λargs rows=>Q6k (Q06.of (args.getD 0 .dead).cells) (argI args 1)) [] [] 2 (λ_ _ _=>by kernel_rfl) (λ_ _=>rfl) (λ_ _=>Tree.free_ok (by kernel_rfl)) (λ_ X=>by kernel_rfl)
def Qks(m:Q00)(port:Int)(clock:Int):Tree (Int×Q00):=
.br (decide (port≤1)) (.lv (Q5r m.A3 port) λ(x0:Q0b×Int)=> .lf (x0.2,{B2:=m.B2,Mem:=m.Mem,A3:=x0.1,B0:=m.B0,B1:=m.B1,C5:=m.C5,A1:=m.A1,A4:=m.A4,A6:=m.A6,A7:=m.A7})) (.br (port==2) (.lf (clock,m)) (.br (port==3) (.lv (Qf6 m.B0) λ(x1:Int)=> .lf (x1,m)) (.br (decide (port≤6)) (.lv (Qia m.B1 port) λ(x2:Int)=> .lf (x2,m)) (.br (decide (port≤9)) (.lv (Qh7 m.C5 port) λ(x3:Int)=> .lf (x3,m)) (.lv (Q5l m.A1 port) λ(x4:Int)=> .lf (x4,m))))))
def Qdb(m:Q00)(port:Int)(clock:Int):(Int×Q00):=(Qks m port clock).m
def ref7_in_m:Q0c:=mkR 104 [true,false,false] true [.ptr 0, .one (.int .i64), .one (.int .u32)] [.box 41 49 (Q00.sigW (.row 1)), .arr 23 1 (.ints .u32)] (λargs rows=>Qdb (Q00.ofW (rows.getD 0 default).cs (rowL .u32 rows 1)) (argI args 1) (argI args 2)) (λX=> .int .u32 (X.1)) (λX=>[⟨true,41,49, .gen [(Q00.cellsW (X.2) (.all 1))]⟩,⟨false,23,1, .ints .u32 (X.2).Mem⟩])
theorem Zlv:Q05 Tryz.prog ref7_in_m:=Q0x Q0i Q0j (.cons Qkj (.cons Qnd (.cons Qpk (.cons Qrc (.cons Qkq (.nil)))))) Tryz.func104 Tryz.call104 (λargs rows=>Qks (Q00.ofW (rows.getD 0 default).cs (rowL .u32 rows 1)) (argI args 1) (argI args 2)) [.row 23 1 (.ints .u32)] [] 2 (λ_ _ _=>by kernel_rfl) (λ_ _=>rfl) (λ_ _=>Tree.free_ok (by kernel_rfl)) (λ_ X=>by kernel_rfl)
def Qtv(deadline:Int):Tree Q0f:=
.br (deadline==0) (.lf ({D3:=false,C8:=0,D5:=false})) (.lf ({D3:=true,C8:=deadline,D5:=false}))
def Qrh(deadline:Int):Q0f:=(Qtv deadline).m
def Zln:Q0c:=mkR 158 [] true [.one (.int .u32)] [] (λargs rows=>Qrh (argI args 0)) (λX=> .agg (Q0f.cells X)) (λX=>[])
theorem Qzf:Q05 Tryz.prog Zln:=Q0x Q0i Q0j (.nil) Tryz.func158 Tryz.call158 (λargs rows=>Qtv (argI args 0)) [] [] 2 (λ_ _ _=>by kernel_rfl) (λ_ _=>rfl) (λ_ _=>Tree.free_ok (by kernel_rfl)) (λ_ X=>by kernel_rfl)
def Qs6(x:Int)(n:Int)(z:(Int)×(List Int)):Prop:=0≤z.1∧(z.2.length:Int)=z.1∧(z.1≤n∨z.1=0)
def Qf2(x:Int)(n:Int)(z:(Int)×(List Int)):Nat:=(n-z.1).toNat
def Qh9(x:Int)(n:Int):Tree (List UInt8):=
.lp inferInstance (Qf2 x n (0,[])+1) ((rE (x:Int)∧rE (n:Int)∧True∧rE (0:Int)∧True)∧rE ([]:List Int)∧True) (0,[]) λ(v0:Int×List Int)=> .br (decide (v0.1<n)) (.cn (decide (0≤wrap u64 (wrap i64 (8*v0.1)))) (.cn (decide (1*(v0.2.length+1)≤140737488355328)) (.nx ((rE (x:Int)∧rE (n:Int)∧True∧rE ((wrap i64 (v0.1+1)):Int)∧True)∧rE ((v0.2++[wrap u8 (ishr u32 x (wrap u64 (wrap i64 (8*v0.1))))]):List Int)∧True) (Sum.inl (wrap i64 (v0.1+1),v0.2++[wrap u8 (ishr u32 x (wrap u64 (wrap i64 (8*v0.1))))]))))) (.lf (Sum.inr (bytesOf v0.2)))
def Z77(x:Int)(n:Int):(List UInt8):=(Qh9 x n).m
def Qj5(x:Int)(n:Int):Prop:=
n≤1000000000000
theorem Zbs(x:Int)(n:Int)(hw:Qj5 x n):(Qh9 x n).p:=by
 simp only[Qj5]at hw
 unfold Tree.p Qh9
 repeat'(first|refine w_lp (inv:=Qs6 x n) (μ:=Qf2 x n) ?_ (Nat.lt_succ_self _) (λ_ _=> ?_)|exact trivial|refine w_br (λ_=> ?_) (λ_=> ?_)|refine w_cn ?_ ?_|refine w_an ?_ ?_|refine w_lv (λ_ _=> ?_)|refine w_nx ?_|refine w_lf ?_|refine And.intro ?_ ?_)
 all_goals((try simp only[Qs6,Qf2]at*);((subst_vars;first|trivial|assumption|omega|((simp(config:={decide:=true,failIfUnchanged:=false}) only[Bool.and_eq_true,Bool.or_eq_true,Bool.and_eq_false_iff,Bool.or_eq_false_iff,Bool.not_eq_true',Bool.not_eq_false',Bool.not_eq_true,Bool.not_eq_false,decide_eq_true_eq,decide_eq_false_iff_not,Q6b,Q4,Q67,Q40,beq_iff_eq,beq_eq_false_iff_ne,bne_iff_ne,bne_eq_false_iff_eq,ne_eq,List.all_cons,List.all_nil,D.plain,List.length_cons,List.length_nil,List.length_append,List.length_set,List.length_replicate,IntKind.wrap_i64,IntKind.wrap_u64,IntKind.wrap_u32,IntKind.wrap_i32,IntKind.wrap_u8,true_and,and_true,or_false,false_or,or_true,true_or,not_true_eq_false,not_false_eq_true,Prod.fst,Prod.snd]at*);first|done|assumption|omega)|((simp(config:={decide:=true,failIfUnchanged:=false}) only[Bool.and_eq_true,Bool.or_eq_true,Bool.and_eq_false_iff,Bool.or_eq_false_iff,Bool.not_eq_true',Bool.not_eq_false',Bool.not_eq_true,Bool.not_eq_false,decide_eq_true_eq,decide_eq_false_iff_not,Q6b,Q4,Q67,Q40,beq_iff_eq,beq_eq_false_iff_ne,bne_iff_ne,bne_eq_false_iff_eq,ne_eq,List.all_cons,List.all_nil,D.plain,List.length_cons,List.length_nil,List.length_append,List.length_set,List.length_replicate,IntKind.wrap_i64,IntKind.wrap_u64,IntKind.wrap_u32,IntKind.wrap_i32,IntKind.wrap_u8,true_and,and_true,or_false,false_or,or_true,true_or,not_true_eq_false,not_false_eq_true,Prod.fst,Prod.snd]at*);simp only[←List.length_pos_iff]at*;omega)|(simp_all;done)|(have:= @Qhy;simp_all;try omega))))
def Zg0:LInv:={
 α:=(Int)×(List Int)
 F:=λst a=>([(0,(lk st 0)),(1,(lk st 1)),(5, .all 0),(6, .int i64 a.1)],[⟨false,5,1, .ints u8 a.2⟩])
 a0:=λst=>((lk st 6).toInt,(Q5m st.rows (rN st 5)))
 ex0:=λst=>[]++[(Q0o (lk st 5) (st.rows.length+0))]
 next:=λst=>((lk st 6).toInt,(Q5m st.rows (rN st 5)))
 ex:=λst=>[]++[(Q0o (lk st 5) (st.rows.length+0))]}
def Z7w:List (Nat×LInv):=[(3,Zg0)]
def Zjm:Q0c:=mkP 242 [] true [.one (.int .u32), .one (.int .i64)] [] (λargs rows=>Qj5 (argI args 0) (argI args 1)) (λargs rows=>Z77 (argI args 0) (argI args 1)) (λX=> .str X) (λX=>[])
theorem Zh9:Q05 Tryz.prog Zjm:=Q0k Q0i Q0j (.nil) Tryz.func242 Tryz.call242 (λargs rows=>Qh9 (argI args 0) (argI args 1)) [] Z7w 3 (λ_ _ _=>by kernel_rfl) (λ_ _=>rfl) (λargs rows h=>Zbs (argI args 0) (argI args 1) h) (λ_ X=>by kernel_rfl)
def Qi(m:(List Int))(frame:Int)(z:(Int)×(List Int)):Nat:=(32-z.1).toNat
def Qa4(m:(List Int))(frame:Int):Tree ((List UInt8)×Bool):=
.br (decide (frame<0)) (.lf ([],false)) (.lv (Q48 m) λ(x0:Int)=> .br (decide (frame≥x0)) (.lf ([],false)) (.lp inferInstance (Qi m frame (0,[])+1) ((((Els.Nil (Els.ints u32 m)∨rE (1:Nat))∧rE (m:List Int))∧rE (frame:Int)∧True∧rE (0:Int)∧True)∧rE ([]:List Int)∧True) (0,[]) λ(v0:Int×List Int)=> .br (decide (v0.1<32)) (.cn (Nat.beq 1 1&&Nat.blt 0 1&&decide (0≤wrap i64 (wrap i64 (frame*32)+v0.1)∧wrap i64 (wrap i64 (frame*32)+v0.1)<(m.length:Int))) (let E1:=m.getD (Int.toNat (wrap i64 (wrap i64 (frame*32)+v0.1))) 0; .an (Qj5 E1 4) (.lv (Z77 E1 4) λ(x1:List UInt8)=> .cn (decide (1*(v0.2.length+List.length (Qbn x1))≤140737488355328)) (.nx ((((Els.Nil (Els.ints u32 m)∨rE (1:Nat))∧rE (m:List Int))∧rE (frame:Int)∧True∧rE ((wrap i64 (v0.1+1)):Int)∧True)∧rE ((v0.2++Qbn x1):List Int)∧True) (Sum.inl (wrap i64 (v0.1+1),v0.2++Qbn x1)))))) (.lf (Sum.inr (bytesOf v0.2,true)))))
def Qiu(m:(List Int))(frame:Int):((List UInt8)×Bool):=(Qa4 m frame).m
abbrev Qgv(m:(List Int))(frame:Int):Prop:=(Qa4 m frame).p
def Zde:LInv:={
 α:=(Int)×(List Int)
 F:=λst a=>([(0,(lk st 0)),(1,(lk st 1)),(6, .all 0),(7, .int i64 a.1)],[⟨false,5,1, .ints u8 a.2⟩])
 a0:=λst=>((lk st 7).toInt,(Q5m st.rows (rN st 6)))
 ex0:=λst=>[]++[(Q0o (lk st 6) (st.rows.length+0))]
 next:=λst=>((lk st 7).toInt,(Q5m st.rows (rN st 6)))
 ex:=λst=>[]++[(Q0o (lk st 6) (st.rows.length+0))]}
def Z3w:List (Nat×LInv):=[(5,Zde)]
def Zfz:Q0c:=mkP 212 [] true [.one (.ints .u32), .one (.int .i64)] [] (λargs rows=>Qgv (argL .u32 args 0) (argI args 1)) (λargs rows=>Qiu (argL .u32 args 0) (argI args 1)) (λX=> .tup [.str (X.1), .bool (X.2)]) (λX=>[])
theorem Qwf:Q05 Tryz.prog Zfz:=Q0k Q0i Q0j (.cons Qd8 (.cons Zh9 (.nil))) Tryz.func212 Tryz.call212 (λargs rows=>Qa4 (argL .u32 args 0) (argI args 1)) [] Z3w 3 (λ_ _ _=>by kernel_rfl) (λ_ _=>rfl) (λ_ _ h=>h) (λ_ X=>by kernel_rfl)
def Qpn(d0:Q0e)(at0:Int):Tree (Q04×Bool):=
.br (d0.C1 !=1) (.lf ({B7:=0,At:=0,B9:=0,C7:=[]},false)) (.br (d0.D7==1) (.lf ({B7:=3,At:=at0,B9:=d0.B6,C7:=[]},true)) (.br (d0.D7==2) (.lf ({B7:=4,At:=at0,B9:=d0.B6,C7:=d0.C4},true)) (.lf ({B7:=0,At:=0,B9:=0,C7:=[]},false))))
def Qji(d0:Q0e)(at0:Int):(Q04×Bool):=(Qpn d0 at0).m
def Z2u:Q0c:=mkR 213 [] true [.agg Q0e.sig, .one (.int .u64)] [] (λargs rows=>Qji (Q0e.of (args.getD 0 .dead).cells) (argI args 1)) (λX=> .tup [.agg (Q04.cells (X.1)), .bool (X.2)]) (λX=>[])
theorem Z1n:Q05 Tryz.prog Z2u:=Q0x Q0i Q0j (.nil) Tryz.func213 Tryz.call213 (λargs rows=>Qpn (Q0e.of (args.getD 0 .dead).cells) (argI args 1)) [] [] 2 (λ_ _ _=>by kernel_rfl) (λ_ _=>rfl) (λ_ _=>Tree.free_ok (by kernel_rfl)) (λ_ X=>by kernel_rfl)
def Q94(d0:Q0e)(m:(List Int))(port:Int)(v:Int)(at0:Int):Tree (Q0e×(List Q04)):=
.br (port==4) (.lf ({Blocks:=d0.Blocks,B9:=v,B4:=d0.B4,C1:=d0.C1,D7:=d0.D7,B6:=d0.B6,B3:=d0.B3,C4:=d0.C4},[])) (.br (port==5) (.lf ({Blocks:=d0.Blocks,B9:=d0.B9,B4:=v,C1:=d0.C1,D7:=d0.D7,B6:=d0.B6,B3:=d0.B3,C4:=d0.C4},[])) (.br (port !=6) (.lf (d0,[])) (let T1:Tree ((Q0e×(List Q04))):= .br (d0.C1==0) (let T2:Tree ((Q0e×(List Q04))):= .lf ({Blocks:=d0.Blocks,B9:=d0.B9,B4:=d0.B4,C1:=3,D7:=d0.D7,B6:=d0.B6,B3:=d0.B3,C4:=d0.C4},[]); .br (decide (d0.B9≥d0.Blocks)) T2 (.lv (Q24 m d0.B4) λ(x0:Bool)=> .br (!x0) T2 (.br (v==2) (.an (Qgv m (wrap i64 d0.B4)) (.lv (Qiu m (wrap i64 d0.B4)) λ(x1:List UInt8×Bool)=>let E4:=({Blocks:=d0.Blocks,B9:=d0.B9,B4:=d0.B4,C1:=1,D7:=wrap i64 v,B6:=d0.B9,B3:=d0.B4,C4:=x1.1}:Q0e); .lv (Qji E4 at0) λ(x2:Q04×Bool)=> .lf (E4,[x2.1]))) (let E5:=({Blocks:=d0.Blocks,B9:=d0.B9,B4:=d0.B4,C1:=1,D7:=wrap i64 v,B6:=d0.B9,B3:=d0.B4,C4:=[]}:Q0e); .lv (Qji E5 at0) λ(x3:Q04×Bool)=> .lf (E5,[x3.1]))))) (.lf (d0,[])); .br (v==0) (let T3:Tree ((Q0e×(List Q04))):= .lf ({Blocks:=d0.Blocks,B9:=d0.B9,B4:=d0.B4,C1:=0,D7:=d0.D7,B6:=d0.B6,B3:=d0.B3,C4:=d0.C4},[]); .br (d0.C1==2) T3 (.br (d0.C1==3) T3 (.br (v==1) T1 (.br (v==2) T1 (.lf (d0,[])))))) (.br (v==1) T1 (.br (v==2) T1 (.lf (d0,[])))))))
def Qfa(d0:Q0e)(m:(List Int))(port:Int)(v:Int)(at0:Int):(Q0e×(List Q04)):=(Q94 d0 m port v at0).m
abbrev Qgb(d0:Q0e)(m:(List Int))(port:Int)(v:Int)(at0:Int):Prop:=(Q94 d0 m port v at0).p
def Z2f:Q0c:=mkP 159 [] true [.agg Q0e.sig, .one (.ints .u32), .one (.int .i64), .one (.int .u32), .one (.int .u64)] [] (λargs rows=>Qgb (Q0e.of (args.getD 0 .dead).cells) (argL .u32 args 1) (argI args 2) (argI args 3) (argI args 4)) (λargs rows=>Qfa (Q0e.of (args.getD 0 .dead).cells) (argL .u32 args 1) (argI args 2) (argI args 3) (argI args 4)) (λX=> .tup [.agg (Q0e.cells (X.1)), .sl 4 (.recs .apiOutput (X.2)) true]) (λX=>[])
theorem Qnv:Q05 Tryz.prog Z2f:=Q0k Q0i Q0j (.cons Qf5 (.cons Qwf (.cons Z1n (.nil)))) Tryz.func159 Tryz.call159 (λargs rows=>Q94 (Q0e.of (args.getD 0 .dead).cells) (argL .u32 args 1) (argI args 2) (argI args 3) (argI args 4)) [.sl (.recs .apiOutput) true] [] 2 (λ_ _ _=>by kernel_rfl) (λ_ _=>rfl) (λ_ _ h=>h) (λ_ X=>by kernel_rfl)
def Qaw(n:Q0n)(m:(List Int))(port:Int)(v:Int)(at0:Int):Tree (Q0n×(List Q04)):=
.br (port==7) (.lf ({B4:=v,E0:=n.E0,C6:=n.C6,C0:=n.C0,B8:=n.B8,F1:=n.F1},[])) (.br (port==8) (.lf ({B4:=n.B4,E0:=v,C6:=n.C6,C0:=n.C0,B8:=n.B8,F1:=n.F1},[])) (.br (port !=9) (.lf (n,[])) (.br (v==0) (.lf ({B4:=n.B4,E0:=n.E0,C6:=n.C6,C0:=n.C0,B8:=false,F1:=0},[])) (let T1:Tree ((Q0n×(List Q04))):= .br (v==2) (.lv (Q24 m n.B4) λ(x2:Bool)=> .br x2 (.br (!n.C6) (.br (!n.B8) (.lf ({B4:=n.B4,E0:=n.E0,C6:=true,C0:=n.B4,B8:=n.B8,F1:=n.F1},[])) (.lf (n,[]))) (.lf (n,[]))) (.lf (n,[]))) (.lf (n,[])); .br (v==1) (.br (decide (n.E0≥1)) (.br (decide (n.E0≤128)) (.lv (Q24 m n.B4) λ(x0:Bool)=> .br x0 (.an (Qgv m (wrap i64 n.B4)) (.lv (Qiu m (wrap i64 n.B4)) λ(x1:List UInt8×Bool)=> .cn (decide ((0:Int)≤(0:Int)∧0≤n.E0∧n.E0≤(x1.1.length:Int))) (.lf (n,[{B7:=2,At:=at0,B9:=0,C7:=List.take (Int.toNat n.E0-Int.toNat 0) (List.drop (Int.toNat 0) x1.1)}])))) T1) T1) T1) T1))))
def Qid(n:Q0n)(m:(List Int))(port:Int)(v:Int)(at0:Int):(Q0n×(List Q04)):=(Qaw n m port v at0).m
abbrev Qie(n:Q0n)(m:(List Int))(port:Int)(v:Int)(at0:Int):Prop:=(Qaw n m port v at0).p
def Z8m:Q0c:=mkP 160 [] true [.agg Q0n.sig, .one (.ints .u32), .one (.int .i64), .one (.int .u32), .one (.int .u64)] [] (λargs rows=>Qie (Q0n.of (args.getD 0 .dead).cells) (argL .u32 args 1) (argI args 2) (argI args 3) (argI args 4)) (λargs rows=>Qid (Q0n.of (args.getD 0 .dead).cells) (argL .u32 args 1) (argI args 2) (argI args 3) (argI args 4)) (λX=> .tup [.agg (Q0n.cells (X.1)), .sl 4 (.recs .apiOutput (X.2)) true]) (λX=>[])
theorem Qpl:Q05 Tryz.prog Z8m:=Q0k Q0i Q0j (.cons Qf5 (.cons Qwf (.nil))) Tryz.func160 Tryz.call160 (λargs rows=>Qaw (Q0n.of (args.getD 0 .dead).cells) (argL .u32 args 1) (argI args 2) (argI args 3) (argI args 4)) [.sl (.recs .apiOutput) true] [] 2 (λ_ _ _=>by kernel_rfl) (λ_ _=>rfl) (λ_ _ h=>h) (λ_ X=>by kernel_rfl)
def Qhi(b:Q06)(m:(List Int))(port:Int)(v:Int)(z:(Int)×(List Int)):Nat:=(32-z.1).toNat
def Q54(b:Q06)(m:(List Int))(port:Int)(v:Int):Tree (Q06×(List Int)):=
let T1:Tree ((Q06×(List Int))):= .br (port==11) (.br (decide (v<32)) (.cn (decide (0≤v)) (.lf ({C9:=b.C9,C2:=Qgn u32 b.C2 (ishl u32 1 v)},m))) (.lf (b,m))) (.lf (b,m)); .br (port==10) (.lv (Q24 m v) λ(x0:Bool)=> .br x0 (.cn (decide (0≤v)) (.br (iand u32 (ishr u32 b.C2 v) (1:Int)==(0:Int)) (.cn (decide (0≤v)) (.lp inferInstance (Qhi b m port v (0,m)+1) ((True∧rE (v:Int)∧(rE (0:Nat)∧rE (0:Nat))∧(rE (0:Nat)∧rE (0:Nat))∧rE (0:Int)∧True)∧rE (m:List Int)∧(rE b.C9∧rE ((ior u32 b.C2 (ishl u32 1 v)):Int)∧True)∧(rE (0:Int)∧rE (0:Int)∧True)∧True) (0,m) λ(v0:Int×List Int)=> .br (decide (v0.1<32)) (let E2:=wrap i64 (wrap i64 v*32)+v0.1; .cn (Nat.beq 1 1&&Nat.blt 0 1&&decide (0≤wrap i64 E2∧wrap i64 E2<(v0.2.length:Int))) (.nx ((True∧rE (v:Int)∧(rE (0:Nat)∧rE (0:Nat))∧(rE (0:Nat)∧rE (0:Nat))∧rE ((wrap i64 (v0.1+1)):Int)∧True)∧rE ((List.set v0.2 (Int.toNat (wrap i64 (wrap i64 (wrap i64 v*32)+v0.1))) 0):List Int)∧(rE b.C9∧rE ((ior u32 b.C2 (ishl u32 1 v)):Int)∧True)∧(rE (0:Int)∧rE (0:Int)∧True)∧True) (Sum.inl (wrap i64 (v0.1+1),List.set v0.2 (Int.toNat (wrap i64 E2)) 0)))) (.lf (Sum.inr ({C9:=b.C9,C2:=ior u32 b.C2 (ishl u32 1 v)},v0.2))))) T1)) T1) T1
def Q72(b:Q06)(m:(List Int))(port:Int)(v:Int):(Q06×(List Int)):=(Q54 b m port v).m
abbrev Qlj(b:Q06)(m:(List Int))(port:Int)(v:Int):Prop:=(Q54 b m port v).p
def Z9z:LInv:={
 α:=(Int)×(List Int)
 F:=λst a=>([(1, .all 0),(3,(lk st 3)),(4, .ptr 1 0 0),(8, .ptr 2 0 0),(9, .int i64 a.1)],[⟨false,23,1, .ints u32 a.2⟩,⟨true,38,2, .gen [[(cT st 4 0),(cT st 4 1)]]⟩,⟨true,38,2, .gen [[(cT st 8 0),(cT st 8 1)]]⟩])
 a0:=λst=>((lk st 9).toInt,(Q5m st.rows 0))
 ex0:=λst=>[0]++[(Q0o (lk st 4) (st.rows.length+1)),(Q0o (lk st 8) (st.rows.length+2))]
 next:=λst=>((lk st 9).toInt,(Q5m st.rows 0))
 ex:=λst=>[0]++[(Q0o (lk st 4) (st.rows.length+1)),(Q0o (lk st 8) (st.rows.length+2))]}
def Z3a:List (Nat×LInv):=[(4,Z9z)]
def Zee:Q0c:=mkP 161 [false,true,false,false] true [.agg Q06.sig, .one (.row 0), .one (.int .i64), .one (.int .u32)] [.arr 23 1 (.ints .u32)] (λargs rows=>Qlj (Q06.of (args.getD 0 .dead).cells) (rowL .u32 rows 0) (argI args 2) (argI args 3)) (λargs rows=>Q72 (Q06.of (args.getD 0 .dead).cells) (rowL .u32 rows 0) (argI args 2) (argI args 3)) (λX=> .agg (Q06.cells (X.1))) (λX=>[⟨false,23,1, .ints .u32 (X.2)⟩])
theorem Qvt:Q05 Tryz.prog Zee:=Q0k Q0i Q0j (.cons Qf5 (.nil)) Tryz.func161 Tryz.call161 (λargs rows=>Q54 (Q06.of (args.getD 0 .dead).cells) (rowL .u32 rows 0) (argI args 2) (argI args 3)) [] Z3a 3 (λ_ _ _=>by kernel_rfl) (λ_ _=>rfl) (λ_ _ h=>h) (λ_ X=>by kernel_rfl)
def Qej(m:Q00)(port:Int)(v:Int):Tree ((List Q04)×Q00):=
.br (port==0) (.lf ([{B7:=1,At:=m.A4,B9:=0,C7:=[(λ(n:Int)=>UInt8.ofNat n.toNat) (wrap u8 v)]}],m)) (.br (decide (port≤2)) (.lf ([],m)) (.br (port==3) (.lv (Qrh v) λ(x0:Q0f)=> .lf ([],{B2:=m.B2,Mem:=m.Mem,A3:=m.A3,B0:=x0,B1:=m.B1,C5:=m.C5,A1:=m.A1,A4:=m.A4,A6:=m.A6,A7:=m.A7})) (.br (decide (port≤6)) (.an (Qgb m.B1 m.Mem port v m.A4) (.lv (Qfa m.B1 m.Mem port v m.A4) λ(x1:Q0e×List Q04)=> .lf (x1.2,{B2:=m.B2,Mem:=m.Mem,A3:=m.A3,B0:=m.B0,B1:=x1.1,C5:=m.C5,A1:=m.A1,A4:=m.A4,A6:=m.A6,A7:=m.A7}))) (.br (decide (port≤9)) (.an (Qie m.C5 m.Mem port v m.A4) (.lv (Qid m.C5 m.Mem port v m.A4) λ(x2:Q0n×List Q04)=> .lf (x2.2,{B2:=m.B2,Mem:=m.Mem,A3:=m.A3,B0:=m.B0,B1:=m.B1,C5:=x2.1,A1:=m.A1,A4:=m.A4,A6:=m.A6,A7:=m.A7}))) (.an (Qlj m.A1 m.Mem port v) (.lv (Q72 m.A1 m.Mem port v) λ(x3:Q06×List Int)=> .lf ([],{B2:=m.B2,Mem:=x3.2,A3:=m.A3,B0:=m.B0,B1:=m.B1,C5:=m.C5,A1:=x3.1,A4:=m.A4,A6:=m.A6,A7:=m.A7})))))))
def Qb0(m:Q00)(port:Int)(v:Int):((List Q04)×Q00):=(Qej m port v).m
abbrev Qw9(m:Q00)(port:Int)(v:Int):Prop:=(Qej m port v).p
def Zkm:Q0c:=mkP 106 [true,false,false] true [.ptr 0, .one (.int .i64), .one (.int .u32)] [.box 41 49 (Q00.sigW (.row 1)), .arr 23 1 (.ints .u32)] (λargs rows=>Qw9 (Q00.ofW (rows.getD 0 default).cs (rowL .u32 rows 1)) (argI args 1) (argI args 2)) (λargs rows=>Qb0 (Q00.ofW (rows.getD 0 default).cs (rowL .u32 rows 1)) (argI args 1) (argI args 2)) (λX=> .sl 4 (.recs .apiOutput (X.1)) true) (λX=>[⟨true,41,49, .gen [(Q00.cellsW (X.2) (.all 1))]⟩,⟨false,23,1, .ints .u32 (X.2).Mem⟩])
theorem Zg5:Q05 Tryz.prog Zkm:=Q0k Q0i Q0j (.cons Qzf (.cons Qnv (.cons Qpl (.cons Qvt (.nil))))) Tryz.func106 Tryz.call106 (λargs rows=>Qej (Q00.ofW (rows.getD 0 default).cs (rowL .u32 rows 1)) (argI args 1) (argI args 2)) [.sl (.recs .apiOutput) true, .row 23 1 (.ints .u32)] [] 2 (λ_ _ _=>by kernel_rfl) (λ_ _=>rfl) (λ_ _ h=>h) (λ_ X=>by kernel_rfl)
def Q95(m:Q00)(clock:Int):Tree ((List Q04)×Q00):=
.an (Q7u m) (.lv (Q0m m) λ(x0:Q02)=> .an (Qqh x0 m.Mem) (.lv (Q8r x0 m.Mem) λ(x1:Q02×Q10×List Int)=>let E1:=({B2:=x1.1,Mem:=x1.2.2,A3:=m.A3,B0:=m.B0,B1:=m.B1,C5:=m.C5,A1:=m.A1,A4:=m.A4,A6:=false,A7:=m.A7}:Q00); .br (x1.2.1.B7==1) (.lv (Qdb E1 x1.2.1.D0 clock) λ(x2:Int×Q00)=> .an (Q3d x2.2.B2 x1.2.1.D9 x2.1) (.lv (Q1r x2.2.B2 x1.2.1.D9 x2.1) λ(x3:Q02)=> .lf ([],{B2:=x3,Mem:=x2.2.Mem,A3:=x2.2.A3,B0:=x2.2.B0,B1:=x2.2.B1,C5:=x2.2.C5,A1:=x2.2.A1,A4:=wrap u64 (x2.2.A4+1),A6:=x2.2.A6,A7:=x2.2.A7}))) (.br (x1.2.1.B7==2) (.an (Qw9 E1 x1.2.1.D0 x1.2.1.Value) (.lv (Qb0 E1 x1.2.1.D0 x1.2.1.Value) λ(x4:List Q04×Q00)=> .lf (x4.1,{B2:=x4.2.B2,Mem:=x4.2.Mem,A3:=x4.2.A3,B0:=x4.2.B0,B1:=x4.2.B1,C5:=x4.2.C5,A1:=x4.2.A1,A4:=wrap u64 (x4.2.A4+1),A6:=x4.2.A6,A7:=x4.2.A7}))) (.br (x1.2.1.B7==3) (.lf ([],{B2:=x1.1,Mem:=x1.2.2,A3:=m.A3,B0:=m.B0,B1:=m.B1,C5:=m.C5,A1:=m.A1,A4:=wrap u64 (m.A4+1),A6:=true,A7:=m.A7})) (.br (x1.2.1.B7==4) (.lf ([],{B2:=x1.1,Mem:=x1.2.2,A3:=m.A3,B0:=m.B0,B1:=m.B1,C5:=m.C5,A1:=m.A1,A4:=wrap u64 (m.A4+1),A6:=false,A7:=true})) (.lf ([],{B2:=x1.1,Mem:=x1.2.2,A3:=m.A3,B0:=m.B0,B1:=m.B1,C5:=m.C5,A1:=m.A1,A4:=wrap u64 (m.A4+1),A6:=false,A7:=m.A7})))))))
def Q0s(m:Q00)(clock:Int):((List Q04)×Q00):=(Q95 m clock).m
abbrev Qmf(m:Q00)(clock:Int):Prop:=(Q95 m clock).p
def Z37:Q0c:=mkP 64 [true,false] true [.ptr 0, .one (.int .u32)] [.box 41 49 (Q00.sigW (.row 1)), .arr 23 1 (.ints .u32)] (λargs rows=>Qmf (Q00.ofW (rows.getD 0 default).cs (rowL .u32 rows 1)) (argI args 1)) (λargs rows=>Q0s (Q00.ofW (rows.getD 0 default).cs (rowL .u32 rows 1)) (argI args 1)) (λX=> .sl 4 (.recs .apiOutput (X.1)) true) (λX=>[⟨true,41,49, .gen [(Q00.cellsW (X.2) (.all 1))]⟩,⟨false,23,1, .ints .u32 (X.2).Mem⟩])
theorem Qza:Q05 Tryz.prog Z37:=Q0k Q0i Q0j (.cons Qcd (.cons Z54 (.cons Zlv (.cons Qeu (.cons Zg5 (.nil)))))) Tryz.func64 Tryz.call64 (λargs rows=>Q95 (Q00.ofW (rows.getD 0 default).cs (rowL .u32 rows 1)) (argI args 1)) [.sl (.recs .apiOutput) true, .row 23 1 (.ints .u32)] [] 2 (λ_ _ _=>by kernel_rfl) (λ_ _=>rfl) (λ_ _ h=>h) (λ_ X=>by kernel_rfl)
end
end Go.Proofs.YtpcbkbalabgnlaaGreat

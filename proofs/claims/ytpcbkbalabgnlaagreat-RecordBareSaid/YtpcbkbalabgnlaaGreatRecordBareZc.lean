/-
  Functions of the program: models, and that its calls come to them (by a program: gen3.py).
-/
import Derived.Test.YtpcbkbalabgnlaaGreatRecordBareBase
import Derived.Test.YtpcbkbalabgnlaaGreatRecordBareZa
import Derived.Test.YtpcbkbalabgnlaaGreatRecordBareZb
set_option maxRecDepth 100000
set_option linter.unusedVariables false
set_option linter.unusedSimpArgs false
namespace Go.Proofs.YtpcbkbalabgnlaaGreat
open Go Go.GD Go.IntKind
noncomputable section
def Qib(steps:Int):Tree Int:=
.lf (if 4000<if 0>steps then 0 else steps then 4000 else if 0>steps then 0 else steps)
def Q0q(steps:Int):Int:=(Qib steps).m
def Z4i(t:Q0g)(now:Int):Tree Bool:=
.br t.D2 (.lf (decide (now≥t.C8))) (.lf false)
def Q7r(t:Q0g)(now:Int):Bool:=(Z4i t now).m
def Qdu(m:Q00)(z:(Int)):Nat:=(32-z).toNat
def Q50(m:Q00):Tree Q04:=
.an (Qg3 m) (.lv (Q3h m) λ(x0:Int)=> .br (iand u32 m.B2.B6.a0 (2:Int)==(0:Int)) (.lf m.B2) (.br (x0==0) (.lf m.B2) (.lp inferInstance (Qdu m 0+1) (((rE (0:Nat)∧rE (0:Nat))∧(rE (0:Nat)∧rE (0:Nat))∧rE (x0:Int)∧rE (0:Int)∧True)∧(mE m (((Els.Nil (Els.ints u32 m.Mem)∨rE (1:Nat))∧rE m.Mem)) True)∧(rE (0:Int)∧rE (0:Int)∧rE (0:Int)∧rE (0:Int)∧rE (0:Int)∧rE (0:Int)∧rE (0:Int)∧rE (0:Int)∧rE (0:Int)∧rE (0:Int)∧rE (0:Int)∧rE (0:Int)∧rE (0:Int)∧rE (0:Int)∧rE (0:Int)∧rE (0:Int)∧rE (0:Int)∧rE (0:Int)∧rE (0:Int)∧rE (0:Int)∧rE (0:Int)∧rE (0:Int)∧rE (0:Int)∧rE (0:Int)∧rE (0:Int)∧True)∧True) 0 λ(v0:Int)=> .cn (decide (0≤wrap u64 v0)) (.br (iand u32 (ishr u32 x0 (wrap u64 v0)) (1:Int)==(0:Int)) (.nx (((rE (0:Nat)∧rE (0:Nat))∧(rE (0:Nat)∧rE (0:Nat))∧rE (x0:Int)∧rE ((wrap i64 (v0+1)):Int)∧True)∧(mE m (((Els.Nil (Els.ints u32 m.Mem)∨rE (1:Nat))∧rE m.Mem)) True)∧(rE (0:Int)∧rE (0:Int)∧rE (0:Int)∧rE (0:Int)∧rE (0:Int)∧rE (0:Int)∧rE (0:Int)∧rE (0:Int)∧rE (0:Int)∧rE (0:Int)∧rE (0:Int)∧rE (0:Int)∧rE (0:Int)∧rE (0:Int)∧rE (0:Int)∧rE (0:Int)∧rE (0:Int)∧rE (0:Int)∧rE (0:Int)∧rE (0:Int)∧rE (0:Int)∧rE (0:Int)∧rE (0:Int)∧rE (0:Int)∧rE (0:Int)∧True)∧True) (Sum.inl (wrap i64 (v0+1)))) (.lv (Q3c m.B2 (wrap i64 (16+v0)) 0) λ(x1:Q04)=> .lf (Sum.inr x1))))))
def Q0l(m:Q00):Q04:=(Q50 m).m
abbrev Q7m(m:Q00):Prop:=(Q50 m).p
def Qqp:LInv:={
 α:=(Int)
 F:=λst a=>([(1, .ptr 0 0 0),(2, .ptr 1 0 0),(3,(lk st 3)),(4, .int i64 a)],[⟨true,41,49, .gen [[(cT st 1 0),(cT st 1 1),(cT st 1 2),(cT st 1 3),(cT st 1 4),(cT st 1 5),(cT st 1 6),(cT st 1 7),(cT st 1 8),(cT st 1 9),(cT st 1 10),(cT st 1 11),(cT st 1 12),(cT st 1 13),(cT st 1 14),(cT st 1 15),(cT st 1 16),(cT st 1 17),(cT st 1 18),(cT st 1 19),(cT st 1 20),(cT st 1 21),(cT st 1 22),(cT st 1 23),(cT st 1 24),(cT st 1 25),(cT st 1 26),(cT st 1 27),(cT st 1 28),(cT st 1 29),(cT st 1 30),(cT st 1 31),(cT st 1 32),(cT st 1 33),(cT st 1 34),(cT st 1 35),(cT st 1 36),(cT st 1 37),(cT st 1 38),(cT st 1 39),(cT st 1 40),(cT st 1 41),(cT st 1 42),(cT st 1 43),(cT st 1 44),(cT st 1 45),(cT st 1 46),(cT st 1 47),(cT st 1 48)]]⟩,⟨true,27,25, .gen [[(cT st 2 0),(cT st 2 1),(cT st 2 2),(cT st 2 3),(cT st 2 4),(cT st 2 5),(cT st 2 6),(cT st 2 7),(cT st 2 8),(cT st 2 9),(cT st 2 10),(cT st 2 11),(cT st 2 12),(cT st 2 13),(cT st 2 14),(cT st 2 15),(cT st 2 16),(cT st 2 17),(cT st 2 18),(cT st 2 19),(cT st 2 20),(cT st 2 21),(cT st 2 22),(cT st 2 23),(cT st 2 24)]]⟩])
 a0:=λst=>(lk st 4).toInt
 ex0:=λst=>[]++[(Q0x (lk st 1) (st.rows.length+0)),(Q0x (lk st 2) (st.rows.length+1))]
 next:=λst=>(lk st 4).toInt
 ex:=λst=>[]++[(Q0x (lk st 1) (st.rows.length+0)),(Q0x (lk st 2) (st.rows.length+1))]}
def Qnh:List (Nat×LInv):=[(5,Qqp)]
def Qrd:Q0d:=mkP 102 [] true [.agg Q00.sig] [] (λargs rows=>Q7m (Q00.of (args.getD 0 .dead).cells)) (λargs rows=>Q0l (Q00.of (args.getD 0 .dead).cells)) (λX=> .agg (Q04.cells X)) (λX=>[])
theorem Qhr:Q07 Tryz.prog Qrd:=Q0p Q0j Q0k (.cons Qmn (.cons Qjc (.nil))) Tryz.func102 Tryz.call102 (λargs rows=>Q50 (Q00.of (args.getD 0 .dead).cells)) [] Qnh 3 (λ_ _ _=>by kernel_rfl) (λ_ _=>rfl) (λ_ _ h=>h) (λ_ X=>by kernel_rfl)
def Qff(m:Q00):Tree Bool:=
.an (Q7m m) (.lv (Q0l m) λ(x0:Q04)=> .br (iand u32 x0.B6.a0 (1:Int)==(0:Int)) (.lf false) (.an (Qdn m.Mem x0.Pc 4) (.lv (Q1d m.Mem x0.Pc 4) λ(x1:Int×Bool)=> .lv (Q22 x1.1) λ(x2:Q0i×Bool)=> .br x1.2 (.br x2.2 (.br (x2.1.Op==60) (.lf (x2.1.Imm==2)) (.lf false)) (.lf false)) (.lf false))))
def Qek(m:Q00):Bool:=(Qff m).m
abbrev Qk0(m:Q00):Prop:=(Qff m).p
def Zby:Q0d:=mkP 82 [] true [.agg Q00.sig] [] (λargs rows=>Qk0 (Q00.of (args.getD 0 .dead).cells)) (λargs rows=>Qek (Q00.of (args.getD 0 .dead).cells)) (λX=> .bool X) (λX=>[])
theorem Z87:Q07 Tryz.prog Zby:=Q0p Q0j Q0k (.cons Qhr (.cons Qo (.cons Qpe (.nil)))) Tryz.func82 Tryz.call82 (λargs rows=>Qff (Q00.of (args.getD 0 .dead).cells)) [] [] 2 (λ_ _ _=>by kernel_rfl) (λ_ _=>rfl) (λ_ _ h=>h) (λ_ X=>by kernel_rfl)
def Qko(m:Q00):Tree Bool:=
.an (Qjs m) (.lv (Q0u m) λ(x0:Bool)=> .br x0 (.lf false) (.an (Qk0 m) (.lv (Qek m) λ(x1:Bool)=> .lf x1)))
def Q1g(m:Q00):Bool:=(Qko m).m
abbrev Qiq(m:Q00):Prop:=(Qko m).p
def Q42(c:Q0b)(port:Int):Tree (Q0b×Int):=
let T1:Tree ((Q0b×Int)):= .br (port==0) (.cn (decide ((0:Int)≤(1:Int)∧1≤(c.D3.length:Int)∧(c.D3.length:Int)≤(c.D3.length:Int))) (.cn (decide ((0:Int)≤(0:Int)∧0<(c.D3.length:Int))) (.lf ({D3:=List.take (Int.toNat (c.D3.length:Int)-Int.toNat 1) (List.drop (Int.toNat 1) c.D3)},wrap u32 (↑(UInt8.toNat (c.D3.getD (Int.toNat 0) (0:UInt8))):Int))))) (.br (port==1) (.lf (c,wrap u32 (c.D3.length:Int))) (.lf (c,0))); .br (port==0) (.br ((c.D3.length:Int)==(0:Int)) (.lf (c,4294967295)) T1) T1
def Q5w(c:Q0b)(port:Int):(Q0b×Int):=(Q42 c port).m
theorem Qss(c:Q0b)(port:Int):(Q42 c port).p:=by
 unfold Tree.p Q42
 repeat'(first|exact trivial|refine w_br (λ_=> ?_) (λ_=> ?_)|refine w_cn ?_ ?_|refine w_an ?_ ?_|refine w_lv (λ_ _=> ?_)|refine w_nx ?_|refine w_lf ?_|refine And.intro ?_ ?_)
 all_goals(((subst_vars;first|trivial|assumption|omega|((simp(config:={decide:=true,failIfUnchanged:=false}) only[Bool.and_eq_true,Bool.or_eq_true,Bool.and_eq_false_iff,Bool.or_eq_false_iff,Bool.not_eq_true',Bool.not_eq_false',Bool.not_eq_true,Bool.not_eq_false,decide_eq_true_eq,decide_eq_false_iff_not,Q57,Q3m,Q5a,Q3n,beq_iff_eq,beq_eq_false_iff_ne,bne_iff_ne,bne_eq_false_iff_eq,ne_eq,List.all_cons,List.all_nil,D.plain,List.length_cons,List.length_nil,List.length_append,List.length_set,List.length_replicate,IntKind.wrap_i64,IntKind.wrap_u64,IntKind.wrap_u32,IntKind.wrap_i32,IntKind.wrap_u8,true_and,and_true,or_false,false_or,or_true,true_or,not_true_eq_false,not_false_eq_true,Prod.fst,Prod.snd]at*);first|done|assumption|omega)|((simp(config:={decide:=true,failIfUnchanged:=false}) only[Bool.and_eq_true,Bool.or_eq_true,Bool.and_eq_false_iff,Bool.or_eq_false_iff,Bool.not_eq_true',Bool.not_eq_false',Bool.not_eq_true,Bool.not_eq_false,decide_eq_true_eq,decide_eq_false_iff_not,Q57,Q3m,Q5a,Q3n,beq_iff_eq,beq_eq_false_iff_ne,bne_iff_ne,bne_eq_false_iff_eq,ne_eq,List.all_cons,List.all_nil,D.plain,List.length_cons,List.length_nil,List.length_append,List.length_set,List.length_replicate,IntKind.wrap_i64,IntKind.wrap_u64,IntKind.wrap_u32,IntKind.wrap_i32,IntKind.wrap_u8,true_and,and_true,or_false,false_or,or_true,true_or,not_true_eq_false,not_false_eq_true,Prod.fst,Prod.snd]at*);simp only[←List.length_pos_iff]at*;omega)|(simp_all;done)|(have:= @Qg6;simp_all;try omega))))
def Qxl:Q0d:=mkR 153 [] true [.agg Q0b.sig, .one (.int .i64)] [] (λargs rows=>Q5w (Q0b.of (args.getD 0 .dead).cells) (argI args 1)) (λX=> .tup [.agg (Q0b.cells (X.1)), .int .u32 (X.2)]) (λX=>[])
theorem Qug:Q07 Tryz.prog Qxl:=Q10 Q0j Q0k (.nil) Tryz.func153 Tryz.call153 (λargs rows=>Q42 (Q0b.of (args.getD 0 .dead).cells) (argI args 1)) [] [] 2 (λ_ _ _=>by kernel_rfl) (λ_ _=>rfl) (λargs rows=>Qss (Q0b.of (args.getD 0 .dead).cells) (argI args 1)) (λ_ X=>by kernel_rfl)
def Qev(t:Q0g):Tree Int:=
.br t.D5 (.lf 1) (.lf 0)
def Qfg(t:Q0g):Int:=(Qev t).m
def Z2t:Q0d:=mkR 154 [] true [.agg Q0g.sig] [] (λargs rows=>Qfg (Q0g.of (args.getD 0 .dead).cells)) (λX=> .int .u32 X) (λX=>[])
theorem Z0m:Q07 Tryz.prog Z2t:=Q10 Q0j Q0k (.nil) Tryz.func154 Tryz.call154 (λargs rows=>Qev (Q0g.of (args.getD 0 .dead).cells)) [] [] 2 (λ_ _ _=>by kernel_rfl) (λ_ _=>rfl) (λ_ _=>Tree.free_ok (by kernel_rfl)) (λ_ X=>by kernel_rfl)
def Qgx(d0:Q0c)(port:Int):Tree Int:=
.br (port==4) (.lf d0.C1) (.br (port==5) (.lf d0.B4) (.br (port==6) (.lf (wrap u32 d0.C0)) (.lf 0)))
def Qhy(d0:Q0c)(port:Int):Int:=(Qgx d0 port).m
def Z6p:Q0d:=mkR 155 [] true [.agg Q0c.sig, .one (.int .i64)] [] (λargs rows=>Qhy (Q0c.of (args.getD 0 .dead).cells) (argI args 1)) (λX=> .int .u32 X) (λX=>[])
theorem Z3b:Q07 Tryz.prog Z6p:=Q10 Q0j Q0k (.nil) Tryz.func155 Tryz.call155 (λargs rows=>Qgx (Q0c.of (args.getD 0 .dead).cells) (argI args 1)) [] [] 2 (λ_ _ _=>by kernel_rfl) (λ_ _=>rfl) (λ_ _=>Tree.free_ok (by kernel_rfl)) (λ_ X=>by kernel_rfl)
def Qfp(n:Q0o)(port:Int):Tree Int:=
.br (port==7) (.lf n.B4) (.br (port==8) (.lf n.F1) (.br (port==9) (.br n.C7 (.br n.B8 (.lf (wrap u32 ((1:Int)+(2:Int)))) (.lf 1)) (.br n.B8 (.lf (wrap u32 ((0:Int)+(2:Int)))) (.lf 0))) (.lf 0)))
def Qh8(n:Q0o)(port:Int):Int:=(Qfp n port).m
def Zbr:Q0d:=mkR 156 [] true [.agg Q0o.sig, .one (.int .i64)] [] (λargs rows=>Qh8 (Q0o.of (args.getD 0 .dead).cells) (argI args 1)) (λX=> .int .u32 X) (λX=>[])
theorem Z9h:Q07 Tryz.prog Zbr:=Q10 Q0j Q0k (.nil) Tryz.func156 Tryz.call156 (λargs rows=>Qfp (Q0o.of (args.getD 0 .dead).cells) (argI args 1)) [] [] 2 (λ_ _ _=>by kernel_rfl) (λ_ _=>rfl) (λ_ _=>Tree.free_ok (by kernel_rfl)) (λ_ X=>by kernel_rfl)
def Q6n(b:Q06)(port:Int):Tree Int:=
.br (port==10) (.lf b.C9) (.br (port==11) (.lv (Qdx b) λ(x0:Int)=> .lf (wrap u32 x0)) (.lf 0))
def Q5u(b:Q06)(port:Int):Int:=(Q6n b port).m
def Qxq:Q0d:=mkR 157 [] true [.agg Q06.sig, .one (.int .i64)] [] (λargs rows=>Q5u (Q06.of (args.getD 0 .dead).cells) (argI args 1)) (λX=> .int .u32 X) (λX=>[])
theorem Qtc:Q07 Tryz.prog Qxq:=Q10 Q0j Q0k (.cons Qr3 (.nil)) Tryz.func157 Tryz.call157 (λargs rows=>Q6n (Q06.of (args.getD 0 .dead).cells) (argI args 1)) [] [] 2 (λ_ _ _=>by kernel_rfl) (λ_ _=>rfl) (λ_ _=>Tree.free_ok (by kernel_rfl)) (λ_ X=>by kernel_rfl)
def Qka(m:Q00)(port:Int)(clock:Int):Tree (Int×Q00):=
.br (decide (port≤1)) (.lv (Q5w m.A6 port) λ(x0:Q0b×Int)=> .lf (x0.2,{B2:=m.B2,Mem:=m.Mem,A6:=x0.1,B0:=m.B0,B1:=m.B1,C5:=m.C5,A2:=m.A2,A1:=m.A1,A7:=m.A7,A9:=m.A9})) (.br (port==2) (.lf (clock,m)) (.br (port==3) (.lv (Qfg m.B0) λ(x1:Int)=> .lf (x1,m)) (.br (decide (port≤6)) (.lv (Qhy m.B1 port) λ(x2:Int)=> .lf (x2,m)) (.br (decide (port≤9)) (.lv (Qh8 m.C5 port) λ(x3:Int)=> .lf (x3,m)) (.lv (Q5u m.A2 port) λ(x4:Int)=> .lf (x4,m))))))
def Qdd(m:Q00)(port:Int)(clock:Int):(Int×Q00):=(Qka m port clock).m
def ref7_in_m:Q0d:=mkR 104 [true,false,false] true [.ptr 0, .one (.int .i64), .one (.int .u32)] [.box 41 49 (Q00.sigW (.row 1)), .arr 23 1 (.ints .u32)] (λargs rows=>Qdd (Q00.ofW (rows.getD 0 default).cs (rowL .u32 rows 1)) (argI args 1) (argI args 2)) (λX=> .int .u32 (X.1)) (λX=>[⟨true,41,49, .gen [(Q00.cellsW (X.2) (.all 1))]⟩,⟨false,23,1, .ints .u32 (X.2).Mem⟩])
theorem Zli:Q07 Tryz.prog ref7_in_m:=Q10 Q0j Q0k (.cons Qug (.cons Z0m (.cons Z3b (.cons Z9h (.cons Qtc (.nil)))))) Tryz.func104 Tryz.call104 (λargs rows=>Qka (Q00.ofW (rows.getD 0 default).cs (rowL .u32 rows 1)) (argI args 1) (argI args 2)) [.row 23 1 (.ints .u32)] [] 2 (λ_ _ _=>by kernel_rfl) (λ_ _=>rfl) (λ_ _=>Tree.free_ok (by kernel_rfl)) (λ_ X=>by kernel_rfl)
def Qv(deadline:Int):Tree Q0g:=
.br (deadline==0) (.lf ({D2:=false,C8:=0,D5:=false})) (.lf ({D2:=true,C8:=deadline,D5:=false}))
def Qru(deadline:Int):Q0g:=(Qv deadline).m
def Zlm:Q0d:=mkR 158 [] true [.one (.int .u32)] [] (λargs rows=>Qru (argI args 0)) (λX=> .agg (Q0g.cells X)) (λX=>[])
theorem Zel:Q07 Tryz.prog Zlm:=Q10 Q0j Q0k (.nil) Tryz.func158 Tryz.call158 (λargs rows=>Qv (argI args 0)) [] [] 2 (λ_ _ _=>by kernel_rfl) (λ_ _=>rfl) (λ_ _=>Tree.free_ok (by kernel_rfl)) (λ_ X=>by kernel_rfl)
def Qsb(x:Int)(n:Int)(z:(Int)×(List Int)):Prop:=0≤z.1∧(z.2.length:Int)=z.1∧(z.1≤n∨z.1=0)
def Qeu(x:Int)(n:Int)(z:(Int)×(List Int)):Nat:=(n-z.1).toNat
def Qh3(x:Int)(n:Int):Tree (List UInt8):=
.lp inferInstance (Qeu x n (0,[])+1) ((rE (x:Int)∧rE (n:Int)∧True∧rE (0:Int)∧True)∧rE ([]:List Int)∧True) (0,[]) λ(v0:Int×List Int)=> .br (decide (v0.1<n)) (.cn (decide (0≤wrap u64 (wrap i64 (8*v0.1)))) (.cn (decide (1*(v0.2.length+1)≤140737488355328)) (.nx ((rE (x:Int)∧rE (n:Int)∧True∧rE ((wrap i64 (v0.1+1)):Int)∧True)∧rE ((v0.2++[wrap u8 (ishr u32 x (wrap u64 (wrap i64 (8*v0.1))))]):List Int)∧True) (Sum.inl (wrap i64 (v0.1+1),v0.2++[wrap u8 (ishr u32 x (wrap u64 (wrap i64 (8*v0.1))))]))))) (.lf (Sum.inr (bytesOf v0.2)))
def Z65(x:Int)(n:Int):(List UInt8):=(Qh3 x n).m
def Qj9(x:Int)(n:Int):Prop:=
n≤1000000000000
theorem Zd8(x:Int)(n:Int)(hw:Qj9 x n):(Qh3 x n).p:=by
 simp only[Qj9]at hw
 unfold Tree.p Qh3
 repeat'(first|refine w_lp (inv:=Qsb x n) (μ:=Qeu x n) ?_ (Nat.lt_succ_self _) (λ_ _=> ?_)|exact trivial|refine w_br (λ_=> ?_) (λ_=> ?_)|refine w_cn ?_ ?_|refine w_an ?_ ?_|refine w_lv (λ_ _=> ?_)|refine w_nx ?_|refine w_lf ?_|refine And.intro ?_ ?_)
 all_goals((try simp only[Qsb,Qeu]at*);((subst_vars;first|trivial|assumption|omega|((simp(config:={decide:=true,failIfUnchanged:=false}) only[Bool.and_eq_true,Bool.or_eq_true,Bool.and_eq_false_iff,Bool.or_eq_false_iff,Bool.not_eq_true',Bool.not_eq_false',Bool.not_eq_true,Bool.not_eq_false,decide_eq_true_eq,decide_eq_false_iff_not,Q57,Q3m,Q5a,Q3n,beq_iff_eq,beq_eq_false_iff_ne,bne_iff_ne,bne_eq_false_iff_eq,ne_eq,List.all_cons,List.all_nil,D.plain,List.length_cons,List.length_nil,List.length_append,List.length_set,List.length_replicate,IntKind.wrap_i64,IntKind.wrap_u64,IntKind.wrap_u32,IntKind.wrap_i32,IntKind.wrap_u8,true_and,and_true,or_false,false_or,or_true,true_or,not_true_eq_false,not_false_eq_true,Prod.fst,Prod.snd]at*);first|done|assumption|omega)|((simp(config:={decide:=true,failIfUnchanged:=false}) only[Bool.and_eq_true,Bool.or_eq_true,Bool.and_eq_false_iff,Bool.or_eq_false_iff,Bool.not_eq_true',Bool.not_eq_false',Bool.not_eq_true,Bool.not_eq_false,decide_eq_true_eq,decide_eq_false_iff_not,Q57,Q3m,Q5a,Q3n,beq_iff_eq,beq_eq_false_iff_ne,bne_iff_ne,bne_eq_false_iff_eq,ne_eq,List.all_cons,List.all_nil,D.plain,List.length_cons,List.length_nil,List.length_append,List.length_set,List.length_replicate,IntKind.wrap_i64,IntKind.wrap_u64,IntKind.wrap_u32,IntKind.wrap_i32,IntKind.wrap_u8,true_and,and_true,or_false,false_or,or_true,true_or,not_true_eq_false,not_false_eq_true,Prod.fst,Prod.snd]at*);simp only[←List.length_pos_iff]at*;omega)|(simp_all;done)|(have:= @Qg6;simp_all;try omega))))
def Zf3:LInv:={
 α:=(Int)×(List Int)
 F:=λst a=>([(0,(lk st 0)),(1,(lk st 1)),(5, .all 0),(6, .int i64 a.1)],[⟨false,5,1, .ints u8 a.2⟩])
 a0:=λst=>((lk st 6).toInt,(Q8a st.rows (rN st 5)))
 ex0:=λst=>[]++[(Q0x (lk st 5) (st.rows.length+0))]
 next:=λst=>((lk st 6).toInt,(Q8a st.rows (rN st 5)))
 ex:=λst=>[]++[(Q0x (lk st 5) (st.rows.length+0))]}
def Z95:List (Nat×LInv):=[(3,Zf3)]
def Zm2:Q0d:=mkP 242 [] true [.one (.int .u32), .one (.int .i64)] [] (λargs rows=>Qj9 (argI args 0) (argI args 1)) (λargs rows=>Z65 (argI args 0) (argI args 1)) (λX=> .str X) (λX=>[])
theorem Zeb:Q07 Tryz.prog Zm2:=Q0p Q0j Q0k (.nil) Tryz.func242 Tryz.call242 (λargs rows=>Qh3 (argI args 0) (argI args 1)) [] Z95 3 (λ_ _ _=>by kernel_rfl) (λ_ _=>rfl) (λargs rows h=>Zd8 (argI args 0) (argI args 1) h) (λ_ X=>by kernel_rfl)
def Qhv(m:(List Int))(frame:Int)(z:(Int)×(List Int)):Nat:=(32-z.1).toNat
def Q9v(m:(List Int))(frame:Int):Tree ((List UInt8)×Bool):=
.br (decide (frame<0)) (.lf ([],false)) (.lv (Q4e m) λ(x0:Int)=> .br (decide (frame≥x0)) (.lf ([],false)) (.lp inferInstance (Qhv m frame (0,[])+1) ((((Els.Nil (Els.ints u32 m)∨rE (1:Nat))∧rE (m:List Int))∧rE (frame:Int)∧True∧rE (0:Int)∧True)∧rE ([]:List Int)∧True) (0,[]) λ(v0:Int×List Int)=> .br (decide (v0.1<32)) (.cn (Nat.beq 1 1&&Nat.blt 0 1&&decide (0≤wrap i64 (wrap i64 (frame*32)+v0.1)∧wrap i64 (wrap i64 (frame*32)+v0.1)<(m.length:Int))) (let E1:=m.getD (Int.toNat (wrap i64 (wrap i64 (frame*32)+v0.1))) 0; .an (Qj9 E1 4) (.lv (Z65 E1 4) λ(x1:List UInt8)=> .cn (decide (1*(v0.2.length+List.length (Qbq x1))≤140737488355328)) (.nx ((((Els.Nil (Els.ints u32 m)∨rE (1:Nat))∧rE (m:List Int))∧rE (frame:Int)∧True∧rE ((wrap i64 (v0.1+1)):Int)∧True)∧rE ((v0.2++Qbq x1):List Int)∧True) (Sum.inl (wrap i64 (v0.1+1),v0.2++Qbq x1)))))) (.lf (Sum.inr (bytesOf v0.2,true)))))
def Qj2(m:(List Int))(frame:Int):((List UInt8)×Bool):=(Q9v m frame).m
abbrev Qgr(m:(List Int))(frame:Int):Prop:=(Q9v m frame).p
def Zbf:LInv:={
 α:=(Int)×(List Int)
 F:=λst a=>([(0,(lk st 0)),(1,(lk st 1)),(6, .all 0),(7, .int i64 a.1)],[⟨false,5,1, .ints u8 a.2⟩])
 a0:=λst=>((lk st 7).toInt,(Q8a st.rows (rN st 6)))
 ex0:=λst=>[]++[(Q0x (lk st 6) (st.rows.length+0))]
 next:=λst=>((lk st 7).toInt,(Q8a st.rows (rN st 6)))
 ex:=λst=>[]++[(Q0x (lk st 6) (st.rows.length+0))]}
def Z3u:List (Nat×LInv):=[(5,Zbf)]
def Zec:Q0d:=mkP 212 [] true [.one (.ints .u32), .one (.int .i64)] [] (λargs rows=>Qgr (argL .u32 args 0) (argI args 1)) (λargs rows=>Qj2 (argL .u32 args 0) (argI args 1)) (λX=> .tup [.str (X.1), .bool (X.2)]) (λX=>[])
theorem Qw6:Q07 Tryz.prog Zec:=Q0p Q0j Q0k (.cons Qd (.cons Zeb (.nil))) Tryz.func212 Tryz.call212 (λargs rows=>Q9v (argL .u32 args 0) (argI args 1)) [] Z3u 3 (λ_ _ _=>by kernel_rfl) (λ_ _=>rfl) (λ_ _ h=>h) (λ_ X=>by kernel_rfl)
def Qpw(d0:Q0c)(at0:Int):Tree (Q03×Bool):=
.br (d0.C0 !=1) (.lf ({B5:=0,At:=0,C1:=0,C6:=[]},false)) (.br (d0.D8==1) (.lf ({B5:=3,At:=at0,C1:=d0.B7,C6:=[]},true)) (.br (d0.D8==2) (.lf ({B5:=4,At:=at0,C1:=d0.B7,C6:=d0.C4},true)) (.lf ({B5:=0,At:=0,C1:=0,C6:=[]},false))))
def Qjm(d0:Q0c)(at0:Int):(Q03×Bool):=(Qpw d0 at0).m
def Z32:Q0d:=mkR 213 [] true [.agg Q0c.sig, .one (.int .u64)] [] (λargs rows=>Qjm (Q0c.of (args.getD 0 .dead).cells) (argI args 1)) (λX=> .tup [.agg (Q03.cells (X.1)), .bool (X.2)]) (λX=>[])
theorem Qz5:Q07 Tryz.prog Z32:=Q10 Q0j Q0k (.nil) Tryz.func213 Tryz.call213 (λargs rows=>Qpw (Q0c.of (args.getD 0 .dead).cells) (argI args 1)) [] [] 2 (λ_ _ _=>by kernel_rfl) (λ_ _=>rfl) (λ_ _=>Tree.free_ok (by kernel_rfl)) (λ_ X=>by kernel_rfl)
def Q94(d0:Q0c)(m:(List Int))(port:Int)(v:Int)(at0:Int):Tree (Q0c×(List Q03)):=
.br (port==4) (.lf ({Blocks:=d0.Blocks,C1:=v,B4:=d0.B4,C0:=d0.C0,D8:=d0.D8,B7:=d0.B7,B3:=d0.B3,C4:=d0.C4},[])) (.br (port==5) (.lf ({Blocks:=d0.Blocks,C1:=d0.C1,B4:=v,C0:=d0.C0,D8:=d0.D8,B7:=d0.B7,B3:=d0.B3,C4:=d0.C4},[])) (.br (port !=6) (.lf (d0,[])) (let T1:Tree ((Q0c×(List Q03))):= .br (d0.C0==0) (let T2:Tree ((Q0c×(List Q03))):= .lf ({Blocks:=d0.Blocks,C1:=d0.C1,B4:=d0.B4,C0:=3,D8:=d0.D8,B7:=d0.B7,B3:=d0.B3,C4:=d0.C4},[]); .br (decide (d0.C1≥d0.Blocks)) T2 (.lv (Q2e m d0.B4) λ(x0:Bool)=> .br (!x0) T2 (.br (v==2) (.an (Qgr m (wrap i64 d0.B4)) (.lv (Qj2 m (wrap i64 d0.B4)) λ(x1:List UInt8×Bool)=>let E4:=({Blocks:=d0.Blocks,C1:=d0.C1,B4:=d0.B4,C0:=1,D8:=wrap i64 v,B7:=d0.C1,B3:=d0.B4,C4:=x1.1}:Q0c); .lv (Qjm E4 at0) λ(x2:Q03×Bool)=> .lf (E4,[x2.1]))) (let E5:=({Blocks:=d0.Blocks,C1:=d0.C1,B4:=d0.B4,C0:=1,D8:=wrap i64 v,B7:=d0.C1,B3:=d0.B4,C4:=[]}:Q0c); .lv (Qjm E5 at0) λ(x3:Q03×Bool)=> .lf (E5,[x3.1]))))) (.lf (d0,[])); .br (v==0) (let T3:Tree ((Q0c×(List Q03))):= .lf ({Blocks:=d0.Blocks,C1:=d0.C1,B4:=d0.B4,C0:=0,D8:=d0.D8,B7:=d0.B7,B3:=d0.B3,C4:=d0.C4},[]); .br (d0.C0==2) T3 (.br (d0.C0==3) T3 (.br (v==1) T1 (.br (v==2) T1 (.lf (d0,[])))))) (.br (v==1) T1 (.br (v==2) T1 (.lf (d0,[])))))))
def Qfs(d0:Q0c)(m:(List Int))(port:Int)(v:Int)(at0:Int):(Q0c×(List Q03)):=(Q94 d0 m port v at0).m
abbrev Qgb(d0:Q0c)(m:(List Int))(port:Int)(v:Int)(at0:Int):Prop:=(Q94 d0 m port v at0).p
def Z3o:Q0d:=mkP 159 [] true [.agg Q0c.sig, .one (.ints .u32), .one (.int .i64), .one (.int .u32), .one (.int .u64)] [] (λargs rows=>Qgb (Q0c.of (args.getD 0 .dead).cells) (argL .u32 args 1) (argI args 2) (argI args 3) (argI args 4)) (λargs rows=>Qfs (Q0c.of (args.getD 0 .dead).cells) (argL .u32 args 1) (argI args 2) (argI args 3) (argI args 4)) (λX=> .tup [.agg (Q0c.cells (X.1)), .sl 4 (.recs .apiOutput (X.2)) true]) (λX=>[])
theorem Z1j:Q07 Tryz.prog Z3o:=Q0p Q0j Q0k (.cons Qf6 (.cons Qw6 (.cons Qz5 (.nil)))) Tryz.func159 Tryz.call159 (λargs rows=>Q94 (Q0c.of (args.getD 0 .dead).cells) (argL .u32 args 1) (argI args 2) (argI args 3) (argI args 4)) [.sl (.recs .apiOutput) true] [] 2 (λ_ _ _=>by kernel_rfl) (λ_ _=>rfl) (λ_ _ h=>h) (λ_ X=>by kernel_rfl)
def Qav(n:Q0o)(m:(List Int))(port:Int)(v:Int)(at0:Int):Tree (Q0o×(List Q03)):=
.br (port==7) (.lf ({B4:=v,E0:=n.E0,C7:=n.C7,B9:=n.B9,B8:=n.B8,F1:=n.F1},[])) (.br (port==8) (.lf ({B4:=n.B4,E0:=v,C7:=n.C7,B9:=n.B9,B8:=n.B8,F1:=n.F1},[])) (.br (port !=9) (.lf (n,[])) (.br (v==0) (.lf ({B4:=n.B4,E0:=n.E0,C7:=n.C7,B9:=n.B9,B8:=false,F1:=0},[])) (let T1:Tree ((Q0o×(List Q03))):= .br (v==2) (.lv (Q2e m n.B4) λ(x2:Bool)=> .br x2 (.br (!n.C7) (.br (!n.B8) (.lf ({B4:=n.B4,E0:=n.E0,C7:=true,B9:=n.B4,B8:=n.B8,F1:=n.F1},[])) (.lf (n,[]))) (.lf (n,[]))) (.lf (n,[]))) (.lf (n,[])); .br (v==1) (.br (decide (n.E0≥1)) (.br (decide (n.E0≤128)) (.lv (Q2e m n.B4) λ(x0:Bool)=> .br x0 (.an (Qgr m (wrap i64 n.B4)) (.lv (Qj2 m (wrap i64 n.B4)) λ(x1:List UInt8×Bool)=> .cn (decide ((0:Int)≤(0:Int)∧0≤n.E0∧n.E0≤(x1.1.length:Int))) (.lf (n,[{B5:=2,At:=at0,C1:=0,C6:=List.take (Int.toNat n.E0-Int.toNat 0) (List.drop (Int.toNat 0) x1.1)}])))) T1) T1) T1) T1))))
def Qil(n:Q0o)(m:(List Int))(port:Int)(v:Int)(at0:Int):(Q0o×(List Q03)):=(Qav n m port v at0).m
abbrev Qie(n:Q0o)(m:(List Int))(port:Int)(v:Int)(at0:Int):Prop:=(Qav n m port v at0).p
def Z6a:Q0d:=mkP 160 [] true [.agg Q0o.sig, .one (.ints .u32), .one (.int .i64), .one (.int .u32), .one (.int .u64)] [] (λargs rows=>Qie (Q0o.of (args.getD 0 .dead).cells) (argL .u32 args 1) (argI args 2) (argI args 3) (argI args 4)) (λargs rows=>Qil (Q0o.of (args.getD 0 .dead).cells) (argL .u32 args 1) (argI args 2) (argI args 3) (argI args 4)) (λX=> .tup [.agg (Q0o.cells (X.1)), .sl 4 (.recs .apiOutput (X.2)) true]) (λX=>[])
theorem Z2w:Q07 Tryz.prog Z6a:=Q0p Q0j Q0k (.cons Qf6 (.cons Qw6 (.nil))) Tryz.func160 Tryz.call160 (λargs rows=>Qav (Q0o.of (args.getD 0 .dead).cells) (argL .u32 args 1) (argI args 2) (argI args 3) (argI args 4)) [.sl (.recs .apiOutput) true] [] 2 (λ_ _ _=>by kernel_rfl) (λ_ _=>rfl) (λ_ _ h=>h) (λ_ X=>by kernel_rfl)
def Qi4(b:Q06)(m:(List Int))(port:Int)(v:Int)(z:(Int)×(List Int)):Nat:=(32-z.1).toNat
def Q56(b:Q06)(m:(List Int))(port:Int)(v:Int):Tree (Q06×(List Int)):=
let T1:Tree ((Q06×(List Int))):= .br (port==11) (.br (decide (v<32)) (.cn (decide (0≤v)) (.lf ({C9:=b.C9,C3:=Qgm u32 b.C3 (ishl u32 1 v)},m))) (.lf (b,m))) (.lf (b,m)); .br (port==10) (.lv (Q2e m v) λ(x0:Bool)=> .br x0 (.cn (decide (0≤v)) (.br (iand u32 (ishr u32 b.C3 v) (1:Int)==(0:Int)) (.cn (decide (0≤v)) (.lp inferInstance (Qi4 b m port v (0,m)+1) ((True∧rE (v:Int)∧(rE (0:Nat)∧rE (0:Nat))∧(rE (0:Nat)∧rE (0:Nat))∧rE (0:Int)∧True)∧rE (m:List Int)∧(rE b.C9∧rE ((ior u32 b.C3 (ishl u32 1 v)):Int)∧True)∧(rE (0:Int)∧rE (0:Int)∧True)∧True) (0,m) λ(v0:Int×List Int)=> .br (decide (v0.1<32)) (let E2:=wrap i64 (wrap i64 v*32)+v0.1; .cn (Nat.beq 1 1&&Nat.blt 0 1&&decide (0≤wrap i64 E2∧wrap i64 E2<(v0.2.length:Int))) (.nx ((True∧rE (v:Int)∧(rE (0:Nat)∧rE (0:Nat))∧(rE (0:Nat)∧rE (0:Nat))∧rE ((wrap i64 (v0.1+1)):Int)∧True)∧rE ((List.set v0.2 (Int.toNat (wrap i64 (wrap i64 (wrap i64 v*32)+v0.1))) 0):List Int)∧(rE b.C9∧rE ((ior u32 b.C3 (ishl u32 1 v)):Int)∧True)∧(rE (0:Int)∧rE (0:Int)∧True)∧True) (Sum.inl (wrap i64 (v0.1+1),List.set v0.2 (Int.toNat (wrap i64 E2)) 0)))) (.lf (Sum.inr ({C9:=b.C9,C3:=ior u32 b.C3 (ishl u32 1 v)},v0.2))))) T1)) T1) T1
def Q71(b:Q06)(m:(List Int))(port:Int)(v:Int):(Q06×(List Int)):=(Q56 b m port v).m
abbrev Qls(b:Q06)(m:(List Int))(port:Int)(v:Int):Prop:=(Q56 b m port v).p
def Zcj:LInv:={
 α:=(Int)×(List Int)
 F:=λst a=>([(1, .all 0),(3,(lk st 3)),(4, .ptr 1 0 0),(8, .ptr 2 0 0),(9, .int i64 a.1)],[⟨false,23,1, .ints u32 a.2⟩,⟨true,38,2, .gen [[(cT st 4 0),(cT st 4 1)]]⟩,⟨true,38,2, .gen [[(cT st 8 0),(cT st 8 1)]]⟩])
 a0:=λst=>((lk st 9).toInt,(Q8a st.rows 0))
 ex0:=λst=>[0]++[(Q0x (lk st 4) (st.rows.length+1)),(Q0x (lk st 8) (st.rows.length+2))]
 next:=λst=>((lk st 9).toInt,(Q8a st.rows 0))
 ex:=λst=>[0]++[(Q0x (lk st 4) (st.rows.length+1)),(Q0x (lk st 8) (st.rows.length+2))]}
def Z33:List (Nat×LInv):=[(4,Zcj)]
def Zgq:Q0d:=mkP 161 [false,true,false,false] true [.agg Q06.sig, .one (.row 0), .one (.int .i64), .one (.int .u32)] [.arr 23 1 (.ints .u32)] (λargs rows=>Qls (Q06.of (args.getD 0 .dead).cells) (rowL .u32 rows 0) (argI args 2) (argI args 3)) (λargs rows=>Q71 (Q06.of (args.getD 0 .dead).cells) (rowL .u32 rows 0) (argI args 2) (argI args 3)) (λX=> .agg (Q06.cells (X.1))) (λX=>[⟨false,23,1, .ints .u32 (X.2)⟩])
theorem Zc0:Q07 Tryz.prog Zgq:=Q0p Q0j Q0k (.cons Qf6 (.nil)) Tryz.func161 Tryz.call161 (λargs rows=>Q56 (Q06.of (args.getD 0 .dead).cells) (rowL .u32 rows 0) (argI args 2) (argI args 3)) [] Z33 3 (λ_ _ _=>by kernel_rfl) (λ_ _=>rfl) (λ_ _ h=>h) (λ_ X=>by kernel_rfl)
def Qdy(m:Q00)(port:Int)(v:Int):Tree ((List Q03)×Q00):=
.br (port==0) (.lf ([{B5:=1,At:=m.A1,C1:=0,C6:=[(λ(n:Int)=>UInt8.ofNat n.toNat) (wrap u8 v)]}],m)) (.br (decide (port≤2)) (.lf ([],m)) (.br (port==3) (.lv (Qru v) λ(x0:Q0g)=> .lf ([],{B2:=m.B2,Mem:=m.Mem,A6:=m.A6,B0:=x0,B1:=m.B1,C5:=m.C5,A2:=m.A2,A1:=m.A1,A7:=m.A7,A9:=m.A9})) (.br (decide (port≤6)) (.an (Qgb m.B1 m.Mem port v m.A1) (.lv (Qfs m.B1 m.Mem port v m.A1) λ(x1:Q0c×List Q03)=> .lf (x1.2,{B2:=m.B2,Mem:=m.Mem,A6:=m.A6,B0:=m.B0,B1:=x1.1,C5:=m.C5,A2:=m.A2,A1:=m.A1,A7:=m.A7,A9:=m.A9}))) (.br (decide (port≤9)) (.an (Qie m.C5 m.Mem port v m.A1) (.lv (Qil m.C5 m.Mem port v m.A1) λ(x2:Q0o×List Q03)=> .lf (x2.2,{B2:=m.B2,Mem:=m.Mem,A6:=m.A6,B0:=m.B0,B1:=m.B1,C5:=x2.1,A2:=m.A2,A1:=m.A1,A7:=m.A7,A9:=m.A9}))) (.an (Qls m.A2 m.Mem port v) (.lv (Q71 m.A2 m.Mem port v) λ(x3:Q06×List Int)=> .lf ([],{B2:=m.B2,Mem:=x3.2,A6:=m.A6,B0:=m.B0,B1:=m.B1,C5:=m.C5,A2:=x3.1,A1:=m.A1,A7:=m.A7,A9:=m.A9})))))))
def Qam(m:Q00)(port:Int)(v:Int):((List Q03)×Q00):=(Qdy m port v).m
abbrev Qwp(m:Q00)(port:Int)(v:Int):Prop:=(Qdy m port v).p
def Zjn:Q0d:=mkP 106 [true,false,false] true [.ptr 0, .one (.int .i64), .one (.int .u32)] [.box 41 49 (Q00.sigW (.row 1)), .arr 23 1 (.ints .u32)] (λargs rows=>Qwp (Q00.ofW (rows.getD 0 default).cs (rowL .u32 rows 1)) (argI args 1) (argI args 2)) (λargs rows=>Qam (Q00.ofW (rows.getD 0 default).cs (rowL .u32 rows 1)) (argI args 1) (argI args 2)) (λX=> .sl 4 (.recs .apiOutput (X.1)) true) (λX=>[⟨true,41,49, .gen [(Q00.cellsW (X.2) (.all 1))]⟩,⟨false,23,1, .ints .u32 (X.2).Mem⟩])
theorem Zem:Q07 Tryz.prog Zjn:=Q0p Q0j Q0k (.cons Zel (.cons Z1j (.cons Z2w (.cons Zc0 (.nil))))) Tryz.func106 Tryz.call106 (λargs rows=>Qdy (Q00.ofW (rows.getD 0 default).cs (rowL .u32 rows 1)) (argI args 1) (argI args 2)) [.sl (.recs .apiOutput) true, .row 23 1 (.ints .u32)] [] 2 (λ_ _ _=>by kernel_rfl) (λ_ _=>rfl) (λ_ _ h=>h) (λ_ X=>by kernel_rfl)
def Q9(m:Q00)(clock:Int):Tree ((List Q03)×Q00):=
.an (Q7m m) (.lv (Q0l m) λ(x0:Q04)=> .an (Qqg x0 m.Mem) (.lv (Q7u x0 m.Mem) λ(x1:Q04×Q13×List Int)=>let E1:=({B2:=x1.1,Mem:=x1.2.2,A6:=m.A6,B0:=m.B0,B1:=m.B1,C5:=m.C5,A2:=m.A2,A1:=m.A1,A7:=false,A9:=m.A9}:Q00); .br (x1.2.1.B5==1) (.lv (Qdd E1 x1.2.1.D1 clock) λ(x2:Int×Q00)=> .an (Q3l x2.2.B2 x1.2.1.D9 x2.1) (.lv (Q1x x2.2.B2 x1.2.1.D9 x2.1) λ(x3:Q04)=> .lf ([],{B2:=x3,Mem:=x2.2.Mem,A6:=x2.2.A6,B0:=x2.2.B0,B1:=x2.2.B1,C5:=x2.2.C5,A2:=x2.2.A2,A1:=wrap u64 (x2.2.A1+1),A7:=x2.2.A7,A9:=x2.2.A9}))) (.br (x1.2.1.B5==2) (.an (Qwp E1 x1.2.1.D1 x1.2.1.Value) (.lv (Qam E1 x1.2.1.D1 x1.2.1.Value) λ(x4:List Q03×Q00)=> .lf (x4.1,{B2:=x4.2.B2,Mem:=x4.2.Mem,A6:=x4.2.A6,B0:=x4.2.B0,B1:=x4.2.B1,C5:=x4.2.C5,A2:=x4.2.A2,A1:=wrap u64 (x4.2.A1+1),A7:=x4.2.A7,A9:=x4.2.A9}))) (.br (x1.2.1.B5==3) (.lf ([],{B2:=x1.1,Mem:=x1.2.2,A6:=m.A6,B0:=m.B0,B1:=m.B1,C5:=m.C5,A2:=m.A2,A1:=wrap u64 (m.A1+1),A7:=true,A9:=m.A9})) (.br (x1.2.1.B5==4) (.lf ([],{B2:=x1.1,Mem:=x1.2.2,A6:=m.A6,B0:=m.B0,B1:=m.B1,C5:=m.C5,A2:=m.A2,A1:=wrap u64 (m.A1+1),A7:=false,A9:=true})) (.lf ([],{B2:=x1.1,Mem:=x1.2.2,A6:=m.A6,B0:=m.B0,B1:=m.B1,C5:=m.C5,A2:=m.A2,A1:=wrap u64 (m.A1+1),A7:=false,A9:=m.A9})))))))
def Q0f(m:Q00)(clock:Int):((List Q03)×Q00):=(Q9 m clock).m
abbrev Qm7(m:Q00)(clock:Int):Prop:=(Q9 m clock).p
def Z30:Q0d:=mkP 64 [true,false] true [.ptr 0, .one (.int .u32)] [.box 41 49 (Q00.sigW (.row 1)), .arr 23 1 (.ints .u32)] (λargs rows=>Qm7 (Q00.ofW (rows.getD 0 default).cs (rowL .u32 rows 1)) (argI args 1)) (λargs rows=>Q0f (Q00.ofW (rows.getD 0 default).cs (rowL .u32 rows 1)) (argI args 1)) (λX=> .sl 4 (.recs .apiOutput (X.1)) true) (λX=>[⟨true,41,49, .gen [(Q00.cellsW (X.2) (.all 1))]⟩,⟨false,23,1, .ints .u32 (X.2).Mem⟩])
theorem Qzs:Q07 Tryz.prog Z30:=Q0p Q0j Q0k (.cons Qhr (.cons Zke (.cons Zli (.cons Qi (.cons Zem (.nil)))))) Tryz.func64 Tryz.call64 (λargs rows=>Q9 (Q00.ofW (rows.getD 0 default).cs (rowL .u32 rows 1)) (argI args 1)) [.sl (.recs .apiOutput) true, .row 23 1 (.ints .u32)] [] 2 (λ_ _ _=>by kernel_rfl) (λ_ _=>rfl) (λ_ _ h=>h) (λ_ X=>by kernel_rfl)
end
end Go.Proofs.YtpcbkbalabgnlaaGreat

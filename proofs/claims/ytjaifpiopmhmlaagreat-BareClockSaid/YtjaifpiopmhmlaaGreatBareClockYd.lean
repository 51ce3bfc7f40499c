/-
  Functions of the program: models, and that its calls come to them (by a program: gen3.py).
-/
import Derived.Test.YtjaifpiopmhmlaaGreatBareClockBase
import Derived.Test.YtjaifpiopmhmlaaGreatBareClockHand
import Derived.Test.YtjaifpiopmhmlaaGreatBareClockYc
import Derived.Test.YtjaifpiopmhmlaaGreatBareClockYb
import Derived.Test.YtjaifpiopmhmlaaGreatBareClockYa
set_option maxRecDepth 100000
set_option linter.unusedVariables false
set_option linter.unusedSimpArgs false
namespace Go.Proofs.YtjaifpiopmhmlaaGreat
open Go Go.GD Go.IntKind
noncomputable section
def Q2a(m:Q00):Tree Bool:=
.an (Q5l m) (.lv (Q1d m) λ(x0:Bool)=> .br x0 (.br (!m.A4) (.an (Q6r m) (.lv (Q9a m) λ(x1:Bool)=> .br (!x1) (.lf (decide (m.A3<1152921504606846976))) (.lf false))) (.lf false)) (.lf false))
def Q3j(m:Q00):Bool:=(Q2a m).m
abbrev Q6q(m:Q00):Prop:=(Q2a m).p
def Qvp:Q0c:=mkP 105 [] true [.agg Q00.sig] [] (λargs rows=>Q6q (Q00.of (args.getD 0 .dead).cells)) (λargs rows=>Q3j (Q00.of (args.getD 0 .dead).cells)) (λX=> .bool X) (λX=>[])
theorem Qip:Q08 Tryz.prog Qvp:=Q0t Q0p Q0o (.cons Qfr (.cons Qjb (.nil))) Tryz.func105 Tryz.call105 (λargs rows=>Q2a (Q00.of (args.getD 0 .dead).cells)) [] [] 2 (λ_ _ _=>by kernel_rfl) (λ_ _=>rfl) (λ_ _ h=>h) (λ_ X=>by kernel_rfl)
def Qdn(m:Q00)(z:(Int)):Nat:=(5-z).toNat
def Q29(m:Q00):Tree Q00:=
let E1:=({B1:=m.B1,Mem:=m.Mem,A1:=m.A1,A6:=m.A6,A7:=m.A7,C3:=m.C3,A0:=m.A0,A3:=m.A3,A2:=false,A4:=m.A4}:Q00); .br (iand u32 m.B1.B3.a0 (2:Int)==(0:Int)) (.lf (E1)) (.an (Q6k E1) (.lv (Q4o E1) λ(x0:Int)=> .lp inferInstance (Qdn m 0+1) (((rE (0:Nat)∧rE (0:Nat))∧(rE (0:Nat)∧rE (0:Nat))∧rE (x0:Int)∧rE (0:Int)∧True)∧(rE m.B1.X.a0∧rE m.B1.X.a1∧rE m.B1.X.a2∧rE m.B1.X.a3∧rE m.B1.X.a4∧rE m.B1.X.a5∧rE m.B1.X.a6∧rE m.B1.X.a7∧rE m.B1.X.a8∧rE m.B1.X.a9∧rE m.B1.X.a10∧rE m.B1.X.a11∧rE m.B1.X.a12∧rE m.B1.X.a13∧rE m.B1.X.a14∧rE m.B1.X.a15∧rE m.B1.Pc∧rE m.B1.B3.a0∧rE m.B1.B3.a1∧rE m.B1.B3.a2∧rE m.B1.B3.a3∧rE m.B1.B3.a4∧rE m.B1.B3.a5∧rE m.B1.B3.a6∧rE m.B1.B3.a7∧((Els.Nil (Els.ints u32 m.Mem)∨rE (1:Nat))∧rE m.Mem)∧rE m.A1.C9∧rE m.A6.D3∧rE m.A6.C5∧rE m.A6.D2∧rE m.A7.Blocks∧rE m.A7.B6∧rE m.A7.B0∧rE m.A7.B7∧rE m.A7.D6∧rE m.A7.B2∧rE m.A7.A9∧rE m.A7.C0∧rE m.C3.B0∧rE m.C3.D9∧rE m.C3.C2∧rE m.C3.B8∧rE m.C3.B5∧rE m.C3.F0∧rE m.A0.C4∧rE m.A0.B9∧rE m.A3∧rE (false:Bool)∧rE m.A4∧True)∧(mE zM True True)∧True) 0 λ(v0:Int)=> .br (decide (v0<5)) (.cn (decide (0≤v0)) (.br (iand u32 x0 (ishl u32 1 v0) !=0) (.lv (Q3r m.B1 (wrap i64 (16+v0)) 0) λ(x1:Q02)=> .lf (Sum.inr {B1:=x1,Mem:=m.Mem,A1:=m.A1,A6:=m.A6,A7:=m.A7,C3:=m.C3,A0:=m.A0,A3:=m.A3,A2:=false,A4:=m.A4})) (.nx (((rE (0:Nat)∧rE (0:Nat))∧(rE (0:Nat)∧rE (0:Nat))∧rE (x0:Int)∧rE ((wrap i64 (v0+1)):Int)∧True)∧(rE m.B1.X.a0∧rE m.B1.X.a1∧rE m.B1.X.a2∧rE m.B1.X.a3∧rE m.B1.X.a4∧rE m.B1.X.a5∧rE m.B1.X.a6∧rE m.B1.X.a7∧rE m.B1.X.a8∧rE m.B1.X.a9∧rE m.B1.X.a10∧rE m.B1.X.a11∧rE m.B1.X.a12∧rE m.B1.X.a13∧rE m.B1.X.a14∧rE m.B1.X.a15∧rE m.B1.Pc∧rE m.B1.B3.a0∧rE m.B1.B3.a1∧rE m.B1.B3.a2∧rE m.B1.B3.a3∧rE m.B1.B3.a4∧rE m.B1.B3.a5∧rE m.B1.B3.a6∧rE m.B1.B3.a7∧((Els.Nil (Els.ints u32 m.Mem)∨rE (1:Nat))∧rE m.Mem)∧rE m.A1.C9∧rE m.A6.D3∧rE m.A6.C5∧rE m.A6.D2∧rE m.A7.Blocks∧rE m.A7.B6∧rE m.A7.B0∧rE m.A7.B7∧rE m.A7.D6∧rE m.A7.B2∧rE m.A7.A9∧rE m.A7.C0∧rE m.C3.B0∧rE m.C3.D9∧rE m.C3.C2∧rE m.C3.B8∧rE m.C3.B5∧rE m.C3.F0∧rE m.A0.C4∧rE m.A0.B9∧rE m.A3∧rE (false:Bool)∧rE m.A4∧True)∧(mE zM True True)∧True) (Sum.inl (wrap i64 (v0+1)))))) (.lf (Sum.inr E1))))
def Q0s(m:Q00):Q00:=(Q29 m).m
abbrev Q5i(m:Q00):Prop:=(Q29 m).p
def Qqi:LInv:={
 α:=(Int)
 F:=λst a=>([(1, .ptr 0 0 0),(2, .ptr 1 0 0),(3,(lk st 3)),(15, .int i64 a)],[⟨true,41,49, .gen [[(cT st 1 0),(cT st 1 1),(cT st 1 2),(cT st 1 3),(cT st 1 4),(cT st 1 5),(cT st 1 6),(cT st 1 7),(cT st 1 8),(cT st 1 9),(cT st 1 10),(cT st 1 11),(cT st 1 12),(cT st 1 13),(cT st 1 14),(cT st 1 15),(cT st 1 16),(cT st 1 17),(cT st 1 18),(cT st 1 19),(cT st 1 20),(cT st 1 21),(cT st 1 22),(cT st 1 23),(cT st 1 24),(cT st 1 25),(cT st 1 26),(cT st 1 27),(cT st 1 28),(cT st 1 29),(cT st 1 30),(cT st 1 31),(cT st 1 32),(cT st 1 33),(cT st 1 34),(cT st 1 35),(cT st 1 36),(cT st 1 37),(cT st 1 38),(cT st 1 39),(cT st 1 40),(cT st 1 41),(cT st 1 42),(cT st 1 43),(cT st 1 44),(cT st 1 45),(cT st 1 46),(cT st 1 47),(cT st 1 48)]]⟩,⟨true,41,49, .gen [[(cT st 2 0),(cT st 2 1),(cT st 2 2),(cT st 2 3),(cT st 2 4),(cT st 2 5),(cT st 2 6),(cT st 2 7),(cT st 2 8),(cT st 2 9),(cT st 2 10),(cT st 2 11),(cT st 2 12),(cT st 2 13),(cT st 2 14),(cT st 2 15),(cT st 2 16),(cT st 2 17),(cT st 2 18),(cT st 2 19),(cT st 2 20),(cT st 2 21),(cT st 2 22),(cT st 2 23),(cT st 2 24),(cT st 2 25),(cT st 2 26),(cT st 2 27),(cT st 2 28),(cT st 2 29),(cT st 2 30),(cT st 2 31),(cT st 2 32),(cT st 2 33),(cT st 2 34),(cT st 2 35),(cT st 2 36),(cT st 2 37),(cT st 2 38),(cT st 2 39),(cT st 2 40),(cT st 2 41),(cT st 2 42),(cT st 2 43),(cT st 2 44),(cT st 2 45),(cT st 2 46),(cT st 2 47),(cT st 2 48)]]⟩])
 a0:=λst=>(lk st 15).toInt
 ex0:=λst=>[]++[(Q1m (lk st 1) (st.rows.length+0)),(Q1m (lk st 2) (st.rows.length+1))]
 next:=λst=>(lk st 15).toInt
 ex:=λst=>[]++[(Q1m (lk st 1) (st.rows.length+0)),(Q1m (lk st 2) (st.rows.length+1))]}
def Qmh:List (Nat×LInv):=[(6,Qqi)]
def Qtq:Q0c:=Q0c.fz<|mkP 106 [] false [.agg Q00.sig] [] (λargs rows=>Q5i (Q00.of (args.getD 0 .dead).cells)) (λargs rows=>Q0s (Q00.of (args.getD 0 .dead).cells)) (λX=> .agg (Q00.cells X)) (λX=>[])
theorem Qhy:Q08 Tryz.prog Qtq:=fz_ok<|Q0t Q0p Q0o (.cons Qf8 (.cons Qe (.nil))) Tryz.func106 Tryz.call106 (λargs rows=>Q29 (Q00.of (args.getD 0 .dead).cells)) [.sl (.ints .u32) false] Qmh 3 (λ_ _ _=>by kernel_rfl) (λ_ _=>rfl) (λ_ _ h=>h) (λh=>by cases h)
def Q7j(c:Q0a)(port:Int):Tree (Q0a×Int):=
.br (port==0) (.br (decide (c.C9=[])) (.lf (c,4294967295)) (.cn (decide ((0:Int)≤(0:Int)∧0<(c.C9.length:Int))) (.cn (decide ((0:Int)≤(1:Int)∧1≤(c.C9.length:Int)∧(c.C9.length:Int)≤(c.C9.length:Int))) (.lf ({C9:=List.take (Int.toNat (c.C9.length:Int)-Int.toNat 1) (List.drop (Int.toNat 1) c.C9)},wrap u32 (↑(UInt8.toNat (c.C9.getD (Int.toNat 0) (0:UInt8))):Int)))))) (.br (port==1) (.lf (c,wrap u32 (c.C9.length:Int))) (.lf (c,0)))
def Qjw(c:Q0a)(port:Int):(Q0a×Int):=(Q7j c port).m
theorem Qv3(c:Q0a)(port:Int):(Q7j c port).p:=by
 unfold Tree.p Q7j
 repeat'(first|exact trivial|refine w_br (λ_=> ?_) (λ_=> ?_)|refine w_cn ?_ ?_|refine w_an ?_ ?_|refine w_lv (λ_ _=> ?_)|refine w_nx ?_|refine w_lf ?_|refine And.intro ?_ ?_)
 all_goals(((subst_vars;first|trivial|assumption|omega|((simp(config:={decide:=true,failIfUnchanged:=false}) only[Bool.and_eq_true,Bool.or_eq_true,Bool.and_eq_false_iff,Bool.or_eq_false_iff,Bool.not_eq_true',Bool.not_eq_false',Bool.not_eq_true,Bool.not_eq_false,decide_eq_true_eq,decide_eq_false_iff_not,Qhb,Qf7,Qho,Qf4,beq_iff_eq,beq_eq_false_iff_ne,bne_iff_ne,bne_eq_false_iff_eq,ne_eq,List.all_cons,List.all_nil,D.plain,List.length_cons,List.length_nil,List.length_append,List.length_set,List.length_replicate,IntKind.wrap_i64,IntKind.wrap_u64,IntKind.wrap_u32,IntKind.wrap_i32,IntKind.wrap_u8,true_and,and_true,or_false,false_or,or_true,true_or,not_true_eq_false,not_false_eq_true,Prod.fst,Prod.snd]at*);first|done|assumption|omega)|((simp(config:={decide:=true,failIfUnchanged:=false}) only[Bool.and_eq_true,Bool.or_eq_true,Bool.and_eq_false_iff,Bool.or_eq_false_iff,Bool.not_eq_true',Bool.not_eq_false',Bool.not_eq_true,Bool.not_eq_false,decide_eq_true_eq,decide_eq_false_iff_not,Qhb,Qf7,Qho,Qf4,beq_iff_eq,beq_eq_false_iff_ne,bne_iff_ne,bne_eq_false_iff_eq,ne_eq,List.all_cons,List.all_nil,D.plain,List.length_cons,List.length_nil,List.length_append,List.length_set,List.length_replicate,IntKind.wrap_i64,IntKind.wrap_u64,IntKind.wrap_u32,IntKind.wrap_i32,IntKind.wrap_u8,true_and,and_true,or_false,false_or,or_true,true_or,not_true_eq_false,not_false_eq_true,Prod.fst,Prod.snd]at*);simp only[←List.length_pos_iff]at*;omega)|(simp_all;done)|(have:= @Qzf;simp_all;try omega))))
def Z35:Q0c:=mkR 170 [] true [.agg Q0a.sig, .one (.int .i64)] [] (λargs rows=>Qjw (Q0a.of (args.getD 0 .dead).cells) (argI args 1)) (λX=> .tup [.agg (Q0a.cells (X.1)), .int .u32 (X.2)]) (λX=>[])
theorem Qz1:Q08 Tryz.prog Z35:=Q27 Q0p Q0o (.nil) Tryz.func170 Tryz.call170 (λargs rows=>Q7j (Q0a.of (args.getD 0 .dead).cells) (argI args 1)) [] [] 2 (λ_ _ _=>by kernel_rfl) (λ_ _=>rfl) (λargs rows=>Qv3 (Q0a.of (args.getD 0 .dead).cells) (argI args 1)) (λ_ X=>by kernel_rfl)
def Qjm(t:Q0f):Tree Int:=
.br t.D2 (.lf 1) (.lf 0)
def Qr1(t:Q0f):Int:=(Qjm t).m
def Z9o:Q0c:=mkR 171 [] true [.agg Q0f.sig] [] (λargs rows=>Qr1 (Q0f.of (args.getD 0 .dead).cells)) (λX=> .int .u32 X) (λX=>[])
theorem Z4r:Q08 Tryz.prog Z9o:=Q27 Q0p Q0o (.nil) Tryz.func171 Tryz.call171 (λargs rows=>Qjm (Q0f.of (args.getD 0 .dead).cells)) [] [] 2 (λ_ _ _=>by kernel_rfl) (λ_ _=>rfl) (λ_ _=>Tree.free_ok (by kernel_rfl)) (λ_ X=>by kernel_rfl)
def Qls(d0:Q09)(port:Int):Tree Int:=
.br (port==4) (.lf d0.B6) (.br (port==5) (.lf d0.B0) (.br (port==6) (.lf (wrap u32 d0.B7)) (.lf 0)))
def Qnp(d0:Q09)(port:Int):Int:=(Qls d0 port).m
def disk_In_m:Q0c:=mkR 172 [] true [.agg Q09.sig, .one (.int .i64)] [] (λargs rows=>Qnp (Q09.of (args.getD 0 .dead).cells) (argI args 1)) (λX=> .int .u32 X) (λX=>[])
theorem Z8k:Q08 Tryz.prog disk_In_m:=Q27 Q0p Q0o (.nil) Tryz.func172 Tryz.call172 (λargs rows=>Qls (Q09.of (args.getD 0 .dead).cells) (argI args 1)) [] [] 2 (λ_ _ _=>by kernel_rfl) (λ_ _=>rfl) (λ_ _=>Tree.free_ok (by kernel_rfl)) (λ_ X=>by kernel_rfl)
def Qm6(n:Q0j)(port:Int):Tree Int:=
.br (port==7) (.lf n.B0) (.br (port==8) (.lf n.F0) (.br (port==9) (.br n.C2 (.br n.B5 (.lf (wrap u32 (wrap u32 ((0:Int)+(1:Int))+2))) (.lf (wrap u32 ((0:Int)+(1:Int))))) (.br n.B5 (.lf (wrap u32 ((0:Int)+(2:Int)))) (.lf 0))) (.lf 0)))
def Qsj(n:Q0j)(port:Int):Int:=(Qm6 n port).m
def nic_In_m:Q0c:=mkR 173 [] true [.agg Q0j.sig, .one (.int .i64)] [] (λargs rows=>Qsj (Q0j.of (args.getD 0 .dead).cells) (argI args 1)) (λX=> .int .u32 X) (λX=>[])
theorem nic_In_ok:Q08 Tryz.prog nic_In_m:=Q27 Q0p Q0o (.nil) Tryz.func173 Tryz.call173 (λargs rows=>Qm6 (Q0j.of (args.getD 0 .dead).cells) (argI args 1)) [] [] 2 (λ_ _ _=>by kernel_rfl) (λ_ _=>rfl) (λ_ _=>Tree.free_ok (by kernel_rfl)) (λ_ X=>by kernel_rfl)
def Q5x(b:Q06)(port:Int):Tree Int:=
.br (port==10) (.lf b.C4) (.br (port==11) (.an (Q87 b) (.lv (Qa2 b) λ(x0:Int)=> .lf (wrap u32 x0))) (.lf 0))
def Qk5(b:Q06)(port:Int):Int:=(Q5x b port).m
abbrev Qfp(b:Q06)(port:Int):Prop:=(Q5x b port).p
def Z33:Q0c:=mkP 174 [] true [.agg Q06.sig, .one (.int .i64)] [] (λargs rows=>Qfp (Q06.of (args.getD 0 .dead).cells) (argI args 1)) (λargs rows=>Qk5 (Q06.of (args.getD 0 .dead).cells) (argI args 1)) (λX=> .int .u32 X) (λX=>[])
theorem Qy2:Q08 Tryz.prog Z33:=Q0t Q0p Q0o (.cons Qi3 (.nil)) Tryz.func174 Tryz.call174 (λargs rows=>Q5x (Q06.of (args.getD 0 .dead).cells) (argI args 1)) [] [] 2 (λ_ _ _=>by kernel_rfl) (λ_ _=>rfl) (λ_ _ h=>h) (λ_ X=>by kernel_rfl)
def Q26(m:Q00)(port:Int)(clock:Int):Tree (Q00×Int):=
let T1:Tree ((Q00×Int)):= .lv (Qjw m.A1 port) λ(x0:Q0a×Int)=> .lf ({B1:=m.B1,Mem:=m.Mem,A1:=x0.1,A6:=m.A6,A7:=m.A7,C3:=m.C3,A0:=m.A0,A3:=m.A3,A2:=m.A2,A4:=m.A4},x0.2); .br (port==0) T1 (.br (port==1) T1 (.br (port==2) (.lf (m,clock)) (.br (port==3) (.lv (Qr1 m.A6) λ(x2:Int)=> .lf (m,x2)) (.br (port==4) (.lv (Qnp m.A7 port) λ(x3:Int)=> .lf (m,x3)) (.br (port==5) (.lv (Qnp m.A7 port) λ(x4:Int)=> .lf (m,x4)) (.br (port==6) (.lv (Qnp m.A7 port) λ(x5:Int)=> .lf (m,x5)) (.br (port==7) (.lv (Qsj m.C3 port) λ(x6:Int)=> .lf (m,x6)) (.br (port==8) (.lv (Qsj m.C3 port) λ(x7:Int)=> .lf (m,x7)) (.br (port==9) (.lv (Qsj m.C3 port) λ(x8:Int)=> .lf (m,x8)) (let T2:Tree ((Q00×Int)):= .an (Qfp m.A0 port) (.lv (Qk5 m.A0 port) λ(x9:Int)=> .lf (m,x9)); .br (port==10) T2 (.br (port==11) T2 (.lf (m,0)))))))))))))
def Q11(m:Q00)(port:Int)(clock:Int):(Q00×Int):=(Q26 m port clock).m
abbrev Q8i(m:Q00)(port:Int)(clock:Int):Prop:=(Q26 m port clock).p
def Qlw:Q0c:=Q0c.fz<|mkP 125 [] false [.agg Q00.sig, .one (.int .i64), .one (.int .u32)] [] (λargs rows=>Q8i (Q00.of (args.getD 0 .dead).cells) (argI args 1) (argI args 2)) (λargs rows=>Q11 (Q00.of (args.getD 0 .dead).cells) (argI args 1) (argI args 2)) (λX=> .tup [.agg (Q00.cells (X.1)), .int .u32 (X.2)]) (λX=>[])
theorem Ql0:Q08 Tryz.prog Qlw:=fz_ok<|Q0t Q0p Q0o (.cons Qz1 (.cons Z4r (.cons Z8k (.cons nic_In_ok (.cons Qy2 (.nil)))))) Tryz.func125 Tryz.call125 (λargs rows=>Q26 (Q00.of (args.getD 0 .dead).cells) (argI args 1) (argI args 2)) [.sl (.ints .u32) false] [] 2 (λ_ _ _=>by kernel_rfl) (λ_ _=>rfl) (λ_ _ h=>h) (λh=>by cases h)
def Qh0(t:Q0f)(deadline:Int):Tree Q0f:=
.lf ({D3:=deadline !=0,C5:=deadline,D2:=false})
def Qgu(t:Q0f)(deadline:Int):Q0f:=(Qh0 t deadline).m
def Z4w:Q0c:=mkR 175 [] true [.agg Q0f.sig, .one (.int .u32)] [] (λargs rows=>Qgu (Q0f.of (args.getD 0 .dead).cells) (argI args 1)) (λX=> .agg (Q0f.cells X)) (λX=>[])
theorem Z30:Q08 Tryz.prog Z4w:=Q27 Q0p Q0o (.nil) Tryz.func175 Tryz.call175 (λargs rows=>Qh0 (Q0f.of (args.getD 0 .dead).cells) (argI args 1)) [] [] 2 (λ_ _ _=>by kernel_rfl) (λ_ _=>rfl) (λ_ _=>Tree.free_ok (by kernel_rfl)) (λ_ X=>by kernel_rfl)
def Q9o(m:(List Int))(frame:Int):Tree Bool:=
.lv (Q0l m) λ(x0:Int)=> .lf (decide (wrap u64 frame<wrap u64 x0))
def Q7p(m:(List Int))(frame:Int):Bool:=(Q9o m frame).m
def Qy4:Q0c:=mkR 166 [] true [.one (.ints .u32), .one (.int .u32)] [] (λargs rows=>Q7p (argL .u32 args 0) (argI args 1)) (λX=> .bool X) (λX=>[])
theorem Qkp:Q08 Tryz.prog Qy4:=Q27 Q0p Q0o (.cons Q3a (.nil)) Tryz.func166 Tryz.call166 (λargs rows=>Q9o (argL .u32 args 0) (argI args 1)) [] [] 2 (λ_ _ _=>by kernel_rfl) (λ_ _=>rfl) (λ_ _=>Tree.free_ok (by kernel_rfl)) (λ_ X=>by kernel_rfl)
def Q6p(m:(List Int))(frame:Int):Tree Bool:=
.br (decide (frame≥0)) (.lv (Q0l m) λ(x0:Int)=> .lf (decide (frame<x0))) (.lf false)
def Q46(m:(List Int))(frame:Int):Bool:=(Q6p m frame).m
def Qq3:Q0c:=mkR 228 [] true [.one (.ints .u32), .one (.int .i64)] [] (λargs rows=>Q46 (argL .u32 args 0) (argI args 1)) (λX=> .bool X) (λX=>[])
theorem Qg3:Q08 Tryz.prog Qq3:=Q27 Q0p Q0o (.cons Q3a (.nil)) Tryz.func228 Tryz.call228 (λargs rows=>Q6p (argL .u32 args 0) (argI args 1)) [] [] 2 (λ_ _ _=>by kernel_rfl) (λ_ _=>rfl) (λ_ _=>Tree.free_ok (by kernel_rfl)) (λ_ X=>by kernel_rfl)
def Qht(words:(List Int))(z:(Int)×(List Int)):Prop:=0≤z.1∧z.1≤words.length∧(z.2.length:Int)=4*z.1
def Q5t(words:(List Int))(z:(Int)×(List Int)):Nat:=(words.length-z.1).toNat
def Q45(words:(List Int)):Tree (List UInt8):=
.cn (Nat.blt 0 1&&Nat.beq 1 1&&List.all [D.int u8 0] D.plain&&decide ((0:Int)≤(0:Int)∧0≤wrap i64 (4*(words.length:Int))∧wrap i64 (4*(words.length:Int))≤9223372036854775807∧(↑1:Int)*wrap i64 (4*(words.length:Int))≤140737488355328)) (.lp inferInstance (Q5t words (0,[])+1) ((True∧((Els.Nil (Els.ints u32 words)∨rE (1:Nat))∧rE (words:List Int))∧rE ((words.length:Int):Int)∧rE (0:Int)∧True)∧rE ([]:List Int)∧True) (0,[]) λ(v0:Int×List Int)=> .br (decide (v0.1<(words.length:Int))) (.cn (Nat.beq 1 1&&Nat.blt 0 1&&decide (0≤v0.1∧v0.1<(words.length:Int))) (.cn (decide (1*(v0.2.length+4)≤140737488355328)) (let E1:=words.getD v0.1.toNat 0; .nx ((True∧((Els.Nil (Els.ints u32 words)∨rE (1:Nat))∧rE (words:List Int))∧rE ((words.length:Int):Int)∧rE ((wrap i64 (v0.1+1)):Int)∧True)∧rE ((v0.2++[wrap u8 (words.getD v0.1.toNat 0),wrap u8 (ishr u32 (words.getD v0.1.toNat 0) 8),wrap u8 (ishr u32 (words.getD v0.1.toNat 0) 16),wrap u8 (ishr u32 (words.getD v0.1.toNat 0) 24)]):List Int)∧True) (Sum.inl (wrap i64 (v0.1+1),v0.2++[wrap u8 E1,wrap u8 (ishr u32 E1 8),wrap u8 (ishr u32 E1 16),wrap u8 (ishr u32 E1 24)]))))) (.lf (Sum.inr (bytesOf v0.2))))
def Qs2(words:(List Int)):(List UInt8):=(Q45 words).m
def Q4j(words:(List Int)):Prop:=
words.length≤1000000000000
theorem Qs9(words:(List Int))(hw:Q4j words):(Q45 words).p:=by
 simp only[Q4j]at hw
 unfold Tree.p Q45
 repeat'(first|refine w_lp (inv:=Qht words) (μ:=Q5t words) ?_ (Nat.lt_succ_self _) (λ_ _=> ?_)|exact trivial|refine w_br (λ_=> ?_) (λ_=> ?_)|refine w_cn ?_ ?_|refine w_an ?_ ?_|refine w_lv (λ_ _=> ?_)|refine w_nx ?_|refine w_lf ?_|refine And.intro ?_ ?_)
 all_goals((try simp only[Qht,Q5t]at*);((subst_vars;first|trivial|assumption|omega|((simp(config:={decide:=true,failIfUnchanged:=false}) only[Bool.and_eq_true,Bool.or_eq_true,Bool.and_eq_false_iff,Bool.or_eq_false_iff,Bool.not_eq_true',Bool.not_eq_false',Bool.not_eq_true,Bool.not_eq_false,decide_eq_true_eq,decide_eq_false_iff_not,Qhb,Qf7,Qho,Qf4,beq_iff_eq,beq_eq_false_iff_ne,bne_iff_ne,bne_eq_false_iff_eq,ne_eq,List.all_cons,List.all_nil,D.plain,List.length_cons,List.length_nil,List.length_append,List.length_set,List.length_replicate,IntKind.wrap_i64,IntKind.wrap_u64,IntKind.wrap_u32,IntKind.wrap_i32,IntKind.wrap_u8,true_and,and_true,or_false,false_or,or_true,true_or,not_true_eq_false,not_false_eq_true,Prod.fst,Prod.snd]at*);first|done|assumption|omega)|((simp(config:={decide:=true,failIfUnchanged:=false}) only[Bool.and_eq_true,Bool.or_eq_true,Bool.and_eq_false_iff,Bool.or_eq_false_iff,Bool.not_eq_true',Bool.not_eq_false',Bool.not_eq_true,Bool.not_eq_false,decide_eq_true_eq,decide_eq_false_iff_not,Qhb,Qf7,Qho,Qf4,beq_iff_eq,beq_eq_false_iff_ne,bne_iff_ne,bne_eq_false_iff_eq,ne_eq,List.all_cons,List.all_nil,D.plain,List.length_cons,List.length_nil,List.length_append,List.length_set,List.length_replicate,IntKind.wrap_i64,IntKind.wrap_u64,IntKind.wrap_u32,IntKind.wrap_i32,IntKind.wrap_u8,true_and,and_true,or_false,false_or,or_true,true_or,not_true_eq_false,not_false_eq_true,Prod.fst,Prod.snd]at*);simp only[←List.length_pos_iff]at*;omega)|(simp_all;done)|(have:= @Qzf;simp_all;try omega))))
def Quu:LInv:={
 α:=(Int)×(List Int)
 F:=λst a=>([(3, .all 0),(10,(lk st 10)),(11,(lk st 11)),(12, .int i64 a.1)],[⟨false,5,1, .ints u8 a.2⟩])
 a0:=λst=>((lk st 12).toInt,(Qi2 st.rows (rN st 3)))
 ex0:=λst=>[]++[(Q1m (lk st 3) (st.rows.length+0))]
 next:=λst=>((lk st 12).toInt,(Qi2 st.rows (rN st 3)))
 ex:=λst=>[]++[(Q1m (lk st 3) (st.rows.length+0))]}
def Qqx:List (Nat×LInv):=[(3,Quu)]
def Qxv:Q0c:=mkP 229 [] true [.one (.ints .u32)] [] (λargs rows=>Q4j (argL .u32 args 0)) (λargs rows=>Qs2 (argL .u32 args 0)) (λX=> .str X) (λX=>[])
theorem Qut:Q08 Tryz.prog Qxv:=Q0t Q0p Q0o (.nil) Tryz.func229 Tryz.call229 (λargs rows=>Q45 (argL .u32 args 0)) [] Qqx 3 (λ_ _ _=>by kernel_rfl) (λ_ _=>rfl) (λargs rows h=>Qs9 (argL .u32 args 0) h) (λ_ X=>by kernel_rfl)
def Q36(m:(List Int))(frame:Int):Tree ((List UInt8)×Bool):=
.lv (Q46 m frame) λ(x0:Bool)=> .br (!x0) (.lf ([],false)) (.cn (Nat.beq 1 1&&Nat.blt 0 1&&decide (0≤wrap i64 (frame*32)∧wrap i64 (frame*32)≤wrap i64 (wrap i64 (frame*32)+32)∧wrap i64 (wrap i64 (frame*32)+32)≤(m.length:Int))) (let E1:=List.take (Int.toNat (wrap i64 (wrap i64 (frame*32)+32))-Int.toNat (wrap i64 (frame*32))) (List.drop (Int.toNat (wrap i64 (frame*32))) m); .an (Q4j E1) (.lv (Qs2 E1) λ(x1:List UInt8)=> .lf (x1,true))))
def Q4f(m:(List Int))(frame:Int):((List UInt8)×Bool):=(Q36 m frame).m
abbrev Q7q(m:(List Int))(frame:Int):Prop:=(Q36 m frame).p
def Z07:Q0c:=mkP 169 [] true [.one (.ints .u32), .one (.int .i64)] [] (λargs rows=>Q7q (argL .u32 args 0) (argI args 1)) (λargs rows=>Q4f (argL .u32 args 0) (argI args 1)) (λX=> .tup [.str (X.1), .bool (X.2)]) (λX=>[])
theorem Qfx:Q08 Tryz.prog Z07:=Q0t Q0p Q0o (.cons Qg3 (.cons Qut (.nil))) Tryz.func169 Tryz.call169 (λargs rows=>Q36 (argL .u32 args 0) (argI args 1)) [] [] 2 (λ_ _ _=>by kernel_rfl) (λ_ _=>rfl) (λ_ _ h=>h) (λ_ X=>by kernel_rfl)
def Qkh(d0:Q09)(at0:Int):Tree (Q07×Bool):=
.br (d0.B7 !=1) (.lf ({C1:=0,At:=0,B6:=0,C7:=[]},false)) (.br (d0.D6==1) (.lf ({C1:=3,At:=at0,B6:=d0.B2,C7:=[]},true)) (.br (d0.D6==2) (.lf ({C1:=4,At:=at0,B6:=d0.B2,C7:=d0.C0},true)) (.lf ({C1:=0,At:=0,B6:=0,C7:=[]},false))))
def Qfd(d0:Q09)(at0:Int):(Q07×Bool):=(Qkh d0 at0).m
def Qvt:Q0c:=mkR 263 [] true [.agg Q09.sig, .one (.int .u64)] [] (λargs rows=>Qfd (Q09.of (args.getD 0 .dead).cells) (argI args 1)) (λX=> .tup [.agg (Q07.cells (X.1)), .bool (X.2)]) (λX=>[])
theorem Qtv:Q08 Tryz.prog Qvt:=Q27 Q0p Q0o (.nil) Tryz.func263 Tryz.call263 (λargs rows=>Qkh (Q09.of (args.getD 0 .dead).cells) (argI args 1)) [] [] 2 (λ_ _ _=>by kernel_rfl) (λ_ _=>rfl) (λ_ _=>Tree.free_ok (by kernel_rfl)) (λ_ X=>by kernel_rfl)
def Q5u(d0:Q09)(m:(List Int))(cmd:Int)(at0:Int):Tree (Q09×(List Q07)):=
.br (d0.B7 !=0) (.lf (d0,[])) (let T1:Tree ((Q09×(List Q07))):= .lf ({Blocks:=d0.Blocks,B6:=d0.B6,B0:=d0.B0,B7:=3,D6:=d0.D6,B2:=d0.B2,A9:=d0.A9,C0:=d0.C0},[]); .br (decide (d0.B6≥d0.Blocks)) T1 (.lv (Q7p m d0.B0) λ(x0:Bool)=> .br (!x0) T1 (.br (cmd==2) (.an (Q7q m (wrap i64 d0.B0)) (.lv (Q4f m (wrap i64 d0.B0)) λ(x1:List UInt8×Bool)=>let E2:=({Blocks:=d0.Blocks,B6:=d0.B6,B0:=d0.B0,B7:=1,D6:=cmd,B2:=d0.B6,A9:=d0.B0,C0:=x1.1}:Q09); .lv (Qfd E2 at0) λ(x2:Q07×Bool)=> .lf (E2,[x2.1]))) (let E3:=({Blocks:=d0.Blocks,B6:=d0.B6,B0:=d0.B0,B7:=1,D6:=cmd,B2:=d0.B6,A9:=d0.B0,C0:=[]}:Q09); .lv (Qfd E3 at0) λ(x3:Q07×Bool)=> .lf (E3,[x3.1])))))
def Qnl(d0:Q09)(m:(List Int))(cmd:Int)(at0:Int):(Q09×(List Q07)):=(Q5u d0 m cmd at0).m
abbrev Qfz(d0:Q09)(m:(List Int))(cmd:Int)(at0:Int):Prop:=(Q5u d0 m cmd at0).p
def Z1t:Q0c:=mkP 230 [] true [.agg Q09.sig, .one (.ints .u32), .one (.int .i64), .one (.int .u64)] [] (λargs rows=>Qfz (Q09.of (args.getD 0 .dead).cells) (argL .u32 args 1) (argI args 2) (argI args 3)) (λargs rows=>Qnl (Q09.of (args.getD 0 .dead).cells) (argL .u32 args 1) (argI args 2) (argI args 3)) (λX=> .tup [.agg (Q09.cells (X.1)), .sl 4 (.recs .apiOutput (X.2)) true]) (λX=>[])
theorem Qzp:Q08 Tryz.prog Z1t:=Q0t Q0p Q0o (.cons Qkp (.cons Qfx (.cons Qtv (.nil)))) Tryz.func230 Tryz.call230 (λargs rows=>Q5u (Q09.of (args.getD 0 .dead).cells) (argL .u32 args 1) (argI args 2) (argI args 3)) [.sl (.recs .apiOutput) true] [] 2 (λ_ _ _=>by kernel_rfl) (λ_ _=>rfl) (λ_ _ h=>h) (λ_ X=>by kernel_rfl)
def Q99(d0:Q09)(m:(List Int))(port:Int)(v:Int)(at0:Int):Tree (Q09×(List Q07)):=
.br (port==4) (.lf ({Blocks:=d0.Blocks,B6:=v,B0:=d0.B0,B7:=d0.B7,D6:=d0.D6,B2:=d0.B2,A9:=d0.A9,C0:=d0.C0},[])) (.br (port==5) (.lf ({Blocks:=d0.Blocks,B6:=d0.B6,B0:=v,B7:=d0.B7,D6:=d0.D6,B2:=d0.B2,A9:=d0.A9,C0:=d0.C0},[])) (.br (port==6) (let T1:Tree ((Q09×(List Q07))):= .an (Qfz d0 m (wrap i64 v) at0) (.lv (Qnl d0 m (wrap i64 v) at0) λ(x0:Q09×List Q07)=> .lf (x0.1,x0.2)); .br (v==1) T1 (.br (v==2) T1 (.br (v==0) (.lv (Q7x d0) λ(x2:Bool)=> .br x2 (.lf ({Blocks:=d0.Blocks,B6:=d0.B6,B0:=d0.B0,B7:=0,D6:=d0.D6,B2:=d0.B2,A9:=d0.A9,C0:=d0.C0},[])) (.lf (d0,[]))) (.lf (d0,[]))))) (.lf (d0,[]))))
def Qr7(d0:Q09)(m:(List Int))(port:Int)(v:Int)(at0:Int):(Q09×(List Q07)):=(Q99 d0 m port v at0).m
abbrev Qj9(d0:Q09)(m:(List Int))(port:Int)(v:Int)(at0:Int):Prop:=(Q99 d0 m port v at0).p
def Z82:Q0c:=mkP 176 [] true [.agg Q09.sig, .one (.ints .u32), .one (.int .i64), .one (.int .u32), .one (.int .u64)] [] (λargs rows=>Qj9 (Q09.of (args.getD 0 .dead).cells) (argL .u32 args 1) (argI args 2) (argI args 3) (argI args 4)) (λargs rows=>Qr7 (Q09.of (args.getD 0 .dead).cells) (argL .u32 args 1) (argI args 2) (argI args 3) (argI args 4)) (λX=> .tup [.agg (Q09.cells (X.1)), .sl 4 (.recs .apiOutput (X.2)) true]) (λX=>[])
theorem Z5k:Q08 Tryz.prog Z82:=Q0t Q0p Q0o (.cons Qzp (.cons Qiz (.nil))) Tryz.func176 Tryz.call176 (λargs rows=>Q99 (Q09.of (args.getD 0 .dead).cells) (argL .u32 args 1) (argI args 2) (argI args 3) (argI args 4)) [.sl (.recs .apiOutput) true] [] 2 (λ_ _ _=>by kernel_rfl) (λ_ _=>rfl) (λ_ _ h=>h) (λ_ X=>by kernel_rfl)
def Qc7(m:(List Int))(frame:Int):Tree Bool:=
.lv (Q0l m) λ(x0:Int)=> .lf (decide (wrap u64 frame<wrap u64 x0))
def Q82(m:(List Int))(frame:Int):Bool:=(Qc7 m frame).m
def Z3s:Q0c:=mkR 168 [] true [.one (.ints .u32), .one (.int .u32)] [] (λargs rows=>Q82 (argL .u32 args 0) (argI args 1)) (λX=> .bool X) (λX=>[])
theorem Qhq:Q08 Tryz.prog Z3s:=Q27 Q0p Q0o (.cons Q3a (.nil)) Tryz.func168 Tryz.call168 (λargs rows=>Qc7 (argL .u32 args 0) (argI args 1)) [] [] 2 (λ_ _ _=>by kernel_rfl) (λ_ _=>rfl) (λ_ _=>Tree.free_ok (by kernel_rfl)) (λ_ X=>by kernel_rfl)
def Q9b(n:Q0j)(m:(List Int))(at0:Int):Tree (List Q07):=
.br (decide (n.D9<1)) (.lf ([])) (.br (decide (n.D9>128)) (.lf ([])) (.lv (Q82 m n.B0) λ(x0:Bool)=> .br (!x0) (.lf ([])) (.an (Q7q m (wrap i64 n.B0)) (.lv (Q4f m (wrap i64 n.B0)) λ(x1:List UInt8×Bool)=> .cn (decide ((0:Int)≤(0:Int)∧0≤n.D9∧n.D9≤(x1.1.length:Int))) (.lf ([{C1:=2,At:=at0,B6:=0,C7:=List.take (Int.toNat n.D9-Int.toNat 0) (List.drop (Int.toNat 0) x1.1)}]))))))
def Qys(n:Q0j)(m:(List Int))(at0:Int):(List Q07):=(Q9b n m at0).m
abbrev Qil(n:Q0j)(m:(List Int))(at0:Int):Prop:=(Q9b n m at0).p
def Z9j:Q0c:=mkP 231 [] true [.agg Q0j.sig, .one (.ints .u32), .one (.int .u64)] [] (λargs rows=>Qil (Q0j.of (args.getD 0 .dead).cells) (argL .u32 args 1) (argI args 2)) (λargs rows=>Qys (Q0j.of (args.getD 0 .dead).cells) (argL .u32 args 1) (argI args 2)) (λX=> .sl 4 (.recs .apiOutput X) true) (λX=>[])
theorem Z5p:Q08 Tryz.prog Z9j:=Q0t Q0p Q0o (.cons Qhq (.cons Qfx (.nil))) Tryz.func231 Tryz.call231 (λargs rows=>Q9b (Q0j.of (args.getD 0 .dead).cells) (argL .u32 args 1) (argI args 2)) [.sl (.recs .apiOutput) true] [] 2 (λ_ _ _=>by kernel_rfl) (λ_ _=>rfl) (λ_ _ h=>h) (λ_ X=>by kernel_rfl)
def Qca(n:Q0j)(m:(List Int))(port:Int)(v:Int)(at0:Int):Tree (Q0j×(List Q07)):=
.br (port==7) (.lf ({B0:=v,D9:=n.D9,C2:=n.C2,B8:=n.B8,B5:=n.B5,F0:=n.F0},[])) (.br (port==8) (.lf ({B0:=n.B0,D9:=v,C2:=n.C2,B8:=n.B8,B5:=n.B5,F0:=n.F0},[])) (.br (port==9) (.br (v==1) (.an (Qil n m at0) (.lv (Qys n m at0) λ(x0:List Q07)=> .lf (n,x0))) (.br (v==2) (.lv (Q82 m n.B0) λ(x1:Bool)=> .br x1 (.br (!n.C2) (.br (!n.B5) (.lf ({B0:=n.B0,D9:=n.D9,C2:=true,B8:=n.B0,B5:=n.B5,F0:=n.F0},[])) (.lf (n,[]))) (.lf (n,[]))) (.lf (n,[]))) (.br (v==0) (.lf ({B0:=n.B0,D9:=n.D9,C2:=n.C2,B8:=n.B8,B5:=false,F0:=0},[])) (.lf (n,[]))))) (.lf (n,[]))))
def Qyt(n:Q0j)(m:(List Int))(port:Int)(v:Int)(at0:Int):(Q0j×(List Q07)):=(Qca n m port v at0).m
abbrev Qln(n:Q0j)(m:(List Int))(port:Int)(v:Int)(at0:Int):Prop:=(Qca n m port v at0).p
def nic_Out_m:Q0c:=mkP 177 [] true [.agg Q0j.sig, .one (.ints .u32), .one (.int .i64), .one (.int .u32), .one (.int .u64)] [] (λargs rows=>Qln (Q0j.of (args.getD 0 .dead).cells) (argL .u32 args 1) (argI args 2) (argI args 3) (argI args 4)) (λargs rows=>Qyt (Q0j.of (args.getD 0 .dead).cells) (argL .u32 args 1) (argI args 2) (argI args 3) (argI args 4)) (λX=> .tup [.agg (Q0j.cells (X.1)), .sl 4 (.recs .apiOutput (X.2)) true]) (λX=>[])
theorem Za1:Q08 Tryz.prog nic_Out_m:=Q0t Q0p Q0o (.cons Z5p (.cons Qhq (.nil))) Tryz.func177 Tryz.call177 (λargs rows=>Qca (Q0j.of (args.getD 0 .dead).cells) (argL .u32 args 1) (argI args 2) (argI args 3) (argI args 4)) [.sl (.recs .apiOutput) true] [] 2 (λ_ _ _=>by kernel_rfl) (λ_ _=>rfl) (λ_ _ h=>h) (λ_ X=>by kernel_rfl)
def Q8h(m:(List Int))(frame:Int)(s:(List UInt8))(z:(Int)×(List Int)):Nat:=(32-z.1).toNat
def Q1x(m:(List Int))(frame:Int)(s:(List UInt8)):Tree ((List Int)×Bool):=
.an (Q03 m) (.lv (Q01 m) λ(x0:List Int)=> .lv (Q46 m frame) λ(x1:Bool)=> .br (!x1) (.lf (x0,false)) (.br ((s.length:Int) !=(128:Int)) (.lf (x0,false)) (.lp inferInstance (Q8h m frame s (0,x0)+1) ((rE (s:List UInt8)∧True∧rE ((wrap i64 (frame*32)):Int)∧rE (0:Int)∧True)∧rE (x0:List Int)∧True) (0,x0) λ(v0:Int×List Int)=> .br (decide (v0.1<32)) (.cn (decide (0≤wrap i64 (4*v0.1)∧wrap i64 (4*v0.1)≤wrap i64 (wrap i64 (4*v0.1)+4)∧wrap i64 (wrap i64 (4*v0.1)+4)≤(s.length:Int))) (let E1:=List.take (Int.toNat (wrap i64 (wrap i64 (4*v0.1)+4))-Int.toNat (wrap i64 (4*v0.1))) (List.drop (Int.toNat (wrap i64 (4*v0.1))) s); .cn (decide ((0:Int)≤(0:Int)∧0<(↑(List.length E1):Int))) (.cn (decide ((0:Int)≤(1:Int)∧1<(↑(List.length E1):Int))) (.cn (decide ((0:Int)≤(2:Int)∧2<(↑(List.length E1):Int))) (.cn (decide ((0:Int)≤(3:Int)∧3<(↑(List.length E1):Int))) (.cn (Nat.beq 1 1&&Nat.blt 0 1&&decide (0≤wrap i64 (wrap i64 (frame*32)+v0.1)∧wrap i64 (wrap i64 (frame*32)+v0.1)<(v0.2.length:Int))) (.nx ((rE (s:List UInt8)∧True∧rE ((wrap i64 (frame*32)):Int)∧rE ((wrap i64 (v0.1+1)):Int)∧True)∧rE ((List.set v0.2 (Int.toNat (wrap i64 (wrap i64 (frame*32)+v0.1))) (ior u32 (ior u32 (ior u32 (wrap u32 (↑(UInt8.toNat (List.getD (List.take (Int.toNat (wrap i64 (wrap i64 (4*v0.1)+4))-Int.toNat (wrap i64 (4*v0.1))) (List.drop (Int.toNat (wrap i64 (4*v0.1))) s)) (Int.toNat 0) (0:UInt8))):Int)) (ishl u32 (wrap u32 (↑(UInt8.toNat (List.getD (List.take (Int.toNat (wrap i64 (wrap i64 (4*v0.1)+4))-Int.toNat (wrap i64 (4*v0.1))) (List.drop (Int.toNat (wrap i64 (4*v0.1))) s)) (Int.toNat 1) (0:UInt8))):Int)) 8)) (ishl u32 (wrap u32 (↑(UInt8.toNat (List.getD (List.take (Int.toNat (wrap i64 (wrap i64 (4*v0.1)+4))-Int.toNat (wrap i64 (4*v0.1))) (List.drop (Int.toNat (wrap i64 (4*v0.1))) s)) (Int.toNat 2) (0:UInt8))):Int)) 16)) (ishl u32 (wrap u32 (↑(UInt8.toNat (List.getD (List.take (Int.toNat (wrap i64 (wrap i64 (4*v0.1)+4))-Int.toNat (wrap i64 (4*v0.1))) (List.drop (Int.toNat (wrap i64 (4*v0.1))) s)) (Int.toNat 3) (0:UInt8))):Int)) 24))):List Int)∧True) (Sum.inl (wrap i64 (v0.1+1),List.set v0.2 (Int.toNat (wrap i64 (wrap i64 (frame*32)+v0.1))) (ior u32 (ior u32 (ior u32 (wrap u32 (↑(UInt8.toNat (List.getD E1 (Int.toNat 0) (0:UInt8))):Int)) (ishl u32 (wrap u32 (↑(UInt8.toNat (List.getD E1 (Int.toNat 1) (0:UInt8))):Int)) 8)) (ishl u32 (wrap u32 (↑(UInt8.toNat (List.getD E1 (Int.toNat 2) (0:UInt8))):Int)) 16)) (ishl u32 (wrap u32 (↑(UInt8.toNat (List.getD E1 (Int.toNat 3) (0:UInt8))):Int)) 24))))))))))) (.lf (Sum.inr (v0.2,true))))))
def Q2c(m:(List Int))(frame:Int)(s:(List UInt8)):((List Int)×Bool):=(Q1x m frame s).m
abbrev Q54(m:(List Int))(frame:Int)(s:(List UInt8)):Prop:=(Q1x m frame s).p
def Qoe:LInv:={
 α:=(Int)×(List Int)
 F:=λst a=>([(2,(lk st 2)),(8, .all 0),(9,(lk st 9)),(26, .int i64 a.1)],[⟨false,23,1, .ints u32 a.2⟩])
 a0:=λst=>((lk st 26).toInt,(Qi2 st.rows (rN st 8)))
 ex0:=λst=>[]++[(Q1m (lk st 8) (st.rows.length+0))]
 next:=λst=>((lk st 26).toInt,(Qi2 st.rows (rN st 8)))
 ex:=λst=>[]++[(Q1m (lk st 8) (st.rows.length+0))]}
def Qkw:List (Nat×LInv):=[(6,Qoe)]
def Qq8:Q0c:=mkP 167 [] true [.one (.ints .u32), .one (.int .i64), .one (.str)] [] (λargs rows=>Q54 (argL .u32 args 0) (argI args 1) (argS args 2)) (λargs rows=>Q2c (argL .u32 args 0) (argI args 1) (argS args 2)) (λX=> .tup [.all 0, .bool (X.2)]) (λX=>[⟨false,23,1, .ints .u32 (X.1)⟩])
theorem Qaz:Q08 Tryz.prog Qq8:=Q0t Q0p Q0o (.cons Q0k (.cons Qg3 (.nil))) Tryz.func167 Tryz.call167 (λargs rows=>Q1x (argL .u32 args 0) (argI args 1) (argS args 2)) [.row 23 1 (.ints .u32)] Qkw 3 (λ_ _ _=>by kernel_rfl) (λ_ _=>rfl) (λ_ _ h=>h) (λ_ X=>by kernel_rfl)
def strings_Repeat(s:(List UInt8))(count:Int):(List UInt8):=
Lib.repeatL s count.toNat
def Q3s(s:(List UInt8))(count:Int):Prop:=
0≤count∧count≤9223372036854775807∧s.length*count.toNat≤140737488355328
def Qer(s:(List UInt8))(count:Int):List D:=[.str s, .int .i64 count]
def Qea(s:(List UInt8))(count:Int):List Row:=[]
def Qa0(X:(List UInt8)):D:= .str X
def Q9u(X:(List UInt8)):List Row:=[]
def Qfe:List PT:=[.one (.str), .one (.int .i64)]
def Qei:List RT:=[]
def Qmz(args:List D)(rows:List Row):(List UInt8):=strings_Repeat (argS args 0) (argI args 1)
def Qlt(args:List D)(rows:List Row):Prop:=Q3s (argS args 0) (argI args 1)
def Qqe:Q0c:=mkP 232 [] true Qfe Qei Qlt Qmz Qa0 Q9u
theorem Qk9(s:(List UInt8))(count:Int)(hw:Q3s s count):Q3g Tryz.prog 232 (Qer s count) (Qea s count) (Qa0 (strings_Repeat s count)) (Q9u (strings_Repeat s count)):=by
 exact repeat_of Tryz.strings_Repeat hw.1 hw.2.1 hw.2.2
set_option maxRecDepth 100000 in
theorem Qlj(args:List D)(rows:List Row):Qf1 Qfe args 0=Qer (argS args 0) (argI args 1):=by kernel_rfl
set_option maxRecDepth 100000 in
theorem Qkd(args:List D)(rows:List Row):Q5y Qei rows 0=Qea (argS args 0) (argI args 1):=by kernel_rfl
set_option maxRecDepth 100000 in
theorem Qni(X:(List UInt8)):(ffB (Qa0 X)&&ffBR (Q9u X))=true:=by kernel_rfl
theorem Qoa:Q08 Tryz.prog Qqe:=Qxi Tryz.call232 (λargs rows hp=>by rw[Qlj args rows,Qkd args rows];exact Qk9 (argS args 0) (argI args 1) hp) (λ_ X=>Qni X)
def Q2d(b:Q06)(m:(List Int))(port:Int)(v:Int):Tree (Q06×(List Int)):=
let T1:Tree ((Q06×(List Int))):= .an (Q03 m) (.lv (Q01 m) λ(x0:List Int)=> .lf (b,x0)); .br (decide (v≥32)) T1 (.cn (decide (0≤v)) (.br (port==10) (.lv (Q0l m) λ(x1:Int)=> .br (decide (wrap i64 v<x1)) (.br (iand u32 b.B9 (ishl u32 1 v)==0) (.an (Q3s [(0:UInt8)] 128) (.lv (strings_Repeat [(0:UInt8)] 128) λ(x2:List UInt8)=> .an (Q54 m (wrap i64 v) x2) (.lv (Q2c m (wrap i64 v) x2) λ(x3:List Int×Bool)=> .lf ({C4:=b.C4,B9:=ior u32 b.B9 (ishl u32 1 v)},x3.1)))) T1) T1) (.br (port==11) (.an (Q03 m) (.lv (Q01 m) λ(x6:List Int)=> .lf ({C4:=b.C4,B9:=Qdf u32 b.B9 (ishl u32 1 v)},x6))) T1)))
def Q63(b:Q06)(m:(List Int))(port:Int)(v:Int):(Q06×(List Int)):=(Q2d b m port v).m
abbrev Qep(b:Q06)(m:(List Int))(port:Int)(v:Int):Prop:=(Q2d b m port v).p
def Z08:Q0c:=mkP 178 [] true [.agg Q06.sig, .one (.ints .u32), .one (.int .i64), .one (.int .u32)] [] (λargs rows=>Qep (Q06.of (args.getD 0 .dead).cells) (argL .u32 args 1) (argI args 2) (argI args 3)) (λargs rows=>Q63 (Q06.of (args.getD 0 .dead).cells) (argL .u32 args 1) (argI args 2) (argI args 3)) (λX=> .tup [.agg (Q06.cells (X.1)), .all 0]) (λX=>[⟨false,23,1, .ints .u32 (X.2)⟩])
theorem Qvb:Q08 Tryz.prog Z08:=Q0t Q0p Q0o (.cons Q0k (.cons Q3a (.cons Qaz (.cons Qoa (.nil))))) Tryz.func178 Tryz.call178 (λargs rows=>Q2d (Q06.of (args.getD 0 .dead).cells) (argL .u32 args 1) (argI args 2) (argI args 3)) [.row 23 1 (.ints .u32)] [] 2 (λ_ _ _=>by kernel_rfl) (λ_ _=>rfl) (λ_ _ h=>h) (λ_ X=>by kernel_rfl)
def Q1w(m:Q00)(port:Int)(v:Int)(at0:Int):Tree (Q00×(List Q07)):=
.br (port==0) (.lf (m,[{C1:=1,At:=at0,B6:=0,C7:=[(λ(n:Int)=>UInt8.ofNat n.toNat) (wrap u8 v)]}])) (.br (port==3) (.lv (Qgu m.A6 v) λ(x0:Q0f)=> .lf ({B1:=m.B1,Mem:=m.Mem,A1:=m.A1,A6:=x0,A7:=m.A7,C3:=m.C3,A0:=m.A0,A3:=m.A3,A2:=m.A2,A4:=m.A4},[])) (let T1:Tree ((Q00×(List Q07))):= .an (Qj9 m.A7 m.Mem port v at0) (.lv (Qr7 m.A7 m.Mem port v at0) λ(x1:Q09×List Q07)=> .lf ({B1:=m.B1,Mem:=m.Mem,A1:=m.A1,A6:=m.A6,A7:=x1.1,C3:=m.C3,A0:=m.A0,A3:=m.A3,A2:=m.A2,A4:=m.A4},x1.2)); .br (port==4) T1 (.br (port==5) T1 (.br (port==6) T1 (let T2:Tree ((Q00×(List Q07))):= .an (Qln m.C3 m.Mem port v at0) (.lv (Qyt m.C3 m.Mem port v at0) λ(x4:Q0j×List Q07)=> .lf ({B1:=m.B1,Mem:=m.Mem,A1:=m.A1,A6:=m.A6,A7:=m.A7,C3:=x4.1,A0:=m.A0,A3:=m.A3,A2:=m.A2,A4:=m.A4},x4.2)); .br (port==7) T2 (.br (port==8) T2 (.br (port==9) T2 (let T3:Tree ((Q00×(List Q07))):= .an (Qep m.A0 m.Mem port v) (.lv (Q63 m.A0 m.Mem port v) λ(x7:Q06×List Int)=> .lf ({B1:=m.B1,Mem:=x7.2,A1:=m.A1,A6:=m.A6,A7:=m.A7,C3:=m.C3,A0:=x7.1,A3:=m.A3,A2:=m.A2,A4:=m.A4},[])); .br (port==10) T3 (.br (port==11) T3 (.lf (m,[])))))))))))
def Q2(m:Q00)(port:Int)(v:Int)(at0:Int):(Q00×(List Q07)):=(Q1w m port v at0).m
abbrev Q7t(m:Q00)(port:Int)(v:Int)(at0:Int):Prop:=(Q1w m port v at0).p
def Ql4:Q0c:=Q0c.fz<|mkP 126 [] false [.agg Q00.sig, .one (.int .i64), .one (.int .u32), .one (.int .u64)] [] (λargs rows=>Q7t (Q00.of (args.getD 0 .dead).cells) (argI args 1) (argI args 2) (argI args 3)) (λargs rows=>Q2 (Q00.of (args.getD 0 .dead).cells) (argI args 1) (argI args 2) (argI args 3)) (λX=> .tup [.agg (Q00.cells (X.1)), .sl 4 (.recs .apiOutput (X.2)) true]) (λX=>[])
theorem Qke:Q08 Tryz.prog Ql4:=fz_ok<|Q0t Q0p Q0o (.cons Z30 (.cons Z5k (.cons Za1 (.cons Qvb (.nil))))) Tryz.func126 Tryz.call126 (λargs rows=>Q1w (Q00.of (args.getD 0 .dead).cells) (argI args 1) (argI args 2) (argI args 3)) [.sl (.ints .u32) false, .sl (.recs .apiOutput) true] [] 2 (λ_ _ _=>by kernel_rfl) (λ_ _=>rfl) (λ_ _ h=>h) (λh=>by cases h)
def Q38(m:Q00)(clock:Int):Tree (Q00×(List Q07)):=
.an (Q03 m.Mem) (.lv (Q01 m.Mem) λ(x0:List Int)=>let E1:=({B1:=m.B1,Mem:=x0,A1:=m.A1,A6:=m.A6,A7:=m.A7,C3:=m.C3,A0:=m.A0,A3:=m.A3,A2:=m.A2,A4:=m.A4}:Q00); .an (Q6q E1) (.lv (Q3j E1) λ(x1:Bool)=> .br (!x1) (.lf (E1,[])) (.an (Q5i E1) (.lv (Q0s E1) λ(x2:Q00)=> .an (Qbl x2.B1 x2.Mem) (.lv (Q81 x2.B1 x2.Mem) λ(x3:Q02×List Int×Q1)=>let E2:=({B1:=x3.1,Mem:=x3.2.1,A1:=x2.A1,A6:=x2.A6,A7:=x2.A7,C3:=x2.C3,A0:=x2.A0,A3:=x2.A3,A2:=x2.A2,A4:=x2.A4}:Q00); .br (x3.2.2.C1==1) (.an (Q8i E2 x3.2.2.C6 clock) (.lv (Q11 E2 x3.2.2.C6 clock) λ(x4:Q00×Int)=> .br (x3.2.2.D7 !=0) (.cn (Nat.blt 0 1&&decide (0≤x3.2.2.D7∧x3.2.2.D7<(↑16:Int))) (.lf ({B1:={X:=A16.of 0 (List.set (A16.l x4.1.B1.X) x3.2.2.D7.toNat x4.2),Pc:=x4.1.B1.Pc,B3:=x4.1.B1.B3},Mem:=x4.1.Mem,A1:=x4.1.A1,A6:=x4.1.A6,A7:=x4.1.A7,C3:=x4.1.C3,A0:=x4.1.A0,A3:=wrap u64 (x4.1.A3+1),A2:=x4.1.A2,A4:=x4.1.A4},[]))) (.lf ({B1:=x4.1.B1,Mem:=x4.1.Mem,A1:=x4.1.A1,A6:=x4.1.A6,A7:=x4.1.A7,C3:=x4.1.C3,A0:=x4.1.A0,A3:=wrap u64 (x4.1.A3+1),A2:=x4.1.A2,A4:=x4.1.A4},[])))) (.br (x3.2.2.C1==2) (.an (Q7t E2 x3.2.2.C6 x3.2.2.Value m.A3) (.lv (Q2 E2 x3.2.2.C6 x3.2.2.Value m.A3) λ(x5:Q00×List Q07)=> .lf ({B1:=x5.1.B1,Mem:=x5.1.Mem,A1:=x5.1.A1,A6:=x5.1.A6,A7:=x5.1.A7,C3:=x5.1.C3,A0:=x5.1.A0,A3:=wrap u64 (x5.1.A3+1),A2:=x5.1.A2,A4:=x5.1.A4},x5.2))) (.br (x3.2.2.C1==3) (.lf ({B1:=x3.1,Mem:=x3.2.1,A1:=x2.A1,A6:=x2.A6,A7:=x2.A7,C3:=x2.C3,A0:=x2.A0,A3:=wrap u64 (x2.A3+1),A2:=true,A4:=x2.A4},[])) (.br (x3.2.2.C1==4) (.lf ({B1:=x3.1,Mem:=x3.2.1,A1:=x2.A1,A6:=x2.A6,A7:=x2.A7,C3:=x2.C3,A0:=x2.A0,A3:=wrap u64 (x2.A3+1),A2:=x2.A2,A4:=true},[])) (.lf ({B1:=x3.1,Mem:=x3.2.1,A1:=x2.A1,A6:=x2.A6,A7:=x2.A7,C3:=x2.C3,A0:=x2.A0,A3:=wrap u64 (x2.A3+1),A2:=x2.A2,A4:=x2.A4},[]))))))))))
def Q61(m:Q00)(clock:Int):(Q00×(List Q07)):=(Q38 m clock).m
abbrev Q6t(m:Q00)(clock:Int):Prop:=(Q38 m clock).p
def Quv:Q0c:=Q0c.fz<|mkP 58 [] false [.agg Q00.sig, .one (.int .u32)] [] (λargs rows=>Q6t (Q00.of (args.getD 0 .dead).cells) (argI args 1)) (λargs rows=>Q61 (Q00.of (args.getD 0 .dead).cells) (argI args 1)) (λX=> .tup [.agg (Q00.cells (X.1)), .sl 4 (.recs .apiOutput (X.2)) false]) (λX=>[])
theorem Qt5:Q08 Tryz.prog Quv:=fz_ok<|Q0t Q0p Q0o (.cons Q0k (.cons Qip (.cons Qhy (.cons Qrq (.cons Ql0 (.cons Qke (.nil))))))) Tryz.func58 Tryz.call58 (λargs rows=>Q38 (Q00.of (args.getD 0 .dead).cells) (argI args 1)) [.sl (.ints .u32) false, .sl (.recs .apiOutput) false] [] 2 (λ_ _ _=>by kernel_rfl) (λ_ _=>rfl) (λ_ _ h=>h) (λh=>by cases h)
end
end Go.Proofs.YtjaifpiopmhmlaaGreat

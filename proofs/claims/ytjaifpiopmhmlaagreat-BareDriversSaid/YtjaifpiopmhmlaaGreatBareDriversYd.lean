/-
  Functions of the program: models, and that its calls come to them (by a program: gen3.py).
-/
import Derived.Test.YtjaifpiopmhmlaaGreatBareDriversBase
import Derived.Test.YtjaifpiopmhmlaaGreatBareDriversHand
import Derived.Test.YtjaifpiopmhmlaaGreatBareDriversYc
import Derived.Test.YtjaifpiopmhmlaaGreatBareDriversYb
import Derived.Test.YtjaifpiopmhmlaaGreatBareDriversYa
set_option maxRecDepth 100000
set_option linter.unusedVariables false
set_option linter.unusedSimpArgs false
namespace Go.Proofs.YtjaifpiopmhmlaaGreat
open Go Go.GD Go.IntKind
noncomputable section
def Q2m(m:Q00):Tree Bool:=
.an (Q5u m) (.lv (Q16 m) λ(x0:Bool)=> .br x0 (.br (!m.A4) (.an (Q47 m) (.lv (Q2w m) λ(x1:Bool)=> .br (!x1) (.lf (decide (m.A0<1152921504606846976))) (.lf false))) (.lf false)) (.lf false))
def Q25(m:Q00):Bool:=(Q2m m).m
abbrev Q72(m:Q00):Prop:=(Q2m m).p
def Qw9:Q0e:=mkP 105 [] true [.agg Q00.sig] [] (λargs rows=>Q72 (Q00.of (args.getD 0 .dead).cells)) (λargs rows=>Q25 (Q00.of (args.getD 0 .dead).cells)) (λX=> .bool X) (λX=>[])
theorem Qj1:Q08 Tryz.prog Qw9:=Q0x Q0r Q0s (.cons Qg0 (.cons Qjg (.nil))) Tryz.func105 Tryz.call105 (λargs rows=>Q2m (Q00.of (args.getD 0 .dead).cells)) [] [] 2 (λ_ _ _=>by kernel_rfl) (λ_ _=>rfl) (λ_ _ h=>h) (λ_ X=>by kernel_rfl)
def Q9e(m:Q00)(z:(Int)):Nat:=(5-z).toNat
def Q1w(m:Q00):Tree Q00:=
let E1:=({B1:=m.B1,Mem:=m.Mem,A2:=m.A2,A7:=m.A7,A6:=m.A6,C5:=m.C5,A1:=m.A1,A0:=m.A0,A3:=false,A4:=m.A4}:Q00); .br (iand u32 m.B1.B4.a0 (2:Int)==(0:Int)) (.lf (E1)) (.an (Q6e E1) (.lv (Q5 E1) λ(x0:Int)=> .lp inferInstance (Q9e m 0+1) (((rE (0:Nat)∧rE (0:Nat))∧(rE (0:Nat)∧rE (0:Nat))∧rE (x0:Int)∧rE (0:Int)∧True)∧(rE m.B1.X.a0∧rE m.B1.X.a1∧rE m.B1.X.a2∧rE m.B1.X.a3∧rE m.B1.X.a4∧rE m.B1.X.a5∧rE m.B1.X.a6∧rE m.B1.X.a7∧rE m.B1.X.a8∧rE m.B1.X.a9∧rE m.B1.X.a10∧rE m.B1.X.a11∧rE m.B1.X.a12∧rE m.B1.X.a13∧rE m.B1.X.a14∧rE m.B1.X.a15∧rE m.B1.Pc∧rE m.B1.B4.a0∧rE m.B1.B4.a1∧rE m.B1.B4.a2∧rE m.B1.B4.a3∧rE m.B1.B4.a4∧rE m.B1.B4.a5∧rE m.B1.B4.a6∧rE m.B1.B4.a7∧((Els.Nil (Els.ints u32 m.Mem)∨rE (1:Nat))∧rE m.Mem)∧rE m.A2.C9∧rE m.A7.D5∧rE m.A7.C7∧rE m.A7.D4∧rE m.A6.Blocks∧rE m.A6.B3∧rE m.A6.B0∧rE m.A6.B8∧rE m.A6.D6∧rE m.A6.B5∧rE m.A6.A9∧rE m.A6.C1∧rE m.C5.B0∧rE m.C5.D9∧rE m.C5.C4∧rE m.C5.B9∧rE m.C5.B7∧rE m.C5.F0∧rE m.A1.C6∧rE m.A1.C0∧rE m.A0∧rE (false:Bool)∧rE m.A4∧True)∧(mE zM True True)∧True) 0 λ(v0:Int)=> .br (decide (v0<5)) (.cn (decide (0≤v0)) (.br (iand u32 x0 (ishl u32 1 v0) !=0) (.lv (Q3w m.B1 (wrap i64 (16+v0)) 0) λ(x1:Q02)=> .lf (Sum.inr {B1:=x1,Mem:=m.Mem,A2:=m.A2,A7:=m.A7,A6:=m.A6,C5:=m.C5,A1:=m.A1,A0:=m.A0,A3:=false,A4:=m.A4})) (.nx (((rE (0:Nat)∧rE (0:Nat))∧(rE (0:Nat)∧rE (0:Nat))∧rE (x0:Int)∧rE ((wrap i64 (v0+1)):Int)∧True)∧(rE m.B1.X.a0∧rE m.B1.X.a1∧rE m.B1.X.a2∧rE m.B1.X.a3∧rE m.B1.X.a4∧rE m.B1.X.a5∧rE m.B1.X.a6∧rE m.B1.X.a7∧rE m.B1.X.a8∧rE m.B1.X.a9∧rE m.B1.X.a10∧rE m.B1.X.a11∧rE m.B1.X.a12∧rE m.B1.X.a13∧rE m.B1.X.a14∧rE m.B1.X.a15∧rE m.B1.Pc∧rE m.B1.B4.a0∧rE m.B1.B4.a1∧rE m.B1.B4.a2∧rE m.B1.B4.a3∧rE m.B1.B4.a4∧rE m.B1.B4.a5∧rE m.B1.B4.a6∧rE m.B1.B4.a7∧((Els.Nil (Els.ints u32 m.Mem)∨rE (1:Nat))∧rE m.Mem)∧rE m.A2.C9∧rE m.A7.D5∧rE m.A7.C7∧rE m.A7.D4∧rE m.A6.Blocks∧rE m.A6.B3∧rE m.A6.B0∧rE m.A6.B8∧rE m.A6.D6∧rE m.A6.B5∧rE m.A6.A9∧rE m.A6.C1∧rE m.C5.B0∧rE m.C5.D9∧rE m.C5.C4∧rE m.C5.B9∧rE m.C5.B7∧rE m.C5.F0∧rE m.A1.C6∧rE m.A1.C0∧rE m.A0∧rE (false:Bool)∧rE m.A4∧True)∧(mE zM True True)∧True) (Sum.inl (wrap i64 (v0+1)))))) (.lf (Sum.inr E1))))
def Q0h(m:Q00):Q00:=(Q1w m).m
abbrev Q5y(m:Q00):Prop:=(Q1w m).p
def Qr6:LInv:={
 α:=(Int)
 F:=λst a=>([(1, .ptr 0 0 0),(2, .ptr 1 0 0),(3,(lk st 3)),(15, .int i64 a)],[⟨true,41,49, .gen [[(cT st 1 0),(cT st 1 1),(cT st 1 2),(cT st 1 3),(cT st 1 4),(cT st 1 5),(cT st 1 6),(cT st 1 7),(cT st 1 8),(cT st 1 9),(cT st 1 10),(cT st 1 11),(cT st 1 12),(cT st 1 13),(cT st 1 14),(cT st 1 15),(cT st 1 16),(cT st 1 17),(cT st 1 18),(cT st 1 19),(cT st 1 20),(cT st 1 21),(cT st 1 22),(cT st 1 23),(cT st 1 24),(cT st 1 25),(cT st 1 26),(cT st 1 27),(cT st 1 28),(cT st 1 29),(cT st 1 30),(cT st 1 31),(cT st 1 32),(cT st 1 33),(cT st 1 34),(cT st 1 35),(cT st 1 36),(cT st 1 37),(cT st 1 38),(cT st 1 39),(cT st 1 40),(cT st 1 41),(cT st 1 42),(cT st 1 43),(cT st 1 44),(cT st 1 45),(cT st 1 46),(cT st 1 47),(cT st 1 48)]]⟩,⟨true,41,49, .gen [[(cT st 2 0),(cT st 2 1),(cT st 2 2),(cT st 2 3),(cT st 2 4),(cT st 2 5),(cT st 2 6),(cT st 2 7),(cT st 2 8),(cT st 2 9),(cT st 2 10),(cT st 2 11),(cT st 2 12),(cT st 2 13),(cT st 2 14),(cT st 2 15),(cT st 2 16),(cT st 2 17),(cT st 2 18),(cT st 2 19),(cT st 2 20),(cT st 2 21),(cT st 2 22),(cT st 2 23),(cT st 2 24),(cT st 2 25),(cT st 2 26),(cT st 2 27),(cT st 2 28),(cT st 2 29),(cT st 2 30),(cT st 2 31),(cT st 2 32),(cT st 2 33),(cT st 2 34),(cT st 2 35),(cT st 2 36),(cT st 2 37),(cT st 2 38),(cT st 2 39),(cT st 2 40),(cT st 2 41),(cT st 2 42),(cT st 2 43),(cT st 2 44),(cT st 2 45),(cT st 2 46),(cT st 2 47),(cT st 2 48)]]⟩])
 a0:=λst=>(lk st 15).toInt
 ex0:=λst=>[]++[(Q1m (lk st 1) (st.rows.length+0)),(Q1m (lk st 2) (st.rows.length+1))]
 next:=λst=>(lk st 15).toInt
 ex:=λst=>[]++[(Q1m (lk st 1) (st.rows.length+0)),(Q1m (lk st 2) (st.rows.length+1))]}
def Qnp:List (Nat×LInv):=[(6,Qr6)]
def Qtk:Q0e:=Q0e.fz<|mkP 106 [] false [.agg Q00.sig] [] (λargs rows=>Q5y (Q00.of (args.getD 0 .dead).cells)) (λargs rows=>Q0h (Q00.of (args.getD 0 .dead).cells)) (λX=> .agg (Q00.cells X)) (λX=>[])
theorem Qic:Q08 Tryz.prog Qtk:=fz_ok<|Q0x Q0r Q0s (.cons Qfq (.cons Qep (.nil))) Tryz.func106 Tryz.call106 (λargs rows=>Q1w (Q00.of (args.getD 0 .dead).cells)) [.sl (.ints .u32) false] Qnp 3 (λ_ _ _=>by kernel_rfl) (λ_ _=>rfl) (λ_ _ h=>h) (λh=>by cases h)
def Q83(c:Q0b)(port:Int):Tree (Q0b×Int):=
.br (port==0) (.br (decide (c.C9=[])) (.lf (c,4294967295)) (.cn (decide ((0:Int)≤(0:Int)∧0<(c.C9.length:Int))) (.cn (decide ((0:Int)≤(1:Int)∧1≤(c.C9.length:Int)∧(c.C9.length:Int)≤(c.C9.length:Int))) (.lf ({C9:=List.take (Int.toNat (c.C9.length:Int)-Int.toNat 1) (List.drop (Int.toNat 1) c.C9)},wrap u32 (↑(UInt8.toNat (c.C9.getD (Int.toNat 0) (0:UInt8))):Int)))))) (.br (port==1) (.lf (c,wrap u32 (c.C9.length:Int))) (.lf (c,0)))
def Qkg(c:Q0b)(port:Int):(Q0b×Int):=(Q83 c port).m
theorem Qvd(c:Q0b)(port:Int):(Q83 c port).p:=by
 unfold Tree.p Q83
 repeat'(first|exact trivial|refine w_br (λ_=> ?_) (λ_=> ?_)|refine w_cn ?_ ?_|refine w_an ?_ ?_|refine w_lv (λ_ _=> ?_)|refine w_nx ?_|refine w_lf ?_|refine And.intro ?_ ?_)
 all_goals(((subst_vars;first|trivial|assumption|omega|((simp(config:={decide:=true,failIfUnchanged:=false}) only[Bool.and_eq_true,Bool.or_eq_true,Bool.and_eq_false_iff,Bool.or_eq_false_iff,Bool.not_eq_true',Bool.not_eq_false',Bool.not_eq_true,Bool.not_eq_false,decide_eq_true_eq,decide_eq_false_iff_not,Qh8,Qfg,Qhs,Qfv,beq_iff_eq,beq_eq_false_iff_ne,bne_iff_ne,bne_eq_false_iff_eq,ne_eq,List.all_cons,List.all_nil,D.plain,List.length_cons,List.length_nil,List.length_append,List.length_set,List.length_replicate,IntKind.wrap_i64,IntKind.wrap_u64,IntKind.wrap_u32,IntKind.wrap_i32,IntKind.wrap_u8,true_and,and_true,or_false,false_or,or_true,true_or,not_true_eq_false,not_false_eq_true,Prod.fst,Prod.snd]at*);first|done|assumption|omega)|((simp(config:={decide:=true,failIfUnchanged:=false}) only[Bool.and_eq_true,Bool.or_eq_true,Bool.and_eq_false_iff,Bool.or_eq_false_iff,Bool.not_eq_true',Bool.not_eq_false',Bool.not_eq_true,Bool.not_eq_false,decide_eq_true_eq,decide_eq_false_iff_not,Qh8,Qfg,Qhs,Qfv,beq_iff_eq,beq_eq_false_iff_ne,bne_iff_ne,bne_eq_false_iff_eq,ne_eq,List.all_cons,List.all_nil,D.plain,List.length_cons,List.length_nil,List.length_append,List.length_set,List.length_replicate,IntKind.wrap_i64,IntKind.wrap_u64,IntKind.wrap_u32,IntKind.wrap_i32,IntKind.wrap_u8,true_and,and_true,or_false,false_or,or_true,true_or,not_true_eq_false,not_false_eq_true,Prod.fst,Prod.snd]at*);simp only[←List.length_pos_iff]at*;omega)|(simp_all;done)|(have:= @Qcy;simp_all;try omega))))
def Z4v:Q0e:=mkR 170 [] true [.agg Q0b.sig, .one (.int .i64)] [] (λargs rows=>Qkg (Q0b.of (args.getD 0 .dead).cells) (argI args 1)) (λX=> .tup [.agg (Q0b.cells (X.1)), .int .u32 (X.2)]) (λX=>[])
theorem Qyp:Q08 Tryz.prog Z4v:=Q2j Q0r Q0s (.nil) Tryz.func170 Tryz.call170 (λargs rows=>Q83 (Q0b.of (args.getD 0 .dead).cells) (argI args 1)) [] [] 2 (λ_ _ _=>by kernel_rfl) (λ_ _=>rfl) (λargs rows=>Qvd (Q0b.of (args.getD 0 .dead).cells) (argI args 1)) (λ_ X=>by kernel_rfl)
def Qkj(t:Q0i):Tree Int:=
.br t.D4 (.lf 1) (.lf 0)
def Qrk(t:Q0i):Int:=(Qkj t).m
def Zao:Q0e:=mkR 171 [] true [.agg Q0i.sig] [] (λargs rows=>Qrk (Q0i.of (args.getD 0 .dead).cells)) (λX=> .int .u32 X) (λX=>[])
theorem Z5x:Q08 Tryz.prog Zao:=Q2j Q0r Q0s (.nil) Tryz.func171 Tryz.call171 (λargs rows=>Qkj (Q0i.of (args.getD 0 .dead).cells)) [] [] 2 (λ_ _ _=>by kernel_rfl) (λ_ _=>rfl) (λ_ _=>Tree.free_ok (by kernel_rfl)) (λ_ X=>by kernel_rfl)
def Qmx(d0:Q0a)(port:Int):Tree Int:=
.br (port==4) (.lf d0.B3) (.br (port==5) (.lf d0.B0) (.br (port==6) (.lf (wrap u32 d0.B8)) (.lf 0)))
def Qpf(d0:Q0a)(port:Int):Int:=(Qmx d0 port).m
def disk_In_m:Q0e:=mkR 172 [] true [.agg Q0a.sig, .one (.int .i64)] [] (λargs rows=>Qpf (Q0a.of (args.getD 0 .dead).cells) (argI args 1)) (λX=> .int .u32 X) (λX=>[])
theorem Z9m:Q08 Tryz.prog disk_In_m:=Q2j Q0r Q0s (.nil) Tryz.func172 Tryz.call172 (λargs rows=>Qmx (Q0a.of (args.getD 0 .dead).cells) (argI args 1)) [] [] 2 (λ_ _ _=>by kernel_rfl) (λ_ _=>rfl) (λ_ _=>Tree.free_ok (by kernel_rfl)) (λ_ X=>by kernel_rfl)
def Qmi(n:Q0n)(port:Int):Tree Int:=
.br (port==7) (.lf n.B0) (.br (port==8) (.lf n.F0) (.br (port==9) (.br n.C4 (.br n.B7 (.lf (wrap u32 (wrap u32 ((0:Int)+(1:Int))+2))) (.lf (wrap u32 ((0:Int)+(1:Int))))) (.br n.B7 (.lf (wrap u32 ((0:Int)+(2:Int)))) (.lf 0))) (.lf 0)))
def Qtv(n:Q0n)(port:Int):Int:=(Qmi n port).m
def nic_In_m:Q0e:=mkR 173 [] true [.agg Q0n.sig, .one (.int .i64)] [] (λargs rows=>Qtv (Q0n.of (args.getD 0 .dead).cells) (argI args 1)) (λX=> .int .u32 X) (λX=>[])
theorem nic_In_ok:Q08 Tryz.prog nic_In_m:=Q2j Q0r Q0s (.nil) Tryz.func173 Tryz.call173 (λargs rows=>Qmi (Q0n.of (args.getD 0 .dead).cells) (argI args 1)) [] [] 2 (λ_ _ _=>by kernel_rfl) (λ_ _=>rfl) (λ_ _=>Tree.free_ok (by kernel_rfl)) (λ_ X=>by kernel_rfl)
def Q6b(b:Q07)(port:Int):Tree Int:=
.br (port==10) (.lf b.C6) (.br (port==11) (.an (Q8h b) (.lv (Qa6 b) λ(x0:Int)=> .lf (wrap u32 x0))) (.lf 0))
def Qjx(b:Q07)(port:Int):Int:=(Q6b b port).m
abbrev Qg4(b:Q07)(port:Int):Prop:=(Q6b b port).p
def Z1k:Q0e:=mkP 174 [] true [.agg Q07.sig, .one (.int .i64)] [] (λargs rows=>Qg4 (Q07.of (args.getD 0 .dead).cells) (argI args 1)) (λargs rows=>Qjx (Q07.of (args.getD 0 .dead).cells) (argI args 1)) (λX=> .int .u32 X) (λX=>[])
theorem Z0t:Q08 Tryz.prog Z1k:=Q0x Q0r Q0s (.cons Qi2 (.nil)) Tryz.func174 Tryz.call174 (λargs rows=>Q6b (Q07.of (args.getD 0 .dead).cells) (argI args 1)) [] [] 2 (λ_ _ _=>by kernel_rfl) (λ_ _=>rfl) (λ_ _ h=>h) (λ_ X=>by kernel_rfl)
def Q20(m:Q00)(port:Int)(clock:Int):Tree (Q00×Int):=
let T1:Tree ((Q00×Int)):= .lv (Qkg m.A2 port) λ(x0:Q0b×Int)=> .lf ({B1:=m.B1,Mem:=m.Mem,A2:=x0.1,A7:=m.A7,A6:=m.A6,C5:=m.C5,A1:=m.A1,A0:=m.A0,A3:=m.A3,A4:=m.A4},x0.2); .br (port==0) T1 (.br (port==1) T1 (.br (port==2) (.lf (m,clock)) (.br (port==3) (.lv (Qrk m.A7) λ(x2:Int)=> .lf (m,x2)) (.br (port==4) (.lv (Qpf m.A6 port) λ(x3:Int)=> .lf (m,x3)) (.br (port==5) (.lv (Qpf m.A6 port) λ(x4:Int)=> .lf (m,x4)) (.br (port==6) (.lv (Qpf m.A6 port) λ(x5:Int)=> .lf (m,x5)) (.br (port==7) (.lv (Qtv m.C5 port) λ(x6:Int)=> .lf (m,x6)) (.br (port==8) (.lv (Qtv m.C5 port) λ(x7:Int)=> .lf (m,x7)) (.br (port==9) (.lv (Qtv m.C5 port) λ(x8:Int)=> .lf (m,x8)) (let T2:Tree ((Q00×Int)):= .an (Qg4 m.A1 port) (.lv (Qjx m.A1 port) λ(x9:Int)=> .lf (m,x9)); .br (port==10) T2 (.br (port==11) T2 (.lf (m,0)))))))))))))
def Q0t(m:Q00)(port:Int)(clock:Int):(Q00×Int):=(Q20 m port clock).m
abbrev Q8t(m:Q00)(port:Int)(clock:Int):Prop:=(Q20 m port clock).p
def Qnl:Q0e:=Q0e.fz<|mkP 125 [] false [.agg Q00.sig, .one (.int .i64), .one (.int .u32)] [] (λargs rows=>Q8t (Q00.of (args.getD 0 .dead).cells) (argI args 1) (argI args 2)) (λargs rows=>Q0t (Q00.of (args.getD 0 .dead).cells) (argI args 1) (argI args 2)) (λX=> .tup [.agg (Q00.cells (X.1)), .int .u32 (X.2)]) (λX=>[])
theorem Qlh:Q08 Tryz.prog Qnl:=fz_ok<|Q0x Q0r Q0s (.cons Qyp (.cons Z5x (.cons Z9m (.cons nic_In_ok (.cons Z0t (.nil)))))) Tryz.func125 Tryz.call125 (λargs rows=>Q20 (Q00.of (args.getD 0 .dead).cells) (argI args 1) (argI args 2)) [.sl (.ints .u32) false] [] 2 (λ_ _ _=>by kernel_rfl) (λ_ _=>rfl) (λ_ _ h=>h) (λh=>by cases h)
def Qhk(t:Q0i)(deadline:Int):Tree Q0i:=
.lf ({D5:=deadline !=0,C7:=deadline,D4:=false})
def Qgt(t:Q0i)(deadline:Int):Q0i:=(Qhk t deadline).m
def Z5d:Q0e:=mkR 175 [] true [.agg Q0i.sig, .one (.int .u32)] [] (λargs rows=>Qgt (Q0i.of (args.getD 0 .dead).cells) (argI args 1)) (λX=> .agg (Q0i.cells X)) (λX=>[])
theorem Z4q:Q08 Tryz.prog Z5d:=Q2j Q0r Q0s (.nil) Tryz.func175 Tryz.call175 (λargs rows=>Qhk (Q0i.of (args.getD 0 .dead).cells) (argI args 1)) [] [] 2 (λ_ _ _=>by kernel_rfl) (λ_ _=>rfl) (λ_ _=>Tree.free_ok (by kernel_rfl)) (λ_ X=>by kernel_rfl)
def Qa9(m:(List Int))(frame:Int):Tree Bool:=
.lv (Q0q m) λ(x0:Int)=> .lf (decide (wrap u64 frame<wrap u64 x0))
def Q7r(m:(List Int))(frame:Int):Bool:=(Qa9 m frame).m
def Qz2:Q0e:=mkR 166 [] true [.one (.ints .u32), .one (.int .u32)] [] (λargs rows=>Q7r (argL .u32 args 0) (argI args 1)) (λX=> .bool X) (λX=>[])
theorem Ql7:Q08 Tryz.prog Qz2:=Q2j Q0r Q0s (.cons Q3u (.nil)) Tryz.func166 Tryz.call166 (λargs rows=>Qa9 (argL .u32 args 0) (argI args 1)) [] [] 2 (λ_ _ _=>by kernel_rfl) (λ_ _=>rfl) (λ_ _=>Tree.free_ok (by kernel_rfl)) (λ_ X=>by kernel_rfl)
def Q75(m:(List Int))(frame:Int):Tree Bool:=
.br (decide (frame≥0)) (.lv (Q0q m) λ(x0:Int)=> .lf (decide (frame<x0))) (.lf false)
def Q4j(m:(List Int))(frame:Int):Bool:=(Q75 m frame).m
def Qr9:Q0e:=mkR 228 [] true [.one (.ints .u32), .one (.int .i64)] [] (λargs rows=>Q4j (argL .u32 args 0) (argI args 1)) (λX=> .bool X) (λX=>[])
theorem Qgo:Q08 Tryz.prog Qr9:=Q2j Q0r Q0s (.cons Q3u (.nil)) Tryz.func228 Tryz.call228 (λargs rows=>Q75 (argL .u32 args 0) (argI args 1)) [] [] 2 (λ_ _ _=>by kernel_rfl) (λ_ _=>rfl) (λ_ _=>Tree.free_ok (by kernel_rfl)) (λ_ X=>by kernel_rfl)
def Qii(words:(List Int))(z:(Int)×(List Int)):Prop:=0≤z.1∧z.1≤words.length∧(z.2.length:Int)=4*z.1
def Q63(words:(List Int))(z:(Int)×(List Int)):Nat:=(words.length-z.1).toNat
def Q4b(words:(List Int)):Tree (List UInt8):=
.cn (Nat.blt 0 1&&Nat.beq 1 1&&List.all [D.int u8 0] D.plain&&decide ((0:Int)≤(0:Int)∧0≤wrap i64 (4*(words.length:Int))∧wrap i64 (4*(words.length:Int))≤9223372036854775807∧(↑1:Int)*wrap i64 (4*(words.length:Int))≤140737488355328)) (.lp inferInstance (Q63 words (0,[])+1) ((True∧((Els.Nil (Els.ints u32 words)∨rE (1:Nat))∧rE (words:List Int))∧rE ((words.length:Int):Int)∧rE (0:Int)∧True)∧rE ([]:List Int)∧True) (0,[]) λ(v0:Int×List Int)=> .br (decide (v0.1<(words.length:Int))) (.cn (Nat.beq 1 1&&Nat.blt 0 1&&decide (0≤v0.1∧v0.1<(words.length:Int))) (.cn (decide (1*(v0.2.length+4)≤140737488355328)) (let E1:=words.getD v0.1.toNat 0; .nx ((True∧((Els.Nil (Els.ints u32 words)∨rE (1:Nat))∧rE (words:List Int))∧rE ((words.length:Int):Int)∧rE ((wrap i64 (v0.1+1)):Int)∧True)∧rE ((v0.2++[wrap u8 (words.getD v0.1.toNat 0),wrap u8 (ishr u32 (words.getD v0.1.toNat 0) 8),wrap u8 (ishr u32 (words.getD v0.1.toNat 0) 16),wrap u8 (ishr u32 (words.getD v0.1.toNat 0) 24)]):List Int)∧True) (Sum.inl (wrap i64 (v0.1+1),v0.2++[wrap u8 E1,wrap u8 (ishr u32 E1 8),wrap u8 (ishr u32 E1 16),wrap u8 (ishr u32 E1 24)]))))) (.lf (Sum.inr (bytesOf v0.2))))
def Qsf(words:(List Int)):(List UInt8):=(Q4b words).m
def Q4s(words:(List Int)):Prop:=
words.length≤1000000000000
theorem Qtf(words:(List Int))(hw:Q4s words):(Q4b words).p:=by
 simp only[Q4s]at hw
 unfold Tree.p Q4b
 repeat'(first|refine w_lp (inv:=Qii words) (μ:=Q63 words) ?_ (Nat.lt_succ_self _) (λ_ _=> ?_)|exact trivial|refine w_br (λ_=> ?_) (λ_=> ?_)|refine w_cn ?_ ?_|refine w_an ?_ ?_|refine w_lv (λ_ _=> ?_)|refine w_nx ?_|refine w_lf ?_|refine And.intro ?_ ?_)
 all_goals((try simp only[Qii,Q63]at*);((subst_vars;first|trivial|assumption|omega|((simp(config:={decide:=true,failIfUnchanged:=false}) only[Bool.and_eq_true,Bool.or_eq_true,Bool.and_eq_false_iff,Bool.or_eq_false_iff,Bool.not_eq_true',Bool.not_eq_false',Bool.not_eq_true,Bool.not_eq_false,decide_eq_true_eq,decide_eq_false_iff_not,Qh8,Qfg,Qhs,Qfv,beq_iff_eq,beq_eq_false_iff_ne,bne_iff_ne,bne_eq_false_iff_eq,ne_eq,List.all_cons,List.all_nil,D.plain,List.length_cons,List.length_nil,List.length_append,List.length_set,List.length_replicate,IntKind.wrap_i64,IntKind.wrap_u64,IntKind.wrap_u32,IntKind.wrap_i32,IntKind.wrap_u8,true_and,and_true,or_false,false_or,or_true,true_or,not_true_eq_false,not_false_eq_true,Prod.fst,Prod.snd]at*);first|done|assumption|omega)|((simp(config:={decide:=true,failIfUnchanged:=false}) only[Bool.and_eq_true,Bool.or_eq_true,Bool.and_eq_false_iff,Bool.or_eq_false_iff,Bool.not_eq_true',Bool.not_eq_false',Bool.not_eq_true,Bool.not_eq_false,decide_eq_true_eq,decide_eq_false_iff_not,Qh8,Qfg,Qhs,Qfv,beq_iff_eq,beq_eq_false_iff_ne,bne_iff_ne,bne_eq_false_iff_eq,ne_eq,List.all_cons,List.all_nil,D.plain,List.length_cons,List.length_nil,List.length_append,List.length_set,List.length_replicate,IntKind.wrap_i64,IntKind.wrap_u64,IntKind.wrap_u32,IntKind.wrap_i32,IntKind.wrap_u8,true_and,and_true,or_false,false_or,or_true,true_or,not_true_eq_false,not_false_eq_true,Prod.fst,Prod.snd]at*);simp only[←List.length_pos_iff]at*;omega)|(simp_all;done)|(have:= @Qcy;simp_all;try omega))))
def Qwi:LInv:={
 α:=(Int)×(List Int)
 F:=λst a=>([(3, .all 0),(10,(lk st 10)),(11,(lk st 11)),(12, .int i64 a.1)],[⟨false,5,1, .ints u8 a.2⟩])
 a0:=λst=>((lk st 12).toInt,(Qi8 st.rows (rN st 3)))
 ex0:=λst=>[]++[(Q1m (lk st 3) (st.rows.length+0))]
 next:=λst=>((lk st 12).toInt,(Qi8 st.rows (rN st 3)))
 ex:=λst=>[]++[(Q1m (lk st 3) (st.rows.length+0))]}
def Qqy:List (Nat×LInv):=[(3,Qwi)]
def Z0a:Q0e:=mkP 229 [] true [.one (.ints .u32)] [] (λargs rows=>Q4s (argL .u32 args 0)) (λargs rows=>Qsf (argL .u32 args 0)) (λX=> .str X) (λX=>[])
theorem Qvu:Q08 Tryz.prog Z0a:=Q0x Q0r Q0s (.nil) Tryz.func229 Tryz.call229 (λargs rows=>Q4b (argL .u32 args 0)) [] Qqy 3 (λ_ _ _=>by kernel_rfl) (λ_ _=>rfl) (λargs rows h=>Qtf (argL .u32 args 0) h) (λ_ X=>by kernel_rfl)
def Q3f(m:(List Int))(frame:Int):Tree ((List UInt8)×Bool):=
.lv (Q4j m frame) λ(x0:Bool)=> .br (!x0) (.lf ([],false)) (.cn (Nat.beq 1 1&&Nat.blt 0 1&&decide (0≤wrap i64 (frame*32)∧wrap i64 (frame*32)≤wrap i64 (wrap i64 (frame*32)+32)∧wrap i64 (wrap i64 (frame*32)+32)≤(m.length:Int))) (let E1:=List.take (Int.toNat (wrap i64 (wrap i64 (frame*32)+32))-Int.toNat (wrap i64 (frame*32))) (List.drop (Int.toNat (wrap i64 (frame*32))) m); .an (Q4s E1) (.lv (Qsf E1) λ(x1:List UInt8)=> .lf (x1,true))))
def Q4u(m:(List Int))(frame:Int):((List UInt8)×Bool):=(Q3f m frame).m
abbrev Q80(m:(List Int))(frame:Int):Prop:=(Q3f m frame).p
def Z12:Q0e:=mkP 169 [] true [.one (.ints .u32), .one (.int .i64)] [] (λargs rows=>Q80 (argL .u32 args 0) (argI args 1)) (λargs rows=>Q4u (argL .u32 args 0) (argI args 1)) (λX=> .tup [.str (X.1), .bool (X.2)]) (λX=>[])
theorem Qg1:Q08 Tryz.prog Z12:=Q0x Q0r Q0s (.cons Qgo (.cons Qvu (.nil))) Tryz.func169 Tryz.call169 (λargs rows=>Q3f (argL .u32 args 0) (argI args 1)) [] [] 2 (λ_ _ _=>by kernel_rfl) (λ_ _=>rfl) (λ_ _ h=>h) (λ_ X=>by kernel_rfl)
def Qlb(d0:Q0a)(at0:Int):Tree (Q06×Bool):=
.br (d0.B8 !=1) (.lf ({B2:=0,At:=0,B3:=0,C3:=[]},false)) (.br (d0.D6==1) (.lf ({B2:=3,At:=at0,B3:=d0.B5,C3:=[]},true)) (.br (d0.D6==2) (.lf ({B2:=4,At:=at0,B3:=d0.B5,C3:=d0.C1},true)) (.lf ({B2:=0,At:=0,B3:=0,C3:=[]},false))))
def Qfl(d0:Q0a)(at0:Int):(Q06×Bool):=(Qlb d0 at0).m
def Qvg:Q0e:=mkR 263 [] true [.agg Q0a.sig, .one (.int .u64)] [] (λargs rows=>Qfl (Q0a.of (args.getD 0 .dead).cells) (argI args 1)) (λX=> .tup [.agg (Q06.cells (X.1)), .bool (X.2)]) (λX=>[])
theorem Qt:Q08 Tryz.prog Qvg:=Q2j Q0r Q0s (.nil) Tryz.func263 Tryz.call263 (λargs rows=>Qlb (Q0a.of (args.getD 0 .dead).cells) (argI args 1)) [] [] 2 (λ_ _ _=>by kernel_rfl) (λ_ _=>rfl) (λ_ _=>Tree.free_ok (by kernel_rfl)) (λ_ X=>by kernel_rfl)
def Q67(d0:Q0a)(m:(List Int))(cmd:Int)(at0:Int):Tree (Q0a×(List Q06)):=
.br (d0.B8 !=0) (.lf (d0,[])) (let T1:Tree ((Q0a×(List Q06))):= .lf ({Blocks:=d0.Blocks,B3:=d0.B3,B0:=d0.B0,B8:=3,D6:=d0.D6,B5:=d0.B5,A9:=d0.A9,C1:=d0.C1},[]); .br (decide (d0.B3≥d0.Blocks)) T1 (.lv (Q7r m d0.B0) λ(x0:Bool)=> .br (!x0) T1 (.br (cmd==2) (.an (Q80 m (wrap i64 d0.B0)) (.lv (Q4u m (wrap i64 d0.B0)) λ(x1:List UInt8×Bool)=>let E2:=({Blocks:=d0.Blocks,B3:=d0.B3,B0:=d0.B0,B8:=1,D6:=cmd,B5:=d0.B3,A9:=d0.B0,C1:=x1.1}:Q0a); .lv (Qfl E2 at0) λ(x2:Q06×Bool)=> .lf (E2,[x2.1]))) (let E3:=({Blocks:=d0.Blocks,B3:=d0.B3,B0:=d0.B0,B8:=1,D6:=cmd,B5:=d0.B3,A9:=d0.B0,C1:=[]}:Q0a); .lv (Qfl E3 at0) λ(x3:Q06×Bool)=> .lf (E3,[x3.1])))))
def Qpd(d0:Q0a)(m:(List Int))(cmd:Int)(at0:Int):(Q0a×(List Q06)):=(Q67 d0 m cmd at0).m
abbrev Qg9(d0:Q0a)(m:(List Int))(cmd:Int)(at0:Int):Prop:=(Q67 d0 m cmd at0).p
def Z2e:Q0e:=mkP 230 [] true [.agg Q0a.sig, .one (.ints .u32), .one (.int .i64), .one (.int .u64)] [] (λargs rows=>Qg9 (Q0a.of (args.getD 0 .dead).cells) (argL .u32 args 1) (argI args 2) (argI args 3)) (λargs rows=>Qpd (Q0a.of (args.getD 0 .dead).cells) (argL .u32 args 1) (argI args 2) (argI args 3)) (λX=> .tup [.agg (Q0a.cells (X.1)), .sl 4 (.recs .apiOutput (X.2)) true]) (λX=>[])
theorem Qz:Q08 Tryz.prog Z2e:=Q0x Q0r Q0s (.cons Ql7 (.cons Qg1 (.cons Qt (.nil)))) Tryz.func230 Tryz.call230 (λargs rows=>Q67 (Q0a.of (args.getD 0 .dead).cells) (argL .u32 args 1) (argI args 2) (argI args 3)) [.sl (.recs .apiOutput) true] [] 2 (λ_ _ _=>by kernel_rfl) (λ_ _=>rfl) (λ_ _ h=>h) (λ_ X=>by kernel_rfl)
def Q9m(d0:Q0a)(m:(List Int))(port:Int)(v:Int)(at0:Int):Tree (Q0a×(List Q06)):=
.br (port==4) (.lf ({Blocks:=d0.Blocks,B3:=v,B0:=d0.B0,B8:=d0.B8,D6:=d0.D6,B5:=d0.B5,A9:=d0.A9,C1:=d0.C1},[])) (.br (port==5) (.lf ({Blocks:=d0.Blocks,B3:=d0.B3,B0:=v,B8:=d0.B8,D6:=d0.D6,B5:=d0.B5,A9:=d0.A9,C1:=d0.C1},[])) (.br (port==6) (let T1:Tree ((Q0a×(List Q06))):= .an (Qg9 d0 m (wrap i64 v) at0) (.lv (Qpd d0 m (wrap i64 v) at0) λ(x0:Q0a×List Q06)=> .lf (x0.1,x0.2)); .br (v==1) T1 (.br (v==2) T1 (.br (v==0) (.lv (Q8 d0) λ(x2:Bool)=> .br x2 (.lf ({Blocks:=d0.Blocks,B3:=d0.B3,B0:=d0.B0,B8:=0,D6:=d0.D6,B5:=d0.B5,A9:=d0.A9,C1:=d0.C1},[])) (.lf (d0,[]))) (.lf (d0,[]))))) (.lf (d0,[]))))
def Qrv(d0:Q0a)(m:(List Int))(port:Int)(v:Int)(at0:Int):(Q0a×(List Q06)):=(Q9m d0 m port v at0).m
abbrev Qio(d0:Q0a)(m:(List Int))(port:Int)(v:Int)(at0:Int):Prop:=(Q9m d0 m port v at0).p
def Zb6:Q0e:=mkP 176 [] true [.agg Q0a.sig, .one (.ints .u32), .one (.int .i64), .one (.int .u32), .one (.int .u64)] [] (λargs rows=>Qio (Q0a.of (args.getD 0 .dead).cells) (argL .u32 args 1) (argI args 2) (argI args 3) (argI args 4)) (λargs rows=>Qrv (Q0a.of (args.getD 0 .dead).cells) (argL .u32 args 1) (argI args 2) (argI args 3) (argI args 4)) (λX=> .tup [.agg (Q0a.cells (X.1)), .sl 4 (.recs .apiOutput (X.2)) true]) (λX=>[])
theorem Z5u:Q08 Tryz.prog Zb6:=Q0x Q0r Q0s (.cons Qz (.cons Qiy (.nil))) Tryz.func176 Tryz.call176 (λargs rows=>Q9m (Q0a.of (args.getD 0 .dead).cells) (argL .u32 args 1) (argI args 2) (argI args 3) (argI args 4)) [.sl (.recs .apiOutput) true] [] 2 (λ_ _ _=>by kernel_rfl) (λ_ _=>rfl) (λ_ _ h=>h) (λ_ X=>by kernel_rfl)
def Qc5(m:(List Int))(frame:Int):Tree Bool:=
.lv (Q0q m) λ(x0:Int)=> .lf (decide (wrap u64 frame<wrap u64 x0))
def Q89(m:(List Int))(frame:Int):Bool:=(Qc5 m frame).m
def Z4c:Q0e:=mkR 168 [] true [.one (.ints .u32), .one (.int .u32)] [] (λargs rows=>Q89 (argL .u32 args 0) (argI args 1)) (λX=> .bool X) (λX=>[])
theorem Qhf:Q08 Tryz.prog Z4c:=Q2j Q0r Q0s (.cons Q3u (.nil)) Tryz.func168 Tryz.call168 (λargs rows=>Qc5 (argL .u32 args 0) (argI args 1)) [] [] 2 (λ_ _ _=>by kernel_rfl) (λ_ _=>rfl) (λ_ _=>Tree.free_ok (by kernel_rfl)) (λ_ X=>by kernel_rfl)
def Q9n(n:Q0n)(m:(List Int))(at0:Int):Tree (List Q06):=
.br (decide (n.D9<1)) (.lf ([])) (.br (decide (n.D9>128)) (.lf ([])) (.lv (Q89 m n.B0) λ(x0:Bool)=> .br (!x0) (.lf ([])) (.an (Q80 m (wrap i64 n.B0)) (.lv (Q4u m (wrap i64 n.B0)) λ(x1:List UInt8×Bool)=> .cn (decide ((0:Int)≤(0:Int)∧0≤n.D9∧n.D9≤(x1.1.length:Int))) (.lf ([{B2:=2,At:=at0,B3:=0,C3:=List.take (Int.toNat n.D9-Int.toNat 0) (List.drop (Int.toNat 0) x1.1)}]))))))
def Qzk(n:Q0n)(m:(List Int))(at0:Int):(List Q06):=(Q9n n m at0).m
abbrev Qju(n:Q0n)(m:(List Int))(at0:Int):Prop:=(Q9n n m at0).p
def Z9u:Q0e:=mkP 231 [] true [.agg Q0n.sig, .one (.ints .u32), .one (.int .u64)] [] (λargs rows=>Qju (Q0n.of (args.getD 0 .dead).cells) (argL .u32 args 1) (argI args 2)) (λargs rows=>Qzk (Q0n.of (args.getD 0 .dead).cells) (argL .u32 args 1) (argI args 2)) (λX=> .sl 4 (.recs .apiOutput X) true) (λX=>[])
theorem Z5b:Q08 Tryz.prog Z9u:=Q0x Q0r Q0s (.cons Qhf (.cons Qg1 (.nil))) Tryz.func231 Tryz.call231 (λargs rows=>Q9n (Q0n.of (args.getD 0 .dead).cells) (argL .u32 args 1) (argI args 2)) [.sl (.recs .apiOutput) true] [] 2 (λ_ _ _=>by kernel_rfl) (λ_ _=>rfl) (λ_ _ h=>h) (λ_ X=>by kernel_rfl)
def Qcc(n:Q0n)(m:(List Int))(port:Int)(v:Int)(at0:Int):Tree (Q0n×(List Q06)):=
.br (port==7) (.lf ({B0:=v,D9:=n.D9,C4:=n.C4,B9:=n.B9,B7:=n.B7,F0:=n.F0},[])) (.br (port==8) (.lf ({B0:=n.B0,D9:=v,C4:=n.C4,B9:=n.B9,B7:=n.B7,F0:=n.F0},[])) (.br (port==9) (.br (v==1) (.an (Qju n m at0) (.lv (Qzk n m at0) λ(x0:List Q06)=> .lf (n,x0))) (.br (v==2) (.lv (Q89 m n.B0) λ(x1:Bool)=> .br x1 (.br (!n.C4) (.br (!n.B7) (.lf ({B0:=n.B0,D9:=n.D9,C4:=true,B9:=n.B0,B7:=n.B7,F0:=n.F0},[])) (.lf (n,[]))) (.lf (n,[]))) (.lf (n,[]))) (.br (v==0) (.lf ({B0:=n.B0,D9:=n.D9,C4:=n.C4,B9:=n.B9,B7:=false,F0:=0},[])) (.lf (n,[]))))) (.lf (n,[]))))
def Z16(n:Q0n)(m:(List Int))(port:Int)(v:Int)(at0:Int):(Q0n×(List Q06)):=(Qcc n m port v at0).m
abbrev Qly(n:Q0n)(m:(List Int))(port:Int)(v:Int)(at0:Int):Prop:=(Qcc n m port v at0).p
def nic_Out_m:Q0e:=mkP 177 [] true [.agg Q0n.sig, .one (.ints .u32), .one (.int .i64), .one (.int .u32), .one (.int .u64)] [] (λargs rows=>Qly (Q0n.of (args.getD 0 .dead).cells) (argL .u32 args 1) (argI args 2) (argI args 3) (argI args 4)) (λargs rows=>Z16 (Q0n.of (args.getD 0 .dead).cells) (argL .u32 args 1) (argI args 2) (argI args 3) (argI args 4)) (λX=> .tup [.agg (Q0n.cells (X.1)), .sl 4 (.recs .apiOutput (X.2)) true]) (λX=>[])
theorem Z9t:Q08 Tryz.prog nic_Out_m:=Q0x Q0r Q0s (.cons Z5b (.cons Qhf (.nil))) Tryz.func177 Tryz.call177 (λargs rows=>Qcc (Q0n.of (args.getD 0 .dead).cells) (argL .u32 args 1) (argI args 2) (argI args 3) (argI args 4)) [.sl (.recs .apiOutput) true] [] 2 (λ_ _ _=>by kernel_rfl) (λ_ _=>rfl) (λ_ _ h=>h) (λ_ X=>by kernel_rfl)
def Q8s(m:(List Int))(frame:Int)(s:(List UInt8))(z:(Int)×(List Int)):Nat:=(32-z.1).toNat
def Q2a(m:(List Int))(frame:Int)(s:(List UInt8)):Tree ((List Int)×Bool):=
.an (Q03 m) (.lv (Q01 m) λ(x0:List Int)=> .lv (Q4j m frame) λ(x1:Bool)=> .br (!x1) (.lf (x0,false)) (.br ((s.length:Int) !=(128:Int)) (.lf (x0,false)) (.lp inferInstance (Q8s m frame s (0,x0)+1) ((rE (s:List UInt8)∧True∧rE ((wrap i64 (frame*32)):Int)∧rE (0:Int)∧True)∧rE (x0:List Int)∧True) (0,x0) λ(v0:Int×List Int)=> .br (decide (v0.1<32)) (.cn (decide (0≤wrap i64 (4*v0.1)∧wrap i64 (4*v0.1)≤wrap i64 (wrap i64 (4*v0.1)+4)∧wrap i64 (wrap i64 (4*v0.1)+4)≤(s.length:Int))) (let E1:=List.take (Int.toNat (wrap i64 (wrap i64 (4*v0.1)+4))-Int.toNat (wrap i64 (4*v0.1))) (List.drop (Int.toNat (wrap i64 (4*v0.1))) s); .cn (decide ((0:Int)≤(0:Int)∧0<(↑(List.length E1):Int))) (.cn (decide ((0:Int)≤(1:Int)∧1<(↑(List.length E1):Int))) (.cn (decide ((0:Int)≤(2:Int)∧2<(↑(List.length E1):Int))) (.cn (decide ((0:Int)≤(3:Int)∧3<(↑(List.length E1):Int))) (.cn (Nat.beq 1 1&&Nat.blt 0 1&&decide (0≤wrap i64 (wrap i64 (frame*32)+v0.1)∧wrap i64 (wrap i64 (frame*32)+v0.1)<(v0.2.length:Int))) (.nx ((rE (s:List UInt8)∧True∧rE ((wrap i64 (frame*32)):Int)∧rE ((wrap i64 (v0.1+1)):Int)∧True)∧rE ((List.set v0.2 (Int.toNat (wrap i64 (wrap i64 (frame*32)+v0.1))) (ior u32 (ior u32 (ior u32 (wrap u32 (↑(UInt8.toNat (List.getD (List.take (Int.toNat (wrap i64 (wrap i64 (4*v0.1)+4))-Int.toNat (wrap i64 (4*v0.1))) (List.drop (Int.toNat (wrap i64 (4*v0.1))) s)) (Int.toNat 0) (0:UInt8))):Int)) (ishl u32 (wrap u32 (↑(UInt8.toNat (List.getD (List.take (Int.toNat (wrap i64 (wrap i64 (4*v0.1)+4))-Int.toNat (wrap i64 (4*v0.1))) (List.drop (Int.toNat (wrap i64 (4*v0.1))) s)) (Int.toNat 1) (0:UInt8))):Int)) 8)) (ishl u32 (wrap u32 (↑(UInt8.toNat (List.getD (List.take (Int.toNat (wrap i64 (wrap i64 (4*v0.1)+4))-Int.toNat (wrap i64 (4*v0.1))) (List.drop (Int.toNat (wrap i64 (4*v0.1))) s)) (Int.toNat 2) (0:UInt8))):Int)) 16)) (ishl u32 (wrap u32 (↑(UInt8.toNat (List.getD (List.take (Int.toNat (wrap i64 (wrap i64 (4*v0.1)+4))-Int.toNat (wrap i64 (4*v0.1))) (List.drop (Int.toNat (wrap i64 (4*v0.1))) s)) (Int.toNat 3) (0:UInt8))):Int)) 24))):List Int)∧True) (Sum.inl (wrap i64 (v0.1+1),List.set v0.2 (Int.toNat (wrap i64 (wrap i64 (frame*32)+v0.1))) (ior u32 (ior u32 (ior u32 (wrap u32 (↑(UInt8.toNat (List.getD E1 (Int.toNat 0) (0:UInt8))):Int)) (ishl u32 (wrap u32 (↑(UInt8.toNat (List.getD E1 (Int.toNat 1) (0:UInt8))):Int)) 8)) (ishl u32 (wrap u32 (↑(UInt8.toNat (List.getD E1 (Int.toNat 2) (0:UInt8))):Int)) 16)) (ishl u32 (wrap u32 (↑(UInt8.toNat (List.getD E1 (Int.toNat 3) (0:UInt8))):Int)) 24))))))))))) (.lf (Sum.inr (v0.2,true))))))
def Q2p(m:(List Int))(frame:Int)(s:(List UInt8)):((List Int)×Bool):=(Q2a m frame s).m
abbrev Q5j(m:(List Int))(frame:Int)(s:(List UInt8)):Prop:=(Q2a m frame s).p
def Qo2:LInv:={
 α:=(Int)×(List Int)
 F:=λst a=>([(2,(lk st 2)),(8, .all 0),(9,(lk st 9)),(26, .int i64 a.1)],[⟨false,23,1, .ints u32 a.2⟩])
 a0:=λst=>((lk st 26).toInt,(Qi8 st.rows (rN st 8)))
 ex0:=λst=>[]++[(Q1m (lk st 8) (st.rows.length+0))]
 next:=λst=>((lk st 26).toInt,(Qi8 st.rows (rN st 8)))
 ex:=λst=>[]++[(Q1m (lk st 8) (st.rows.length+0))]}
def Qle:List (Nat×LInv):=[(6,Qo2)]
def Qqx:Q0e:=mkP 167 [] true [.one (.ints .u32), .one (.int .i64), .one (.str)] [] (λargs rows=>Q5j (argL .u32 args 0) (argI args 1) (argS args 2)) (λargs rows=>Q2p (argL .u32 args 0) (argI args 1) (argS args 2)) (λX=> .tup [.all 0, .bool (X.2)]) (λX=>[⟨false,23,1, .ints .u32 (X.1)⟩])
theorem Qaz:Q08 Tryz.prog Qqx:=Q0x Q0r Q0s (.cons Q0o (.cons Qgo (.nil))) Tryz.func167 Tryz.call167 (λargs rows=>Q2a (argL .u32 args 0) (argI args 1) (argS args 2)) [.row 23 1 (.ints .u32)] Qle 3 (λ_ _ _=>by kernel_rfl) (λ_ _=>rfl) (λ_ _ h=>h) (λ_ X=>by kernel_rfl)
def strings_Repeat(s:(List UInt8))(count:Int):(List UInt8):=
Lib.repeatL s count.toNat
def Q3x(s:(List UInt8))(count:Int):Prop:=
0≤count∧count≤9223372036854775807∧s.length*count.toNat≤140737488355328
def Qdy(s:(List UInt8))(count:Int):List D:=[.str s, .int .i64 count]
def Qez(s:(List UInt8))(count:Int):List Row:=[]
def Q9r(X:(List UInt8)):D:= .str X
def Qa0(X:(List UInt8)):List Row:=[]
def Qfw:List PT:=[.one (.str), .one (.int .i64)]
def Qed:List RT:=[]
def Qmu(args:List D)(rows:List Row):(List UInt8):=strings_Repeat (argS args 0) (argI args 1)
def Qnk(args:List D)(rows:List Row):Prop:=Q3x (argS args 0) (argI args 1)
def Qqn:Q0e:=mkP 232 [] true Qfw Qed Qnk Qmu Q9r Qa0
theorem Qko(s:(List UInt8))(count:Int)(hw:Q3x s count):Q3q Tryz.prog 232 (Qdy s count) (Qez s count) (Q9r (strings_Repeat s count)) (Qa0 (strings_Repeat s count)):=by
 exact repeat_of Tryz.strings_Repeat hw.1 hw.2.1 hw.2.2
set_option maxRecDepth 100000 in
theorem Qlv(args:List D)(rows:List Row):Qfb Qfw args 0=Qdy (argS args 0) (argI args 1):=by kernel_rfl
set_option maxRecDepth 100000 in
theorem Qkl(args:List D)(rows:List Row):Q66 Qed rows 0=Qez (argS args 0) (argI args 1):=by kernel_rfl
set_option maxRecDepth 100000 in
theorem Qnu(X:(List UInt8)):(ffB (Q9r X)&&ffBR (Qa0 X))=true:=by kernel_rfl
theorem Qo4:Q08 Tryz.prog Qqn:=Qwq Tryz.call232 (λargs rows hp=>by rw[Qlv args rows,Qkl args rows];exact Qko (argS args 0) (argI args 1) hp) (λ_ X=>Qnu X)
def Q2r(b:Q07)(m:(List Int))(port:Int)(v:Int):Tree (Q07×(List Int)):=
let T1:Tree ((Q07×(List Int))):= .an (Q03 m) (.lv (Q01 m) λ(x0:List Int)=> .lf (b,x0)); .br (decide (v≥32)) T1 (.cn (decide (0≤v)) (.br (port==10) (.lv (Q0q m) λ(x1:Int)=> .br (decide (wrap i64 v<x1)) (.br (iand u32 b.C0 (ishl u32 1 v)==0) (.an (Q3x [(0:UInt8)] 128) (.lv (strings_Repeat [(0:UInt8)] 128) λ(x2:List UInt8)=> .an (Q5j m (wrap i64 v) x2) (.lv (Q2p m (wrap i64 v) x2) λ(x3:List Int×Bool)=> .lf ({C6:=b.C6,C0:=ior u32 b.C0 (ishl u32 1 v)},x3.1)))) T1) T1) (.br (port==11) (.an (Q03 m) (.lv (Q01 m) λ(x6:List Int)=> .lf ({C6:=b.C6,C0:=Qd8 u32 b.C0 (ishl u32 1 v)},x6))) T1)))
def Q6r(b:Q07)(m:(List Int))(port:Int)(v:Int):(Q07×(List Int)):=(Q2r b m port v).m
abbrev Qe2(b:Q07)(m:(List Int))(port:Int)(v:Int):Prop:=(Q2r b m port v).p
def Z1a:Q0e:=mkP 178 [] true [.agg Q07.sig, .one (.ints .u32), .one (.int .i64), .one (.int .u32)] [] (λargs rows=>Qe2 (Q07.of (args.getD 0 .dead).cells) (argL .u32 args 1) (argI args 2) (argI args 3)) (λargs rows=>Q6r (Q07.of (args.getD 0 .dead).cells) (argL .u32 args 1) (argI args 2) (argI args 3)) (λX=> .tup [.agg (Q07.cells (X.1)), .all 0]) (λX=>[⟨false,23,1, .ints .u32 (X.2)⟩])
theorem Qvk:Q08 Tryz.prog Z1a:=Q0x Q0r Q0s (.cons Q0o (.cons Q3u (.cons Qaz (.cons Qo4 (.nil))))) Tryz.func178 Tryz.call178 (λargs rows=>Q2r (Q07.of (args.getD 0 .dead).cells) (argL .u32 args 1) (argI args 2) (argI args 3)) [.row 23 1 (.ints .u32)] [] 2 (λ_ _ _=>by kernel_rfl) (λ_ _=>rfl) (λ_ _ h=>h) (λ_ X=>by kernel_rfl)
def Q27(m:Q00)(port:Int)(v:Int)(at0:Int):Tree (Q00×(List Q06)):=
.br (port==0) (.lf (m,[{B2:=1,At:=at0,B3:=0,C3:=[(λ(n:Int)=>UInt8.ofNat n.toNat) (wrap u8 v)]}])) (.br (port==3) (.lv (Qgt m.A7 v) λ(x0:Q0i)=> .lf ({B1:=m.B1,Mem:=m.Mem,A2:=m.A2,A7:=x0,A6:=m.A6,C5:=m.C5,A1:=m.A1,A0:=m.A0,A3:=m.A3,A4:=m.A4},[])) (let T1:Tree ((Q00×(List Q06))):= .an (Qio m.A6 m.Mem port v at0) (.lv (Qrv m.A6 m.Mem port v at0) λ(x1:Q0a×List Q06)=> .lf ({B1:=m.B1,Mem:=m.Mem,A2:=m.A2,A7:=m.A7,A6:=x1.1,C5:=m.C5,A1:=m.A1,A0:=m.A0,A3:=m.A3,A4:=m.A4},x1.2)); .br (port==4) T1 (.br (port==5) T1 (.br (port==6) T1 (let T2:Tree ((Q00×(List Q06))):= .an (Qly m.C5 m.Mem port v at0) (.lv (Z16 m.C5 m.Mem port v at0) λ(x4:Q0n×List Q06)=> .lf ({B1:=m.B1,Mem:=m.Mem,A2:=m.A2,A7:=m.A7,A6:=m.A6,C5:=x4.1,A1:=m.A1,A0:=m.A0,A3:=m.A3,A4:=m.A4},x4.2)); .br (port==7) T2 (.br (port==8) T2 (.br (port==9) T2 (let T3:Tree ((Q00×(List Q06))):= .an (Qe2 m.A1 m.Mem port v) (.lv (Q6r m.A1 m.Mem port v) λ(x7:Q07×List Int)=> .lf ({B1:=m.B1,Mem:=x7.2,A2:=m.A2,A7:=m.A7,A6:=m.A6,C5:=m.C5,A1:=x7.1,A0:=m.A0,A3:=m.A3,A4:=m.A4},[])); .br (port==10) T3 (.br (port==11) T3 (.lf (m,[])))))))))))
def Q2c(m:Q00)(port:Int)(v:Int)(at0:Int):(Q00×(List Q06)):=(Q27 m port v at0).m
abbrev Q7y(m:Q00)(port:Int)(v:Int)(at0:Int):Prop:=(Q27 m port v at0).p
def Qlw:Q0e:=Q0e.fz<|mkP 126 [] false [.agg Q00.sig, .one (.int .i64), .one (.int .u32), .one (.int .u64)] [] (λargs rows=>Q7y (Q00.of (args.getD 0 .dead).cells) (argI args 1) (argI args 2) (argI args 3)) (λargs rows=>Q2c (Q00.of (args.getD 0 .dead).cells) (argI args 1) (argI args 2) (argI args 3)) (λX=> .tup [.agg (Q00.cells (X.1)), .sl 4 (.recs .apiOutput (X.2)) true]) (λX=>[])
theorem Qkv:Q08 Tryz.prog Qlw:=fz_ok<|Q0x Q0r Q0s (.cons Z4q (.cons Z5u (.cons Z9t (.cons Qvk (.nil))))) Tryz.func126 Tryz.call126 (λargs rows=>Q27 (Q00.of (args.getD 0 .dead).cells) (argI args 1) (argI args 2) (argI args 3)) [.sl (.ints .u32) false, .sl (.recs .apiOutput) true] [] 2 (λ_ _ _=>by kernel_rfl) (λ_ _=>rfl) (λ_ _ h=>h) (λh=>by cases h)
def Q1x(m:Q00)(clock:Int):Tree (Q00×(List Q06)):=
.an (Q03 m.Mem) (.lv (Q01 m.Mem) λ(x0:List Int)=>let E1:=({B1:=m.B1,Mem:=x0,A2:=m.A2,A7:=m.A7,A6:=m.A6,C5:=m.C5,A1:=m.A1,A0:=m.A0,A3:=m.A3,A4:=m.A4}:Q00); .an (Q72 E1) (.lv (Q25 E1) λ(x1:Bool)=> .br (!x1) (.lf (E1,[])) (.an (Q5y E1) (.lv (Q0h E1) λ(x2:Q00)=> .an (Qby x2.B1 x2.Mem) (.lv (Q4a x2.B1 x2.Mem) λ(x3:Q02×List Int×Q0z)=>let E2:=({B1:=x3.1,Mem:=x3.2.1,A2:=x2.A2,A7:=x2.A7,A6:=x2.A6,C5:=x2.C5,A1:=x2.A1,A0:=x2.A0,A3:=x2.A3,A4:=x2.A4}:Q00); .br (x3.2.2.B2==1) (.an (Q8t E2 x3.2.2.C8 clock) (.lv (Q0t E2 x3.2.2.C8 clock) λ(x4:Q00×Int)=> .br (x3.2.2.D7 !=0) (.cn (Nat.blt 0 1&&decide (0≤x3.2.2.D7∧x3.2.2.D7<(↑16:Int))) (.lf ({B1:={X:=A16.of 0 (List.set (A16.l x4.1.B1.X) x3.2.2.D7.toNat x4.2),Pc:=x4.1.B1.Pc,B4:=x4.1.B1.B4},Mem:=x4.1.Mem,A2:=x4.1.A2,A7:=x4.1.A7,A6:=x4.1.A6,C5:=x4.1.C5,A1:=x4.1.A1,A0:=wrap u64 (x4.1.A0+1),A3:=x4.1.A3,A4:=x4.1.A4},[]))) (.lf ({B1:=x4.1.B1,Mem:=x4.1.Mem,A2:=x4.1.A2,A7:=x4.1.A7,A6:=x4.1.A6,C5:=x4.1.C5,A1:=x4.1.A1,A0:=wrap u64 (x4.1.A0+1),A3:=x4.1.A3,A4:=x4.1.A4},[])))) (.br (x3.2.2.B2==2) (.an (Q7y E2 x3.2.2.C8 x3.2.2.Value m.A0) (.lv (Q2c E2 x3.2.2.C8 x3.2.2.Value m.A0) λ(x5:Q00×List Q06)=> .lf ({B1:=x5.1.B1,Mem:=x5.1.Mem,A2:=x5.1.A2,A7:=x5.1.A7,A6:=x5.1.A6,C5:=x5.1.C5,A1:=x5.1.A1,A0:=wrap u64 (x5.1.A0+1),A3:=x5.1.A3,A4:=x5.1.A4},x5.2))) (.br (x3.2.2.B2==3) (.lf ({B1:=x3.1,Mem:=x3.2.1,A2:=x2.A2,A7:=x2.A7,A6:=x2.A6,C5:=x2.C5,A1:=x2.A1,A0:=wrap u64 (x2.A0+1),A3:=true,A4:=x2.A4},[])) (.br (x3.2.2.B2==4) (.lf ({B1:=x3.1,Mem:=x3.2.1,A2:=x2.A2,A7:=x2.A7,A6:=x2.A6,C5:=x2.C5,A1:=x2.A1,A0:=wrap u64 (x2.A0+1),A3:=x2.A3,A4:=true},[])) (.lf ({B1:=x3.1,Mem:=x3.2.1,A2:=x2.A2,A7:=x2.A7,A6:=x2.A6,C5:=x2.C5,A1:=x2.A1,A0:=wrap u64 (x2.A0+1),A3:=x2.A3,A4:=x2.A4},[]))))))))))
def Q24(m:Q00)(clock:Int):(Q00×(List Q06)):=(Q1x m clock).m
abbrev Q57(m:Q00)(clock:Int):Prop:=(Q1x m clock).p
def Qvl:Q0e:=Q0e.fz<|mkP 58 [] false [.agg Q00.sig, .one (.int .u32)] [] (λargs rows=>Q57 (Q00.of (args.getD 0 .dead).cells) (argI args 1)) (λargs rows=>Q24 (Q00.of (args.getD 0 .dead).cells) (argI args 1)) (λX=> .tup [.agg (Q00.cells (X.1)), .sl 4 (.recs .apiOutput (X.2)) false]) (λX=>[])
theorem Qs9:Q08 Tryz.prog Qvl:=fz_ok<|Q0x Q0r Q0s (.cons Q0o (.cons Qj1 (.cons Qic (.cons Quo (.cons Qlh (.cons Qkv (.nil))))))) Tryz.func58 Tryz.call58 (λargs rows=>Q1x (Q00.of (args.getD 0 .dead).cells) (argI args 1)) [.sl (.ints .u32) false, .sl (.recs .apiOutput) false] [] 2 (λ_ _ _=>by kernel_rfl) (λ_ _=>rfl) (λ_ _ h=>h) (λh=>by cases h)
end
end Go.Proofs.YtjaifpiopmhmlaaGreat

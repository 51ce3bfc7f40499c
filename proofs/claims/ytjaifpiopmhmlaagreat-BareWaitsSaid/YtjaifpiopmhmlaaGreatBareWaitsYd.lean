/-
  Functions of the program: models, and that its calls come to them (by a program: gen3.py).
-/
import Derived.Test.YtjaifpiopmhmlaaGreatBareWaitsBase
import Derived.Test.YtjaifpiopmhmlaaGreatBareWaitsHand
import Derived.Test.YtjaifpiopmhmlaaGreatBareWaitsYc
import Derived.Test.YtjaifpiopmhmlaaGreatBareWaitsYb
import Derived.Test.YtjaifpiopmhmlaaGreatBareWaitsYa
set_option maxRecDepth 100000
set_option linter.unusedVariables false
set_option linter.unusedSimpArgs false
namespace Go.Proofs.YtjaifpiopmhmlaaGreat
open Go Go.GD Go.IntKind
noncomputable section
def Q2q(m:Q00):Tree Bool:=
.an (Q64 m) (.lv (Q16 m) λ(x0:Bool)=> .br x0 (.br (!m.A4) (.an (Q34 m) (.lv (Q1o m) λ(x1:Bool)=> .br (!x1) (.lf (decide (m.A0<1152921504606846976))) (.lf false))) (.lf false)) (.lf false))
def Q29(m:Q00):Bool:=(Q2q m).m
abbrev Q75(m:Q00):Prop:=(Q2q m).p
def Qvp:Q0e:=mkP 105 [] true [.agg Q00.sig] [] (λargs rows=>Q75 (Q00.of (args.getD 0 .dead).cells)) (λargs rows=>Q29 (Q00.of (args.getD 0 .dead).cells)) (λX=> .bool X) (λX=>[])
theorem Qjg:Q09 Tryz.prog Qvp:=Q0z Q0s Q0r (.cons Qfz (.cons Qiu (.nil))) Tryz.func105 Tryz.call105 (λargs rows=>Q2q (Q00.of (args.getD 0 .dead).cells)) [] [] 2 (λ_ _ _=>by kernel_rfl) (λ_ _=>rfl) (λ_ _ h=>h) (λ_ X=>by kernel_rfl)
def Q9d(m:Q00)(z:(Int)):Nat:=(5-z).toNat
def Q1z(m:Q00):Tree Q00:=
let E1:=({B1:=m.B1,Mem:=m.Mem,A2:=m.A2,A6:=m.A6,A7:=m.A7,C4:=m.C4,A1:=m.A1,A0:=m.A0,A3:=false,A4:=m.A4}:Q00); .br (iand u32 m.B1.B3.a0 (2:Int)==(0:Int)) (.lf (E1)) (.an (Q6w E1) (.lv (Q5 E1) λ(x0:Int)=> .lp inferInstance (Q9d m 0+1) (((rE (0:Nat)∧rE (0:Nat))∧(rE (0:Nat)∧rE (0:Nat))∧rE (x0:Int)∧rE (0:Int)∧True)∧(rE m.B1.X.a0∧rE m.B1.X.a1∧rE m.B1.X.a2∧rE m.B1.X.a3∧rE m.B1.X.a4∧rE m.B1.X.a5∧rE m.B1.X.a6∧rE m.B1.X.a7∧rE m.B1.X.a8∧rE m.B1.X.a9∧rE m.B1.X.a10∧rE m.B1.X.a11∧rE m.B1.X.a12∧rE m.B1.X.a13∧rE m.B1.X.a14∧rE m.B1.X.a15∧rE m.B1.Pc∧rE m.B1.B3.a0∧rE m.B1.B3.a1∧rE m.B1.B3.a2∧rE m.B1.B3.a3∧rE m.B1.B3.a4∧rE m.B1.B3.a5∧rE m.B1.B3.a6∧rE m.B1.B3.a7∧((Els.Nil (Els.ints u32 m.Mem)∨rE (1:Nat))∧rE m.Mem)∧rE m.A2.C9∧rE m.A6.D4∧rE m.A6.C7∧rE m.A6.D3∧rE m.A7.Blocks∧rE m.A7.B5∧rE m.A7.B0∧rE m.A7.B8∧rE m.A7.D6∧rE m.A7.B4∧rE m.A7.A9∧rE m.A7.C1∧rE m.C4.B0∧rE m.C4.D9∧rE m.C4.C2∧rE m.C4.B9∧rE m.C4.B7∧rE m.C4.F0∧rE m.A1.C6∧rE m.A1.C0∧rE m.A0∧rE (false:Bool)∧rE m.A4∧True)∧(mE zM True True)∧True) 0 λ(v0:Int)=> .br (decide (v0<5)) (.cn (decide (0≤v0)) (.br (iand u32 x0 (ishl u32 1 v0) !=0) (.lv (Q3x m.B1 (wrap i64 (16+v0)) 0) λ(x1:Q02)=> .lf (Sum.inr {B1:=x1,Mem:=m.Mem,A2:=m.A2,A6:=m.A6,A7:=m.A7,C4:=m.C4,A1:=m.A1,A0:=m.A0,A3:=false,A4:=m.A4})) (.nx (((rE (0:Nat)∧rE (0:Nat))∧(rE (0:Nat)∧rE (0:Nat))∧rE (x0:Int)∧rE ((wrap i64 (v0+1)):Int)∧True)∧(rE m.B1.X.a0∧rE m.B1.X.a1∧rE m.B1.X.a2∧rE m.B1.X.a3∧rE m.B1.X.a4∧rE m.B1.X.a5∧rE m.B1.X.a6∧rE m.B1.X.a7∧rE m.B1.X.a8∧rE m.B1.X.a9∧rE m.B1.X.a10∧rE m.B1.X.a11∧rE m.B1.X.a12∧rE m.B1.X.a13∧rE m.B1.X.a14∧rE m.B1.X.a15∧rE m.B1.Pc∧rE m.B1.B3.a0∧rE m.B1.B3.a1∧rE m.B1.B3.a2∧rE m.B1.B3.a3∧rE m.B1.B3.a4∧rE m.B1.B3.a5∧rE m.B1.B3.a6∧rE m.B1.B3.a7∧((Els.Nil (Els.ints u32 m.Mem)∨rE (1:Nat))∧rE m.Mem)∧rE m.A2.C9∧rE m.A6.D4∧rE m.A6.C7∧rE m.A6.D3∧rE m.A7.Blocks∧rE m.A7.B5∧rE m.A7.B0∧rE m.A7.B8∧rE m.A7.D6∧rE m.A7.B4∧rE m.A7.A9∧rE m.A7.C1∧rE m.C4.B0∧rE m.C4.D9∧rE m.C4.C2∧rE m.C4.B9∧rE m.C4.B7∧rE m.C4.F0∧rE m.A1.C6∧rE m.A1.C0∧rE m.A0∧rE (false:Bool)∧rE m.A4∧True)∧(mE zM True True)∧True) (Sum.inl (wrap i64 (v0+1)))))) (.lf (Sum.inr E1))))
def Q0h(m:Q00):Q00:=(Q1z m).m
abbrev Q5y(m:Q00):Prop:=(Q1z m).p
def Qql:LInv:={
 α:=(Int)
 F:=λst a=>([(1, .ptr 0 0 0),(2, .ptr 1 0 0),(3,(lk st 3)),(15, .int i64 a)],[⟨true,41,49, .gen [[(cT st 1 0),(cT st 1 1),(cT st 1 2),(cT st 1 3),(cT st 1 4),(cT st 1 5),(cT st 1 6),(cT st 1 7),(cT st 1 8),(cT st 1 9),(cT st 1 10),(cT st 1 11),(cT st 1 12),(cT st 1 13),(cT st 1 14),(cT st 1 15),(cT st 1 16),(cT st 1 17),(cT st 1 18),(cT st 1 19),(cT st 1 20),(cT st 1 21),(cT st 1 22),(cT st 1 23),(cT st 1 24),(cT st 1 25),(cT st 1 26),(cT st 1 27),(cT st 1 28),(cT st 1 29),(cT st 1 30),(cT st 1 31),(cT st 1 32),(cT st 1 33),(cT st 1 34),(cT st 1 35),(cT st 1 36),(cT st 1 37),(cT st 1 38),(cT st 1 39),(cT st 1 40),(cT st 1 41),(cT st 1 42),(cT st 1 43),(cT st 1 44),(cT st 1 45),(cT st 1 46),(cT st 1 47),(cT st 1 48)]]⟩,⟨true,41,49, .gen [[(cT st 2 0),(cT st 2 1),(cT st 2 2),(cT st 2 3),(cT st 2 4),(cT st 2 5),(cT st 2 6),(cT st 2 7),(cT st 2 8),(cT st 2 9),(cT st 2 10),(cT st 2 11),(cT st 2 12),(cT st 2 13),(cT st 2 14),(cT st 2 15),(cT st 2 16),(cT st 2 17),(cT st 2 18),(cT st 2 19),(cT st 2 20),(cT st 2 21),(cT st 2 22),(cT st 2 23),(cT st 2 24),(cT st 2 25),(cT st 2 26),(cT st 2 27),(cT st 2 28),(cT st 2 29),(cT st 2 30),(cT st 2 31),(cT st 2 32),(cT st 2 33),(cT st 2 34),(cT st 2 35),(cT st 2 36),(cT st 2 37),(cT st 2 38),(cT st 2 39),(cT st 2 40),(cT st 2 41),(cT st 2 42),(cT st 2 43),(cT st 2 44),(cT st 2 45),(cT st 2 46),(cT st 2 47),(cT st 2 48)]]⟩])
 a0:=λst=>(lk st 15).toInt
 ex0:=λst=>[]++[(Q1r (lk st 1) (st.rows.length+0)),(Q1r (lk st 2) (st.rows.length+1))]
 next:=λst=>(lk st 15).toInt
 ex:=λst=>[]++[(Q1r (lk st 1) (st.rows.length+0)),(Q1r (lk st 2) (st.rows.length+1))]}
def Qn2:List (Nat×LInv):=[(6,Qql)]
def Qt4:Q0e:=Q0e.fz<|mkP 106 [] false [.agg Q00.sig] [] (λargs rows=>Q5y (Q00.of (args.getD 0 .dead).cells)) (λargs rows=>Q0h (Q00.of (args.getD 0 .dead).cells)) (λX=> .agg (Q00.cells X)) (λX=>[])
theorem Qig:Q09 Tryz.prog Qt4:=fz_ok<|Q0z Q0s Q0r (.cons Qfr (.cons Qeu (.nil))) Tryz.func106 Tryz.call106 (λargs rows=>Q1z (Q00.of (args.getD 0 .dead).cells)) [.sl (.ints .u32) false] Qn2 3 (λ_ _ _=>by kernel_rfl) (λ_ _=>rfl) (λ_ _ h=>h) (λh=>by cases h)
def Q8(c:Q0b)(port:Int):Tree (Q0b×Int):=
.br (port==0) (.br (decide (c.C9=[])) (.lf (c,4294967295)) (.cn (decide ((0:Int)≤(0:Int)∧0<(c.C9.length:Int))) (.cn (decide ((0:Int)≤(1:Int)∧1≤(c.C9.length:Int)∧(c.C9.length:Int)≤(c.C9.length:Int))) (.lf ({C9:=List.take (Int.toNat (c.C9.length:Int)-Int.toNat 1) (List.drop (Int.toNat 1) c.C9)},wrap u32 (↑(UInt8.toNat (c.C9.getD (Int.toNat 0) (0:UInt8))):Int)))))) (.br (port==1) (.lf (c,wrap u32 (c.C9.length:Int))) (.lf (c,0)))
def Qkl(c:Q0b)(port:Int):(Q0b×Int):=(Q8 c port).m
theorem Qv(c:Q0b)(port:Int):(Q8 c port).p:=by
 unfold Tree.p Q8
 repeat'(first|exact trivial|refine w_br (λ_=> ?_) (λ_=> ?_)|refine w_cn ?_ ?_|refine w_an ?_ ?_|refine w_lv (λ_ _=> ?_)|refine w_nx ?_|refine w_lf ?_|refine And.intro ?_ ?_)
 all_goals(((subst_vars;first|trivial|assumption|omega|((simp(config:={decide:=true,failIfUnchanged:=false}) only[Bool.and_eq_true,Bool.or_eq_true,Bool.and_eq_false_iff,Bool.or_eq_false_iff,Bool.not_eq_true',Bool.not_eq_false',Bool.not_eq_true,Bool.not_eq_false,decide_eq_true_eq,decide_eq_false_iff_not,Qhw,Qft,Qhq,Qfp,beq_iff_eq,beq_eq_false_iff_ne,bne_iff_ne,bne_eq_false_iff_eq,ne_eq,List.all_cons,List.all_nil,D.plain,List.length_cons,List.length_nil,List.length_append,List.length_set,List.length_replicate,IntKind.wrap_i64,IntKind.wrap_u64,IntKind.wrap_u32,IntKind.wrap_i32,IntKind.wrap_u8,true_and,and_true,or_false,false_or,or_true,true_or,not_true_eq_false,not_false_eq_true,Prod.fst,Prod.snd]at*);first|done|assumption|omega)|((simp(config:={decide:=true,failIfUnchanged:=false}) only[Bool.and_eq_true,Bool.or_eq_true,Bool.and_eq_false_iff,Bool.or_eq_false_iff,Bool.not_eq_true',Bool.not_eq_false',Bool.not_eq_true,Bool.not_eq_false,decide_eq_true_eq,decide_eq_false_iff_not,Qhw,Qft,Qhq,Qfp,beq_iff_eq,beq_eq_false_iff_ne,bne_iff_ne,bne_eq_false_iff_eq,ne_eq,List.all_cons,List.all_nil,D.plain,List.length_cons,List.length_nil,List.length_append,List.length_set,List.length_replicate,IntKind.wrap_i64,IntKind.wrap_u64,IntKind.wrap_u32,IntKind.wrap_i32,IntKind.wrap_u8,true_and,and_true,or_false,false_or,or_true,true_or,not_true_eq_false,not_false_eq_true,Prod.fst,Prod.snd]at*);simp only[←List.length_pos_iff]at*;omega)|(simp_all;done)|(have:= @Qzx;simp_all;try omega))))
def Z3u:Q0e:=mkR 170 [] true [.agg Q0b.sig, .one (.int .i64)] [] (λargs rows=>Qkl (Q0b.of (args.getD 0 .dead).cells) (argI args 1)) (λX=> .tup [.agg (Q0b.cells (X.1)), .int .u32 (X.2)]) (λX=>[])
theorem Qzu:Q09 Tryz.prog Z3u:=Q2l Q0s Q0r (.nil) Tryz.func170 Tryz.call170 (λargs rows=>Q8 (Q0b.of (args.getD 0 .dead).cells) (argI args 1)) [] [] 2 (λ_ _ _=>by kernel_rfl) (λ_ _=>rfl) (λargs rows=>Qv (Q0b.of (args.getD 0 .dead).cells) (argI args 1)) (λ_ X=>by kernel_rfl)
def Qjz(t:Q0i):Tree Int:=
.br t.D3 (.lf 1) (.lf 0)
def Qri(t:Q0i):Int:=(Qjz t).m
def Zax:Q0e:=mkR 171 [] true [.agg Q0i.sig] [] (λargs rows=>Qri (Q0i.of (args.getD 0 .dead).cells)) (λX=> .int .u32 X) (λX=>[])
theorem Z4s:Q09 Tryz.prog Zax:=Q2l Q0s Q0r (.nil) Tryz.func171 Tryz.call171 (λargs rows=>Qjz (Q0i.of (args.getD 0 .dead).cells)) [] [] 2 (λ_ _ _=>by kernel_rfl) (λ_ _=>rfl) (λ_ _=>Tree.free_ok (by kernel_rfl)) (λ_ X=>by kernel_rfl)
def Qm9(d0:Q0a)(port:Int):Tree Int:=
.br (port==4) (.lf d0.B5) (.br (port==5) (.lf d0.B0) (.br (port==6) (.lf (wrap u32 d0.B8)) (.lf 0)))
def Qo5(d0:Q0a)(port:Int):Int:=(Qm9 d0 port).m
def disk_In_m:Q0e:=mkR 172 [] true [.agg Q0a.sig, .one (.int .i64)] [] (λargs rows=>Qo5 (Q0a.of (args.getD 0 .dead).cells) (argI args 1)) (λX=> .int .u32 X) (λX=>[])
theorem Zaq:Q09 Tryz.prog disk_In_m:=Q2l Q0s Q0r (.nil) Tryz.func172 Tryz.call172 (λargs rows=>Qm9 (Q0a.of (args.getD 0 .dead).cells) (argI args 1)) [] [] 2 (λ_ _ _=>by kernel_rfl) (λ_ _=>rfl) (λ_ _=>Tree.free_ok (by kernel_rfl)) (λ_ X=>by kernel_rfl)
def Qmn(n:Q0n)(port:Int):Tree Int:=
.br (port==7) (.lf n.B0) (.br (port==8) (.lf n.F0) (.br (port==9) (.br n.C2 (.br n.B7 (.lf (wrap u32 (wrap u32 ((0:Int)+(1:Int))+2))) (.lf (wrap u32 ((0:Int)+(1:Int))))) (.br n.B7 (.lf (wrap u32 ((0:Int)+(2:Int)))) (.lf 0))) (.lf 0)))
def Qui(n:Q0n)(port:Int):Int:=(Qmn n port).m
def nic_In_m:Q0e:=mkR 173 [] true [.agg Q0n.sig, .one (.int .i64)] [] (λargs rows=>Qui (Q0n.of (args.getD 0 .dead).cells) (argI args 1)) (λX=> .int .u32 X) (λX=>[])
theorem nic_In_ok:Q09 Tryz.prog nic_In_m:=Q2l Q0s Q0r (.nil) Tryz.func173 Tryz.call173 (λargs rows=>Qmn (Q0n.of (args.getD 0 .dead).cells) (argI args 1)) [] [] 2 (λ_ _ _=>by kernel_rfl) (λ_ _=>rfl) (λ_ _=>Tree.free_ok (by kernel_rfl)) (λ_ X=>by kernel_rfl)
def Q6d(b:Q07)(port:Int):Tree Int:=
.br (port==10) (.lf b.C6) (.br (port==11) (.an (Q8k b) (.lv (Qag b) λ(x0:Int)=> .lf (wrap u32 x0))) (.lf 0))
def Qk8(b:Q07)(port:Int):Int:=(Q6d b port).m
abbrev Qg8(b:Q07)(port:Int):Prop:=(Q6d b port).p
def Z3p:Q0e:=mkP 174 [] true [.agg Q07.sig, .one (.int .i64)] [] (λargs rows=>Qg8 (Q07.of (args.getD 0 .dead).cells) (argI args 1)) (λargs rows=>Qk8 (Q07.of (args.getD 0 .dead).cells) (argI args 1)) (λX=> .int .u32 X) (λX=>[])
theorem Qzp:Q09 Tryz.prog Z3p:=Q0z Q0s Q0r (.cons Qi5 (.nil)) Tryz.func174 Tryz.call174 (λargs rows=>Q6d (Q07.of (args.getD 0 .dead).cells) (argI args 1)) [] [] 2 (λ_ _ _=>by kernel_rfl) (λ_ _=>rfl) (λ_ _ h=>h) (λ_ X=>by kernel_rfl)
def Q25(m:Q00)(port:Int)(clock:Int):Tree (Q00×Int):=
let T1:Tree ((Q00×Int)):= .lv (Qkl m.A2 port) λ(x0:Q0b×Int)=> .lf ({B1:=m.B1,Mem:=m.Mem,A2:=x0.1,A6:=m.A6,A7:=m.A7,C4:=m.C4,A1:=m.A1,A0:=m.A0,A3:=m.A3,A4:=m.A4},x0.2); .br (port==0) T1 (.br (port==1) T1 (.br (port==2) (.lf (m,clock)) (.br (port==3) (.lv (Qri m.A6) λ(x2:Int)=> .lf (m,x2)) (.br (port==4) (.lv (Qo5 m.A7 port) λ(x3:Int)=> .lf (m,x3)) (.br (port==5) (.lv (Qo5 m.A7 port) λ(x4:Int)=> .lf (m,x4)) (.br (port==6) (.lv (Qo5 m.A7 port) λ(x5:Int)=> .lf (m,x5)) (.br (port==7) (.lv (Qui m.C4 port) λ(x6:Int)=> .lf (m,x6)) (.br (port==8) (.lv (Qui m.C4 port) λ(x7:Int)=> .lf (m,x7)) (.br (port==9) (.lv (Qui m.C4 port) λ(x8:Int)=> .lf (m,x8)) (let T2:Tree ((Q00×Int)):= .an (Qg8 m.A1 port) (.lv (Qk8 m.A1 port) λ(x9:Int)=> .lf (m,x9)); .br (port==10) T2 (.br (port==11) T2 (.lf (m,0)))))))))))))
def Q0t(m:Q00)(port:Int)(clock:Int):(Q00×Int):=(Q25 m port clock).m
abbrev Q8r(m:Q00)(port:Int)(clock:Int):Prop:=(Q25 m port clock).p
def Qn5:Q0e:=Q0e.fz<|mkP 125 [] false [.agg Q00.sig, .one (.int .i64), .one (.int .u32)] [] (λargs rows=>Q8r (Q00.of (args.getD 0 .dead).cells) (argI args 1) (argI args 2)) (λargs rows=>Q0t (Q00.of (args.getD 0 .dead).cells) (argI args 1) (argI args 2)) (λX=> .tup [.agg (Q00.cells (X.1)), .int .u32 (X.2)]) (λX=>[])
theorem Qln:Q09 Tryz.prog Qn5:=fz_ok<|Q0z Q0s Q0r (.cons Qzu (.cons Z4s (.cons Zaq (.cons nic_In_ok (.cons Qzp (.nil)))))) Tryz.func125 Tryz.call125 (λargs rows=>Q25 (Q00.of (args.getD 0 .dead).cells) (argI args 1) (argI args 2)) [.sl (.ints .u32) false] [] 2 (λ_ _ _=>by kernel_rfl) (λ_ _=>rfl) (λ_ _ h=>h) (λh=>by cases h)
def Qhe(t:Q0i)(deadline:Int):Tree Q0i:=
.lf ({D4:=deadline !=0,C7:=deadline,D3:=false})
def Qgu(t:Q0i)(deadline:Int):Q0i:=(Qhe t deadline).m
def Z50:Q0e:=mkR 175 [] true [.agg Q0i.sig, .one (.int .u32)] [] (λargs rows=>Qgu (Q0i.of (args.getD 0 .dead).cells) (argI args 1)) (λX=> .agg (Q0i.cells X)) (λX=>[])
theorem Z33:Q09 Tryz.prog Z50:=Q2l Q0s Q0r (.nil) Tryz.func175 Tryz.call175 (λargs rows=>Qhe (Q0i.of (args.getD 0 .dead).cells) (argI args 1)) [] [] 2 (λ_ _ _=>by kernel_rfl) (λ_ _=>rfl) (λ_ _=>Tree.free_ok (by kernel_rfl)) (λ_ X=>by kernel_rfl)
def Q9w(m:(List Int))(frame:Int):Tree Bool:=
.lv (Q0q m) λ(x0:Int)=> .lf (decide (wrap u64 frame<wrap u64 x0))
def Q7z(m:(List Int))(frame:Int):Bool:=(Q9w m frame).m
def Z0g:Q0e:=mkR 166 [] true [.one (.ints .u32), .one (.int .u32)] [] (λargs rows=>Q7z (argL .u32 args 0) (argI args 1)) (λX=> .bool X) (λX=>[])
theorem Qkx:Q09 Tryz.prog Z0g:=Q2l Q0s Q0r (.cons Q3l (.nil)) Tryz.func166 Tryz.call166 (λargs rows=>Q9w (argL .u32 args 0) (argI args 1)) [] [] 2 (λ_ _ _=>by kernel_rfl) (λ_ _=>rfl) (λ_ _=>Tree.free_ok (by kernel_rfl)) (λ_ X=>by kernel_rfl)
def Q70(m:(List Int))(frame:Int):Tree Bool:=
.br (decide (frame≥0)) (.lv (Q0q m) λ(x0:Int)=> .lf (decide (frame<x0))) (.lf false)
def Q4i(m:(List Int))(frame:Int):Bool:=(Q70 m frame).m
def Qqh:Q0e:=mkR 228 [] true [.one (.ints .u32), .one (.int .i64)] [] (λargs rows=>Q4i (argL .u32 args 0) (argI args 1)) (λX=> .bool X) (λX=>[])
theorem Qgi:Q09 Tryz.prog Qqh:=Q2l Q0s Q0r (.cons Q3l (.nil)) Tryz.func228 Tryz.call228 (λargs rows=>Q70 (argL .u32 args 0) (argI args 1)) [] [] 2 (λ_ _ _=>by kernel_rfl) (λ_ _=>rfl) (λ_ _=>Tree.free_ok (by kernel_rfl)) (λ_ X=>by kernel_rfl)
def Qi4(words:(List Int))(z:(Int)×(List Int)):Prop:=0≤z.1∧z.1≤words.length∧(z.2.length:Int)=4*z.1
def Q5w(words:(List Int))(z:(Int)×(List Int)):Nat:=(words.length-z.1).toNat
def Q4b(words:(List Int)):Tree (List UInt8):=
.cn (Nat.blt 0 1&&Nat.beq 1 1&&List.all [D.int u8 0] D.plain&&decide ((0:Int)≤(0:Int)∧0≤wrap i64 (4*(words.length:Int))∧wrap i64 (4*(words.length:Int))≤9223372036854775807∧(↑1:Int)*wrap i64 (4*(words.length:Int))≤140737488355328)) (.lp inferInstance (Q5w words (0,[])+1) ((True∧((Els.Nil (Els.ints u32 words)∨rE (1:Nat))∧rE (words:List Int))∧rE ((words.length:Int):Int)∧rE (0:Int)∧True)∧rE ([]:List Int)∧True) (0,[]) λ(v0:Int×List Int)=> .br (decide (v0.1<(words.length:Int))) (.cn (Nat.beq 1 1&&Nat.blt 0 1&&decide (0≤v0.1∧v0.1<(words.length:Int))) (.cn (decide (1*(v0.2.length+4)≤140737488355328)) (let E1:=words.getD v0.1.toNat 0; .nx ((True∧((Els.Nil (Els.ints u32 words)∨rE (1:Nat))∧rE (words:List Int))∧rE ((words.length:Int):Int)∧rE ((wrap i64 (v0.1+1)):Int)∧True)∧rE ((v0.2++[wrap u8 (words.getD v0.1.toNat 0),wrap u8 (ishr u32 (words.getD v0.1.toNat 0) 8),wrap u8 (ishr u32 (words.getD v0.1.toNat 0) 16),wrap u8 (ishr u32 (words.getD v0.1.toNat 0) 24)]):List Int)∧True) (Sum.inl (wrap i64 (v0.1+1),v0.2++[wrap u8 E1,wrap u8 (ishr u32 E1 8),wrap u8 (ishr u32 E1 16),wrap u8 (ishr u32 E1 24)]))))) (.lf (Sum.inr (bytesOf v0.2))))
def Qte(words:(List Int)):(List UInt8):=(Q4b words).m
def Q4r(words:(List Int)):Prop:=
words.length≤1000000000000
theorem Qsa(words:(List Int))(hw:Q4r words):(Q4b words).p:=by
 simp only[Q4r]at hw
 unfold Tree.p Q4b
 repeat'(first|refine w_lp (inv:=Qi4 words) (μ:=Q5w words) ?_ (Nat.lt_succ_self _) (λ_ _=> ?_)|exact trivial|refine w_br (λ_=> ?_) (λ_=> ?_)|refine w_cn ?_ ?_|refine w_an ?_ ?_|refine w_lv (λ_ _=> ?_)|refine w_nx ?_|refine w_lf ?_|refine And.intro ?_ ?_)
 all_goals((try simp only[Qi4,Q5w]at*);((subst_vars;first|trivial|assumption|omega|((simp(config:={decide:=true,failIfUnchanged:=false}) only[Bool.and_eq_true,Bool.or_eq_true,Bool.and_eq_false_iff,Bool.or_eq_false_iff,Bool.not_eq_true',Bool.not_eq_false',Bool.not_eq_true,Bool.not_eq_false,decide_eq_true_eq,decide_eq_false_iff_not,Qhw,Qft,Qhq,Qfp,beq_iff_eq,beq_eq_false_iff_ne,bne_iff_ne,bne_eq_false_iff_eq,ne_eq,List.all_cons,List.all_nil,D.plain,List.length_cons,List.length_nil,List.length_append,List.length_set,List.length_replicate,IntKind.wrap_i64,IntKind.wrap_u64,IntKind.wrap_u32,IntKind.wrap_i32,IntKind.wrap_u8,true_and,and_true,or_false,false_or,or_true,true_or,not_true_eq_false,not_false_eq_true,Prod.fst,Prod.snd]at*);first|done|assumption|omega)|((simp(config:={decide:=true,failIfUnchanged:=false}) only[Bool.and_eq_true,Bool.or_eq_true,Bool.and_eq_false_iff,Bool.or_eq_false_iff,Bool.not_eq_true',Bool.not_eq_false',Bool.not_eq_true,Bool.not_eq_false,decide_eq_true_eq,decide_eq_false_iff_not,Qhw,Qft,Qhq,Qfp,beq_iff_eq,beq_eq_false_iff_ne,bne_iff_ne,bne_eq_false_iff_eq,ne_eq,List.all_cons,List.all_nil,D.plain,List.length_cons,List.length_nil,List.length_append,List.length_set,List.length_replicate,IntKind.wrap_i64,IntKind.wrap_u64,IntKind.wrap_u32,IntKind.wrap_i32,IntKind.wrap_u8,true_and,and_true,or_false,false_or,or_true,true_or,not_true_eq_false,not_false_eq_true,Prod.fst,Prod.snd]at*);simp only[←List.length_pos_iff]at*;omega)|(simp_all;done)|(have:= @Qzx;simp_all;try omega))))
def Qw:LInv:={
 α:=(Int)×(List Int)
 F:=λst a=>([(3, .all 0),(10,(lk st 10)),(11,(lk st 11)),(12, .int i64 a.1)],[⟨false,5,1, .ints u8 a.2⟩])
 a0:=λst=>((lk st 12).toInt,(Qi6 st.rows (rN st 3)))
 ex0:=λst=>[]++[(Q1r (lk st 3) (st.rows.length+0))]
 next:=λst=>((lk st 12).toInt,(Qi6 st.rows (rN st 3)))
 ex:=λst=>[]++[(Q1r (lk st 3) (st.rows.length+0))]}
def Qqt:List (Nat×LInv):=[(3,Qw)]
def Z0x:Q0e:=mkP 229 [] true [.one (.ints .u32)] [] (λargs rows=>Q4r (argL .u32 args 0)) (λargs rows=>Qte (argL .u32 args 0)) (λX=> .str X) (λX=>[])
theorem Qw5:Q09 Tryz.prog Z0x:=Q0z Q0s Q0r (.nil) Tryz.func229 Tryz.call229 (λargs rows=>Q4b (argL .u32 args 0)) [] Qqt 3 (λ_ _ _=>by kernel_rfl) (λ_ _=>rfl) (λargs rows h=>Qsa (argL .u32 args 0) h) (λ_ X=>by kernel_rfl)
def Q3h(m:(List Int))(frame:Int):Tree ((List UInt8)×Bool):=
.lv (Q4i m frame) λ(x0:Bool)=> .br (!x0) (.lf ([],false)) (.cn (Nat.beq 1 1&&Nat.blt 0 1&&decide (0≤wrap i64 (frame*32)∧wrap i64 (frame*32)≤wrap i64 (wrap i64 (frame*32)+32)∧wrap i64 (wrap i64 (frame*32)+32)≤(m.length:Int))) (let E1:=List.take (Int.toNat (wrap i64 (wrap i64 (frame*32)+32))-Int.toNat (wrap i64 (frame*32))) (List.drop (Int.toNat (wrap i64 (frame*32))) m); .an (Q4r E1) (.lv (Qte E1) λ(x1:List UInt8)=> .lf (x1,true))))
def Q4u(m:(List Int))(frame:Int):((List UInt8)×Bool):=(Q3h m frame).m
abbrev Q7r(m:(List Int))(frame:Int):Prop:=(Q3h m frame).p
def Z14:Q0e:=mkP 169 [] true [.one (.ints .u32), .one (.int .i64)] [] (λargs rows=>Q7r (argL .u32 args 0) (argI args 1)) (λargs rows=>Q4u (argL .u32 args 0) (argI args 1)) (λX=> .tup [.str (X.1), .bool (X.2)]) (λX=>[])
theorem Qfy:Q09 Tryz.prog Z14:=Q0z Q0s Q0r (.cons Qgi (.cons Qw5 (.nil))) Tryz.func169 Tryz.call169 (λargs rows=>Q3h (argL .u32 args 0) (argI args 1)) [] [] 2 (λ_ _ _=>by kernel_rfl) (λ_ _=>rfl) (λ_ _ h=>h) (λ_ X=>by kernel_rfl)
def Qkz(d0:Q0a)(at0:Int):Tree (Q06×Bool):=
.br (d0.B8 !=1) (.lf ({B2:=0,At:=0,B5:=0,C5:=[]},false)) (.br (d0.D6==1) (.lf ({B2:=3,At:=at0,B5:=d0.B4,C5:=[]},true)) (.br (d0.D6==2) (.lf ({B2:=4,At:=at0,B5:=d0.B4,C5:=d0.C1},true)) (.lf ({B2:=0,At:=0,B5:=0,C5:=[]},false))))
def Qfd(d0:Q0a)(at0:Int):(Q06×Bool):=(Qkz d0 at0).m
def Qvv:Q0e:=mkR 263 [] true [.agg Q0a.sig, .one (.int .u64)] [] (λargs rows=>Qfd (Q0a.of (args.getD 0 .dead).cells) (argI args 1)) (λX=> .tup [.agg (Q06.cells (X.1)), .bool (X.2)]) (λX=>[])
theorem Qs2:Q09 Tryz.prog Qvv:=Q2l Q0s Q0r (.nil) Tryz.func263 Tryz.call263 (λargs rows=>Qkz (Q0a.of (args.getD 0 .dead).cells) (argI args 1)) [] [] 2 (λ_ _ _=>by kernel_rfl) (λ_ _=>rfl) (λ_ _=>Tree.free_ok (by kernel_rfl)) (λ_ X=>by kernel_rfl)
def Q68(d0:Q0a)(m:(List Int))(cmd:Int)(at0:Int):Tree (Q0a×(List Q06)):=
.br (d0.B8 !=0) (.lf (d0,[])) (let T1:Tree ((Q0a×(List Q06))):= .lf ({Blocks:=d0.Blocks,B5:=d0.B5,B0:=d0.B0,B8:=3,D6:=d0.D6,B4:=d0.B4,A9:=d0.A9,C1:=d0.C1},[]); .br (decide (d0.B5≥d0.Blocks)) T1 (.lv (Q7z m d0.B0) λ(x0:Bool)=> .br (!x0) T1 (.br (cmd==2) (.an (Q7r m (wrap i64 d0.B0)) (.lv (Q4u m (wrap i64 d0.B0)) λ(x1:List UInt8×Bool)=>let E2:=({Blocks:=d0.Blocks,B5:=d0.B5,B0:=d0.B0,B8:=1,D6:=cmd,B4:=d0.B5,A9:=d0.B0,C1:=x1.1}:Q0a); .lv (Qfd E2 at0) λ(x2:Q06×Bool)=> .lf (E2,[x2.1]))) (let E3:=({Blocks:=d0.Blocks,B5:=d0.B5,B0:=d0.B0,B8:=1,D6:=cmd,B4:=d0.B5,A9:=d0.B0,C1:=[]}:Q0a); .lv (Qfd E3 at0) λ(x3:Q06×Bool)=> .lf (E3,[x3.1])))))
def Qod(d0:Q0a)(m:(List Int))(cmd:Int)(at0:Int):(Q0a×(List Q06)):=(Q68 d0 m cmd at0).m
abbrev Qg4(d0:Q0a)(m:(List Int))(cmd:Int)(at0:Int):Prop:=(Q68 d0 m cmd at0).p
def Z39:Q0e:=mkP 230 [] true [.agg Q0a.sig, .one (.ints .u32), .one (.int .i64), .one (.int .u64)] [] (λargs rows=>Qg4 (Q0a.of (args.getD 0 .dead).cells) (argL .u32 args 1) (argI args 2) (argI args 3)) (λargs rows=>Qod (Q0a.of (args.getD 0 .dead).cells) (argL .u32 args 1) (argI args 2) (argI args 3)) (λX=> .tup [.agg (Q0a.cells (X.1)), .sl 4 (.recs .apiOutput (X.2)) true]) (λX=>[])
theorem Qyi:Q09 Tryz.prog Z39:=Q0z Q0s Q0r (.cons Qkx (.cons Qfy (.cons Qs2 (.nil)))) Tryz.func230 Tryz.call230 (λargs rows=>Q68 (Q0a.of (args.getD 0 .dead).cells) (argL .u32 args 1) (argI args 2) (argI args 3)) [.sl (.recs .apiOutput) true] [] 2 (λ_ _ _=>by kernel_rfl) (λ_ _=>rfl) (λ_ _ h=>h) (λ_ X=>by kernel_rfl)
def Q9k(d0:Q0a)(m:(List Int))(port:Int)(v:Int)(at0:Int):Tree (Q0a×(List Q06)):=
.br (port==4) (.lf ({Blocks:=d0.Blocks,B5:=v,B0:=d0.B0,B8:=d0.B8,D6:=d0.D6,B4:=d0.B4,A9:=d0.A9,C1:=d0.C1},[])) (.br (port==5) (.lf ({Blocks:=d0.Blocks,B5:=d0.B5,B0:=v,B8:=d0.B8,D6:=d0.D6,B4:=d0.B4,A9:=d0.A9,C1:=d0.C1},[])) (.br (port==6) (let T1:Tree ((Q0a×(List Q06))):= .an (Qg4 d0 m (wrap i64 v) at0) (.lv (Qod d0 m (wrap i64 v) at0) λ(x0:Q0a×List Q06)=> .lf (x0.1,x0.2)); .br (v==1) T1 (.br (v==2) T1 (.br (v==0) (.lv (Q7o d0) λ(x2:Bool)=> .br x2 (.lf ({Blocks:=d0.Blocks,B5:=d0.B5,B0:=d0.B0,B8:=0,D6:=d0.D6,B4:=d0.B4,A9:=d0.A9,C1:=d0.C1},[])) (.lf (d0,[]))) (.lf (d0,[]))))) (.lf (d0,[]))))
def Qrt(d0:Q0a)(m:(List Int))(port:Int)(v:Int)(at0:Int):(Q0a×(List Q06)):=(Q9k d0 m port v at0).m
abbrev Qji(d0:Q0a)(m:(List Int))(port:Int)(v:Int)(at0:Int):Prop:=(Q9k d0 m port v at0).p
def Zaz:Q0e:=mkP 176 [] true [.agg Q0a.sig, .one (.ints .u32), .one (.int .i64), .one (.int .u32), .one (.int .u64)] [] (λargs rows=>Qji (Q0a.of (args.getD 0 .dead).cells) (argL .u32 args 1) (argI args 2) (argI args 3) (argI args 4)) (λargs rows=>Qrt (Q0a.of (args.getD 0 .dead).cells) (argL .u32 args 1) (argI args 2) (argI args 3) (argI args 4)) (λX=> .tup [.agg (Q0a.cells (X.1)), .sl 4 (.recs .apiOutput (X.2)) true]) (λX=>[])
theorem Z6r:Q09 Tryz.prog Zaz:=Q0z Q0s Q0r (.cons Qyi (.cons Qj1 (.nil))) Tryz.func176 Tryz.call176 (λargs rows=>Q9k (Q0a.of (args.getD 0 .dead).cells) (argL .u32 args 1) (argI args 2) (argI args 3) (argI args 4)) [.sl (.recs .apiOutput) true] [] 2 (λ_ _ _=>by kernel_rfl) (λ_ _=>rfl) (λ_ _ h=>h) (λ_ X=>by kernel_rfl)
def Qc1(m:(List Int))(frame:Int):Tree Bool:=
.lv (Q0q m) λ(x0:Int)=> .lf (decide (wrap u64 frame<wrap u64 x0))
def Q8i(m:(List Int))(frame:Int):Bool:=(Qc1 m frame).m
def Z4d:Q0e:=mkR 168 [] true [.one (.ints .u32), .one (.int .u32)] [] (λargs rows=>Q8i (argL .u32 args 0) (argI args 1)) (λX=> .bool X) (λX=>[])
theorem Qho:Q09 Tryz.prog Z4d:=Q2l Q0s Q0r (.cons Q3l (.nil)) Tryz.func168 Tryz.call168 (λargs rows=>Qc1 (argL .u32 args 0) (argI args 1)) [] [] 2 (λ_ _ _=>by kernel_rfl) (λ_ _=>rfl) (λ_ _=>Tree.free_ok (by kernel_rfl)) (λ_ X=>by kernel_rfl)
def Q9o(n:Q0n)(m:(List Int))(at0:Int):Tree (List Q06):=
.br (decide (n.D9<1)) (.lf ([])) (.br (decide (n.D9>128)) (.lf ([])) (.lv (Q8i m n.B0) λ(x0:Bool)=> .br (!x0) (.lf ([])) (.an (Q7r m (wrap i64 n.B0)) (.lv (Q4u m (wrap i64 n.B0)) λ(x1:List UInt8×Bool)=> .cn (decide ((0:Int)≤(0:Int)∧0≤n.D9∧n.D9≤(x1.1.length:Int))) (.lf ([{B2:=2,At:=at0,B5:=0,C5:=List.take (Int.toNat n.D9-Int.toNat 0) (List.drop (Int.toNat 0) x1.1)}]))))))
def Qyd(n:Q0n)(m:(List Int))(at0:Int):(List Q06):=(Q9o n m at0).m
abbrev Qit(n:Q0n)(m:(List Int))(at0:Int):Prop:=(Q9o n m at0).p
def Zad:Q0e:=mkP 231 [] true [.agg Q0n.sig, .one (.ints .u32), .one (.int .u64)] [] (λargs rows=>Qit (Q0n.of (args.getD 0 .dead).cells) (argL .u32 args 1) (argI args 2)) (λargs rows=>Qyd (Q0n.of (args.getD 0 .dead).cells) (argL .u32 args 1) (argI args 2)) (λX=> .sl 4 (.recs .apiOutput X) true) (λX=>[])
theorem Z6l:Q09 Tryz.prog Zad:=Q0z Q0s Q0r (.cons Qho (.cons Qfy (.nil))) Tryz.func231 Tryz.call231 (λargs rows=>Q9o (Q0n.of (args.getD 0 .dead).cells) (argL .u32 args 1) (argI args 2)) [.sl (.recs .apiOutput) true] [] 2 (λ_ _ _=>by kernel_rfl) (λ_ _=>rfl) (λ_ _ h=>h) (λ_ X=>by kernel_rfl)
def Qcd(n:Q0n)(m:(List Int))(port:Int)(v:Int)(at0:Int):Tree (Q0n×(List Q06)):=
.br (port==7) (.lf ({B0:=v,D9:=n.D9,C2:=n.C2,B9:=n.B9,B7:=n.B7,F0:=n.F0},[])) (.br (port==8) (.lf ({B0:=n.B0,D9:=v,C2:=n.C2,B9:=n.B9,B7:=n.B7,F0:=n.F0},[])) (.br (port==9) (.br (v==1) (.an (Qit n m at0) (.lv (Qyd n m at0) λ(x0:List Q06)=> .lf (n,x0))) (.br (v==2) (.lv (Q8i m n.B0) λ(x1:Bool)=> .br x1 (.br (!n.C2) (.br (!n.B7) (.lf ({B0:=n.B0,D9:=n.D9,C2:=true,B9:=n.B0,B7:=n.B7,F0:=n.F0},[])) (.lf (n,[]))) (.lf (n,[]))) (.lf (n,[]))) (.br (v==0) (.lf ({B0:=n.B0,D9:=n.D9,C2:=n.C2,B9:=n.B9,B7:=false,F0:=0},[])) (.lf (n,[]))))) (.lf (n,[]))))
def Qzb(n:Q0n)(m:(List Int))(port:Int)(v:Int)(at0:Int):(Q0n×(List Q06)):=(Qcd n m port v at0).m
abbrev Qlc(n:Q0n)(m:(List Int))(port:Int)(v:Int)(at0:Int):Prop:=(Qcd n m port v at0).p
def nic_Out_m:Q0e:=mkP 177 [] true [.agg Q0n.sig, .one (.ints .u32), .one (.int .i64), .one (.int .u32), .one (.int .u64)] [] (λargs rows=>Qlc (Q0n.of (args.getD 0 .dead).cells) (argL .u32 args 1) (argI args 2) (argI args 3) (argI args 4)) (λargs rows=>Qzb (Q0n.of (args.getD 0 .dead).cells) (argL .u32 args 1) (argI args 2) (argI args 3) (argI args 4)) (λX=> .tup [.agg (Q0n.cells (X.1)), .sl 4 (.recs .apiOutput (X.2)) true]) (λX=>[])
theorem Z9:Q09 Tryz.prog nic_Out_m:=Q0z Q0s Q0r (.cons Z6l (.cons Qho (.nil))) Tryz.func177 Tryz.call177 (λargs rows=>Qcd (Q0n.of (args.getD 0 .dead).cells) (argL .u32 args 1) (argI args 2) (argI args 3) (argI args 4)) [.sl (.recs .apiOutput) true] [] 2 (λ_ _ _=>by kernel_rfl) (λ_ _=>rfl) (λ_ _ h=>h) (λ_ X=>by kernel_rfl)
def Q8q(m:(List Int))(frame:Int)(s:(List UInt8))(z:(Int)×(List Int)):Nat:=(32-z.1).toNat
def Q2d(m:(List Int))(frame:Int)(s:(List UInt8)):Tree ((List Int)×Bool):=
.an (Q03 m) (.lv (Q01 m) λ(x0:List Int)=> .lv (Q4i m frame) λ(x1:Bool)=> .br (!x1) (.lf (x0,false)) (.br ((s.length:Int) !=(128:Int)) (.lf (x0,false)) (.lp inferInstance (Q8q m frame s (0,x0)+1) ((rE (s:List UInt8)∧True∧rE ((wrap i64 (frame*32)):Int)∧rE (0:Int)∧True)∧rE (x0:List Int)∧True) (0,x0) λ(v0:Int×List Int)=> .br (decide (v0.1<32)) (.cn (decide (0≤wrap i64 (4*v0.1)∧wrap i64 (4*v0.1)≤wrap i64 (wrap i64 (4*v0.1)+4)∧wrap i64 (wrap i64 (4*v0.1)+4)≤(s.length:Int))) (let E1:=List.take (Int.toNat (wrap i64 (wrap i64 (4*v0.1)+4))-Int.toNat (wrap i64 (4*v0.1))) (List.drop (Int.toNat (wrap i64 (4*v0.1))) s); .cn (decide ((0:Int)≤(0:Int)∧0<(↑(List.length E1):Int))) (.cn (decide ((0:Int)≤(1:Int)∧1<(↑(List.length E1):Int))) (.cn (decide ((0:Int)≤(2:Int)∧2<(↑(List.length E1):Int))) (.cn (decide ((0:Int)≤(3:Int)∧3<(↑(List.length E1):Int))) (.cn (Nat.beq 1 1&&Nat.blt 0 1&&decide (0≤wrap i64 (wrap i64 (frame*32)+v0.1)∧wrap i64 (wrap i64 (frame*32)+v0.1)<(v0.2.length:Int))) (.nx ((rE (s:List UInt8)∧True∧rE ((wrap i64 (frame*32)):Int)∧rE ((wrap i64 (v0.1+1)):Int)∧True)∧rE ((List.set v0.2 (Int.toNat (wrap i64 (wrap i64 (frame*32)+v0.1))) (ior u32 (ior u32 (ior u32 (wrap u32 (↑(UInt8.toNat (List.getD (List.take (Int.toNat (wrap i64 (wrap i64 (4*v0.1)+4))-Int.toNat (wrap i64 (4*v0.1))) (List.drop (Int.toNat (wrap i64 (4*v0.1))) s)) (Int.toNat 0) (0:UInt8))):Int)) (ishl u32 (wrap u32 (↑(UInt8.toNat (List.getD (List.take (Int.toNat (wrap i64 (wrap i64 (4*v0.1)+4))-Int.toNat (wrap i64 (4*v0.1))) (List.drop (Int.toNat (wrap i64 (4*v0.1))) s)) (Int.toNat 1) (0:UInt8))):Int)) 8)) (ishl u32 (wrap u32 (↑(UInt8.toNat (List.getD (List.take (Int.toNat (wrap i64 (wrap i64 (4*v0.1)+4))-Int.toNat (wrap i64 (4*v0.1))) (List.drop (Int.toNat (wrap i64 (4*v0.1))) s)) (Int.toNat 2) (0:UInt8))):Int)) 16)) (ishl u32 (wrap u32 (↑(UInt8.toNat (List.getD (List.take (Int.toNat (wrap i64 (wrap i64 (4*v0.1)+4))-Int.toNat (wrap i64 (4*v0.1))) (List.drop (Int.toNat (wrap i64 (4*v0.1))) s)) (Int.toNat 3) (0:UInt8))):Int)) 24))):List Int)∧True) (Sum.inl (wrap i64 (v0.1+1),List.set v0.2 (Int.toNat (wrap i64 (wrap i64 (frame*32)+v0.1))) (ior u32 (ior u32 (ior u32 (wrap u32 (↑(UInt8.toNat (List.getD E1 (Int.toNat 0) (0:UInt8))):Int)) (ishl u32 (wrap u32 (↑(UInt8.toNat (List.getD E1 (Int.toNat 1) (0:UInt8))):Int)) 8)) (ishl u32 (wrap u32 (↑(UInt8.toNat (List.getD E1 (Int.toNat 2) (0:UInt8))):Int)) 16)) (ishl u32 (wrap u32 (↑(UInt8.toNat (List.getD E1 (Int.toNat 3) (0:UInt8))):Int)) 24))))))))))) (.lf (Sum.inr (v0.2,true))))))
def Q2o(m:(List Int))(frame:Int)(s:(List UInt8)):((List Int)×Bool):=(Q2d m frame s).m
abbrev Q5c(m:(List Int))(frame:Int)(s:(List UInt8)):Prop:=(Q2d m frame s).p
def Qo:LInv:={
 α:=(Int)×(List Int)
 F:=λst a=>([(2,(lk st 2)),(8, .all 0),(9,(lk st 9)),(26, .int i64 a.1)],[⟨false,23,1, .ints u32 a.2⟩])
 a0:=λst=>((lk st 26).toInt,(Qi6 st.rows (rN st 8)))
 ex0:=λst=>[]++[(Q1r (lk st 8) (st.rows.length+0))]
 next:=λst=>((lk st 26).toInt,(Qi6 st.rows (rN st 8)))
 ex:=λst=>[]++[(Q1r (lk st 8) (st.rows.length+0))]}
def Qm:List (Nat×LInv):=[(6,Qo)]
def Qr8:Q0e:=mkP 167 [] true [.one (.ints .u32), .one (.int .i64), .one (.str)] [] (λargs rows=>Q5c (argL .u32 args 0) (argI args 1) (argS args 2)) (λargs rows=>Q2o (argL .u32 args 0) (argI args 1) (argS args 2)) (λX=> .tup [.all 0, .bool (X.2)]) (λX=>[⟨false,23,1, .ints .u32 (X.1)⟩])
theorem Qbc:Q09 Tryz.prog Qr8:=Q0z Q0s Q0r (.cons Q0o (.cons Qgi (.nil))) Tryz.func167 Tryz.call167 (λargs rows=>Q2d (argL .u32 args 0) (argI args 1) (argS args 2)) [.row 23 1 (.ints .u32)] Qm 3 (λ_ _ _=>by kernel_rfl) (λ_ _=>rfl) (λ_ _ h=>h) (λ_ X=>by kernel_rfl)
def strings_Repeat(s:(List UInt8))(count:Int):(List UInt8):=
Lib.repeatL s count.toNat
def Q40(s:(List UInt8))(count:Int):Prop:=
0≤count∧count≤9223372036854775807∧s.length*count.toNat≤140737488355328
def Qf5(s:(List UInt8))(count:Int):List D:=[.str s, .int .i64 count]
def Qdz(s:(List UInt8))(count:Int):List Row:=[]
def Qac(X:(List UInt8)):D:= .str X
def Q9s(X:(List UInt8)):List Row:=[]
def Qfg:List PT:=[.one (.str), .one (.int .i64)]
def Qes:List RT:=[]
def Qn9(args:List D)(rows:List Row):(List UInt8):=strings_Repeat (argS args 0) (argI args 1)
def Qnm(args:List D)(rows:List Row):Prop:=Q40 (argS args 0) (argI args 1)
def Qqw:Q0e:=mkP 232 [] true Qfg Qes Qnm Qn9 Qac Q9s
theorem Qko(s:(List UInt8))(count:Int)(hw:Q40 s count):Q3m Tryz.prog 232 (Qf5 s count) (Qdz s count) (Qac (strings_Repeat s count)) (Q9s (strings_Repeat s count)):=by
 exact repeat_of Tryz.strings_Repeat hw.1 hw.2.1 hw.2.2
set_option maxRecDepth 100000 in
theorem Qlb(args:List D)(rows:List Row):Qfa Qfg args 0=Qf5 (argS args 0) (argI args 1):=by kernel_rfl
set_option maxRecDepth 100000 in
theorem Qkp(args:List D)(rows:List Row):Q6e Qes rows 0=Qdz (argS args 0) (argI args 1):=by kernel_rfl
set_option maxRecDepth 100000 in
theorem Qoz(X:(List UInt8)):(ffB (Qac X)&&ffBR (Q9s X))=true:=by kernel_rfl
theorem Qoa:Q09 Tryz.prog Qqw:=Qyc Tryz.call232 (λargs rows hp=>by rw[Qlb args rows,Qkp args rows];exact Qko (argS args 0) (argI args 1) hp) (λ_ X=>Qoz X)
def Q2s(b:Q07)(m:(List Int))(port:Int)(v:Int):Tree (Q07×(List Int)):=
let T1:Tree ((Q07×(List Int))):= .an (Q03 m) (.lv (Q01 m) λ(x0:List Int)=> .lf (b,x0)); .br (decide (v≥32)) T1 (.cn (decide (0≤v)) (.br (port==10) (.lv (Q0q m) λ(x1:Int)=> .br (decide (wrap i64 v<x1)) (.br (iand u32 b.C0 (ishl u32 1 v)==0) (.an (Q40 [(0:UInt8)] 128) (.lv (strings_Repeat [(0:UInt8)] 128) λ(x2:List UInt8)=> .an (Q5c m (wrap i64 v) x2) (.lv (Q2o m (wrap i64 v) x2) λ(x3:List Int×Bool)=> .lf ({C6:=b.C6,C0:=ior u32 b.C0 (ishl u32 1 v)},x3.1)))) T1) T1) (.br (port==11) (.an (Q03 m) (.lv (Q01 m) λ(x6:List Int)=> .lf ({C6:=b.C6,C0:=Qdh u32 b.C0 (ishl u32 1 v)},x6))) T1)))
def Q6h(b:Q07)(m:(List Int))(port:Int)(v:Int):(Q07×(List Int)):=(Q2s b m port v).m
abbrev Qeb(b:Q07)(m:(List Int))(port:Int)(v:Int):Prop:=(Q2s b m port v).p
def Z0i:Q0e:=mkP 178 [] true [.agg Q07.sig, .one (.ints .u32), .one (.int .i64), .one (.int .u32)] [] (λargs rows=>Qeb (Q07.of (args.getD 0 .dead).cells) (argL .u32 args 1) (argI args 2) (argI args 3)) (λargs rows=>Q6h (Q07.of (args.getD 0 .dead).cells) (argL .u32 args 1) (argI args 2) (argI args 3)) (λX=> .tup [.agg (Q07.cells (X.1)), .all 0]) (λX=>[⟨false,23,1, .ints .u32 (X.2)⟩])
theorem Quy:Q09 Tryz.prog Z0i:=Q0z Q0s Q0r (.cons Q0o (.cons Q3l (.cons Qbc (.cons Qoa (.nil))))) Tryz.func178 Tryz.call178 (λargs rows=>Q2s (Q07.of (args.getD 0 .dead).cells) (argL .u32 args 1) (argI args 2) (argI args 3)) [.row 23 1 (.ints .u32)] [] 2 (λ_ _ _=>by kernel_rfl) (λ_ _=>rfl) (λ_ _ h=>h) (λ_ X=>by kernel_rfl)
def Q28(m:Q00)(port:Int)(v:Int)(at0:Int):Tree (Q00×(List Q06)):=
.br (port==0) (.lf (m,[{B2:=1,At:=at0,B5:=0,C5:=[(λ(n:Int)=>UInt8.ofNat n.toNat) (wrap u8 v)]}])) (.br (port==3) (.lv (Qgu m.A6 v) λ(x0:Q0i)=> .lf ({B1:=m.B1,Mem:=m.Mem,A2:=m.A2,A6:=x0,A7:=m.A7,C4:=m.C4,A1:=m.A1,A0:=m.A0,A3:=m.A3,A4:=m.A4},[])) (let T1:Tree ((Q00×(List Q06))):= .an (Qji m.A7 m.Mem port v at0) (.lv (Qrt m.A7 m.Mem port v at0) λ(x1:Q0a×List Q06)=> .lf ({B1:=m.B1,Mem:=m.Mem,A2:=m.A2,A6:=m.A6,A7:=x1.1,C4:=m.C4,A1:=m.A1,A0:=m.A0,A3:=m.A3,A4:=m.A4},x1.2)); .br (port==4) T1 (.br (port==5) T1 (.br (port==6) T1 (let T2:Tree ((Q00×(List Q06))):= .an (Qlc m.C4 m.Mem port v at0) (.lv (Qzb m.C4 m.Mem port v at0) λ(x4:Q0n×List Q06)=> .lf ({B1:=m.B1,Mem:=m.Mem,A2:=m.A2,A6:=m.A6,A7:=m.A7,C4:=x4.1,A1:=m.A1,A0:=m.A0,A3:=m.A3,A4:=m.A4},x4.2)); .br (port==7) T2 (.br (port==8) T2 (.br (port==9) T2 (let T3:Tree ((Q00×(List Q06))):= .an (Qeb m.A1 m.Mem port v) (.lv (Q6h m.A1 m.Mem port v) λ(x7:Q07×List Int)=> .lf ({B1:=m.B1,Mem:=x7.2,A2:=m.A2,A6:=m.A6,A7:=m.A7,C4:=m.C4,A1:=x7.1,A0:=m.A0,A3:=m.A3,A4:=m.A4},[])); .br (port==10) T3 (.br (port==11) T3 (.lf (m,[])))))))))))
def Q2h(m:Q00)(port:Int)(v:Int)(at0:Int):(Q00×(List Q06)):=(Q28 m port v at0).m
abbrev Q7s(m:Q00)(port:Int)(v:Int)(at0:Int):Prop:=(Q28 m port v at0).p
def Qlo:Q0e:=Q0e.fz<|mkP 126 [] false [.agg Q00.sig, .one (.int .i64), .one (.int .u32), .one (.int .u64)] [] (λargs rows=>Q7s (Q00.of (args.getD 0 .dead).cells) (argI args 1) (argI args 2) (argI args 3)) (λargs rows=>Q2h (Q00.of (args.getD 0 .dead).cells) (argI args 1) (argI args 2) (argI args 3)) (λX=> .tup [.agg (Q00.cells (X.1)), .sl 4 (.recs .apiOutput (X.2)) true]) (λX=>[])
theorem Qkr:Q09 Tryz.prog Qlo:=fz_ok<|Q0z Q0s Q0r (.cons Z33 (.cons Z6r (.cons Z9 (.cons Quy (.nil))))) Tryz.func126 Tryz.call126 (λargs rows=>Q28 (Q00.of (args.getD 0 .dead).cells) (argI args 1) (argI args 2) (argI args 3)) [.sl (.ints .u32) false, .sl (.recs .apiOutput) true] [] 2 (λ_ _ _=>by kernel_rfl) (λ_ _=>rfl) (λ_ _ h=>h) (λh=>by cases h)
def Q20(m:Q00)(clock:Int):Tree (Q00×(List Q06)):=
.an (Q03 m.Mem) (.lv (Q01 m.Mem) λ(x0:List Int)=>let E1:=({B1:=m.B1,Mem:=x0,A2:=m.A2,A6:=m.A6,A7:=m.A7,C4:=m.C4,A1:=m.A1,A0:=m.A0,A3:=m.A3,A4:=m.A4}:Q00); .an (Q75 E1) (.lv (Q29 E1) λ(x1:Bool)=> .br (!x1) (.lf (E1,[])) (.an (Q5y E1) (.lv (Q0h E1) λ(x2:Q00)=> .an (Qbr x2.B1 x2.Mem) (.lv (Q4a x2.B1 x2.Mem) λ(x3:Q02×List Int×Q1)=>let E2:=({B1:=x3.1,Mem:=x3.2.1,A2:=x2.A2,A6:=x2.A6,A7:=x2.A7,C4:=x2.C4,A1:=x2.A1,A0:=x2.A0,A3:=x2.A3,A4:=x2.A4}:Q00); .br (x3.2.2.B2==1) (.an (Q8r E2 x3.2.2.C8 clock) (.lv (Q0t E2 x3.2.2.C8 clock) λ(x4:Q00×Int)=> .br (x3.2.2.D7 !=0) (.cn (Nat.blt 0 1&&decide (0≤x3.2.2.D7∧x3.2.2.D7<(↑16:Int))) (.lf ({B1:={X:=A16.of 0 (List.set (A16.l x4.1.B1.X) x3.2.2.D7.toNat x4.2),Pc:=x4.1.B1.Pc,B3:=x4.1.B1.B3},Mem:=x4.1.Mem,A2:=x4.1.A2,A6:=x4.1.A6,A7:=x4.1.A7,C4:=x4.1.C4,A1:=x4.1.A1,A0:=wrap u64 (x4.1.A0+1),A3:=x4.1.A3,A4:=x4.1.A4},[]))) (.lf ({B1:=x4.1.B1,Mem:=x4.1.Mem,A2:=x4.1.A2,A6:=x4.1.A6,A7:=x4.1.A7,C4:=x4.1.C4,A1:=x4.1.A1,A0:=wrap u64 (x4.1.A0+1),A3:=x4.1.A3,A4:=x4.1.A4},[])))) (.br (x3.2.2.B2==2) (.an (Q7s E2 x3.2.2.C8 x3.2.2.Value m.A0) (.lv (Q2h E2 x3.2.2.C8 x3.2.2.Value m.A0) λ(x5:Q00×List Q06)=> .lf ({B1:=x5.1.B1,Mem:=x5.1.Mem,A2:=x5.1.A2,A6:=x5.1.A6,A7:=x5.1.A7,C4:=x5.1.C4,A1:=x5.1.A1,A0:=wrap u64 (x5.1.A0+1),A3:=x5.1.A3,A4:=x5.1.A4},x5.2))) (.br (x3.2.2.B2==3) (.lf ({B1:=x3.1,Mem:=x3.2.1,A2:=x2.A2,A6:=x2.A6,A7:=x2.A7,C4:=x2.C4,A1:=x2.A1,A0:=wrap u64 (x2.A0+1),A3:=true,A4:=x2.A4},[])) (.br (x3.2.2.B2==4) (.lf ({B1:=x3.1,Mem:=x3.2.1,A2:=x2.A2,A6:=x2.A6,A7:=x2.A7,C4:=x2.C4,A1:=x2.A1,A0:=wrap u64 (x2.A0+1),A3:=x2.A3,A4:=true},[])) (.lf ({B1:=x3.1,Mem:=x3.2.1,A2:=x2.A2,A6:=x2.A6,A7:=x2.A7,C4:=x2.C4,A1:=x2.A1,A0:=wrap u64 (x2.A0+1),A3:=x2.A3,A4:=x2.A4},[]))))))))))
def Q21(m:Q00)(clock:Int):(Q00×(List Q06)):=(Q20 m clock).m
abbrev Q55(m:Q00)(clock:Int):Prop:=(Q20 m clock).p
def Qvu:Q0e:=Q0e.fz<|mkP 58 [] false [.agg Q00.sig, .one (.int .u32)] [] (λargs rows=>Q55 (Q00.of (args.getD 0 .dead).cells) (argI args 1)) (λargs rows=>Q21 (Q00.of (args.getD 0 .dead).cells) (argI args 1)) (λX=> .tup [.agg (Q00.cells (X.1)), .sl 4 (.recs .apiOutput (X.2)) false]) (λX=>[])
theorem Qut:Q09 Tryz.prog Qvu:=fz_ok<|Q0z Q0s Q0r (.cons Q0o (.cons Qjg (.cons Qig (.cons Qtp (.cons Qln (.cons Qkr (.nil))))))) Tryz.func58 Tryz.call58 (λargs rows=>Q20 (Q00.of (args.getD 0 .dead).cells) (argI args 1)) [.sl (.ints .u32) false, .sl (.recs .apiOutput) false] [] 2 (λ_ _ _=>by kernel_rfl) (λ_ _=>rfl) (λ_ _ h=>h) (λh=>by cases h)
end
end Go.Proofs.YtjaifpiopmhmlaaGreat

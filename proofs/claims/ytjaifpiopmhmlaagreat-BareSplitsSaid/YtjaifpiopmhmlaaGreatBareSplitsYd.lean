/-
  Functions of the program: models, and that its calls come to them (by a program: gen3.py).
-/
import Derived.Test.YtjaifpiopmhmlaaGreatBareSplitsBase
import Derived.Test.YtjaifpiopmhmlaaGreatBareSplitsHand
import Derived.Test.YtjaifpiopmhmlaaGreatBareSplitsYc
import Derived.Test.YtjaifpiopmhmlaaGreatBareSplitsYb
import Derived.Test.YtjaifpiopmhmlaaGreatBareSplitsYa
set_option maxRecDepth 100000
set_option linter.all false
namespace Go.Proofs.YtjaifpiopmhmlaaGreat
open Go Go.GD Go.IntKind
noncomputable section
def Q3r(m:Q00):Tree Bool:=
.an (Q56 m) (.lv (Q1a m) λ(x0:Bool)=> .br x0 (.br (!m.A7) (.an (Q5q m) (.lv (Q37 m) λ(x1:Bool)=> .br (!x1) (.lf (decide (m.A1<1152921504606846976))) (.lf false))) (.lf false)) (.lf false))
def Q25(m:Q00):Bool:=(Q3r m).m
abbrev Qam(m:Q00):Prop:=(Q3r m).p
def Z3w:Q0c:=mkP 105 [] true [.agg Q00.sig] [] (λargs rows=>Qam (Q00.of (args.getD 0 .dead).cells)) (λargs rows=>Q25 (Q00.of (args.getD 0 .dead).cells)) (λX=> .bool X) (λX=>[])
theorem Qnf:Q05 Tryz.prog Z3w:=Q0n Q0j Q0k (.cons Qj9 (.cons Qmv (.nil))) Tryz.func105 Tryz.call105 (λargs rows=>Q3r (Q00.of (args.getD 0 .dead).cells)) [] [] 2 (λ_ _ _=>by kernel_rfl) (λ_ _=>rfl) (λ_ _ h=>h) (λ_ X=>by kernel_rfl)
def Qay(m:Q00)(z:(Int)):Nat:=(5-z).toNat
def Q2l(m:Q00):Tree Q00:=
let E1:=({B2:=m.B2,Mem:=m.Mem,A3:=m.A3,B0:=m.B0,B1:=m.B1,C5:=m.C5,A2:=m.A2,A1:=m.A1,A4:=false,A7:=m.A7}:Q00); .br (iand u32 m.B2.B6.a0 (2:Int)==(0:Int)) (.lf (E1)) (.an (Qb1 E1) (.lv (Q5a E1) λ(x0:Int)=> .lp inferInstance (Qay m 0+1) (((rE (0:Nat)/\rE (0:Nat))/\(rE (0:Nat)/\rE (0:Nat))/\rE (x0:Int)/\rE (0:Int)/\True)/\(rE m.B2.X.a0/\rE m.B2.X.a1/\rE m.B2.X.a2/\rE m.B2.X.a3/\rE m.B2.X.a4/\rE m.B2.X.a5/\rE m.B2.X.a6/\rE m.B2.X.a7/\rE m.B2.X.a8/\rE m.B2.X.a9/\rE m.B2.X.a10/\rE m.B2.X.a11/\rE m.B2.X.a12/\rE m.B2.X.a13/\rE m.B2.X.a14/\rE m.B2.X.a15/\rE m.B2.Pc/\rE m.B2.B6.a0/\rE m.B2.B6.a1/\rE m.B2.B6.a2/\rE m.B2.B6.a3/\rE m.B2.B6.a4/\rE m.B2.B6.a5/\rE m.B2.B6.a6/\rE m.B2.B6.a7/\((Els.Nil (Els.ints u32 m.Mem)\/rE (1:Nat))/\rE m.Mem)/\rE m.A3.D3/\rE m.B0.D2/\rE m.B0.C9/\rE m.B0.D5/\rE m.B1.Blocks/\rE m.B1.B9/\rE m.B1.B4/\rE m.B1.C1/\rE m.B1.D8/\rE m.B1.B7/\rE m.B1.B3/\rE m.B1.C3/\rE m.C5.B4/\rE m.C5.F0/\rE m.C5.C7/\rE m.C5.C0/\rE m.C5.B8/\rE m.C5.F2/\rE m.A2.D0/\rE m.A2.C2/\rE m.A1/\rE (false:Bool)/\rE m.A7/\True)/\(mE zM True True)/\True) 0 λ(v0:Int)=> .br (decide (v0<5)) (.cn (decide (0<=v0)) (.br (iand u32 x0 (ishl u32 1 v0) !=0) (.lv (Q48 m.B2 (wrap i64 (16+v0)) 0) λ(x1:Q04)=> .lf (Sum.inr {B2:=x1,Mem:=m.Mem,A3:=m.A3,B0:=m.B0,B1:=m.B1,C5:=m.C5,A2:=m.A2,A1:=m.A1,A4:=false,A7:=m.A7})) (.nx (((rE (0:Nat)/\rE (0:Nat))/\(rE (0:Nat)/\rE (0:Nat))/\rE (x0:Int)/\rE ((wrap i64 (v0+1)):Int)/\True)/\(rE m.B2.X.a0/\rE m.B2.X.a1/\rE m.B2.X.a2/\rE m.B2.X.a3/\rE m.B2.X.a4/\rE m.B2.X.a5/\rE m.B2.X.a6/\rE m.B2.X.a7/\rE m.B2.X.a8/\rE m.B2.X.a9/\rE m.B2.X.a10/\rE m.B2.X.a11/\rE m.B2.X.a12/\rE m.B2.X.a13/\rE m.B2.X.a14/\rE m.B2.X.a15/\rE m.B2.Pc/\rE m.B2.B6.a0/\rE m.B2.B6.a1/\rE m.B2.B6.a2/\rE m.B2.B6.a3/\rE m.B2.B6.a4/\rE m.B2.B6.a5/\rE m.B2.B6.a6/\rE m.B2.B6.a7/\((Els.Nil (Els.ints u32 m.Mem)\/rE (1:Nat))/\rE m.Mem)/\rE m.A3.D3/\rE m.B0.D2/\rE m.B0.C9/\rE m.B0.D5/\rE m.B1.Blocks/\rE m.B1.B9/\rE m.B1.B4/\rE m.B1.C1/\rE m.B1.D8/\rE m.B1.B7/\rE m.B1.B3/\rE m.B1.C3/\rE m.C5.B4/\rE m.C5.F0/\rE m.C5.C7/\rE m.C5.C0/\rE m.C5.B8/\rE m.C5.F2/\rE m.A2.D0/\rE m.A2.C2/\rE m.A1/\rE (false:Bool)/\rE m.A7/\True)/\(mE zM True True)/\True) (Sum.inl (wrap i64 (v0+1)))))) (.lf (Sum.inr E1))))
def Q0p(m:Q00):Q00:=(Q2l m).m
abbrev Q9x(m:Q00):Prop:=(Q2l m).p
def Qx4:LInv:={
 α:=(Int)
 F:=λst a=>([(1, .ptr 0 0 0),(2, .ptr 1 0 0),(3,(lk st 3)),(15, .int i64 a)],[⟨true,41,49, .gen [[(cT st 1 0),(cT st 1 1),(cT st 1 2),(cT st 1 3),(cT st 1 4),(cT st 1 5),(cT st 1 6),(cT st 1 7),(cT st 1 8),(cT st 1 9),(cT st 1 10),(cT st 1 11),(cT st 1 12),(cT st 1 13),(cT st 1 14),(cT st 1 15),(cT st 1 16),(cT st 1 17),(cT st 1 18),(cT st 1 19),(cT st 1 20),(cT st 1 21),(cT st 1 22),(cT st 1 23),(cT st 1 24),(cT st 1 25),(cT st 1 26),(cT st 1 27),(cT st 1 28),(cT st 1 29),(cT st 1 30),(cT st 1 31),(cT st 1 32),(cT st 1 33),(cT st 1 34),(cT st 1 35),(cT st 1 36),(cT st 1 37),(cT st 1 38),(cT st 1 39),(cT st 1 40),(cT st 1 41),(cT st 1 42),(cT st 1 43),(cT st 1 44),(cT st 1 45),(cT st 1 46),(cT st 1 47),(cT st 1 48)]]⟩,⟨true,41,49, .gen [[(cT st 2 0),(cT st 2 1),(cT st 2 2),(cT st 2 3),(cT st 2 4),(cT st 2 5),(cT st 2 6),(cT st 2 7),(cT st 2 8),(cT st 2 9),(cT st 2 10),(cT st 2 11),(cT st 2 12),(cT st 2 13),(cT st 2 14),(cT st 2 15),(cT st 2 16),(cT st 2 17),(cT st 2 18),(cT st 2 19),(cT st 2 20),(cT st 2 21),(cT st 2 22),(cT st 2 23),(cT st 2 24),(cT st 2 25),(cT st 2 26),(cT st 2 27),(cT st 2 28),(cT st 2 29),(cT st 2 30),(cT st 2 31),(cT st 2 32),(cT st 2 33),(cT st 2 34),(cT st 2 35),(cT st 2 36),(cT st 2 37),(cT st 2 38),(cT st 2 39),(cT st 2 40),(cT st 2 41),(cT st 2 42),(cT st 2 43),(cT st 2 44),(cT st 2 45),(cT st 2 46),(cT st 2 47),(cT st 2 48)]]⟩])
 a0:=λst=>(lk st 15).toInt
 ex0:=λst=>[]++[(Q0r (lk st 1) (st.rows.length+0)),(Q0r (lk st 2) (st.rows.length+1))]
 next:=λst=>(lk st 15).toInt
 ex:=λst=>[]++[(Q0r (lk st 1) (st.rows.length+0)),(Q0r (lk st 2) (st.rows.length+1))]}
def Qqs:List (Nat×LInv):=[(6,Qx4)]
def Z1h:Q0c:=Q0c.fz<|mkP 106 [] false [.agg Q00.sig] [] (λargs rows=>Q9x (Q00.of (args.getD 0 .dead).cells)) (λargs rows=>Q0p (Q00.of (args.getD 0 .dead).cells)) (λX=> .agg (Q00.cells X)) (λX=>[])
theorem Qlp:Q05 Tryz.prog Z1h:=fz_ok<|Q0n Q0j Q0k (.cons Qip (.cons Qgx (.nil))) Tryz.func106 Tryz.call106 (λargs rows=>Q2l (Q00.of (args.getD 0 .dead).cells)) [.sl (.ints .u32) false] Qqs 3 (λ_ _ _=>by kernel_rfl) (λ_ _=>rfl) (λ_ _ h=>h) (λh=>by cases h)
def Q8t(c:Q0b)(port:Int):Tree (Q0b×Int):=
.br (port==0) (.br (decide (c.D3=[])) (.lf (c,4294967295)) (.cn (decide ((0:Int)<=(0:Int)/\0<(c.D3.length:Int))) (.cn (decide ((0:Int)<=(1:Int)/\1<=(c.D3.length:Int)/\(c.D3.length:Int)<=(c.D3.length:Int))) (.lf ({D3:=List.take (Int.toNat (c.D3.length:Int)-Int.toNat 1) (List.drop (Int.toNat 1) c.D3)},wrap u32 (↑(UInt8.toNat (c.D3.getD (Int.toNat 0) (0:UInt8))):Int)))))) (.br (port==1) (.lf (c,wrap u32 (c.D3.length:Int))) (.lf (c,0)))
def Qoa(c:Q0b)(port:Int):(Q0b×Int):=(Q8t c port).m
theorem Z36(c:Q0b)(port:Int):(Q8t c port).p:=by
 unfold Tree.p Q8t
 repeat'(first|exact trivial|refine w_br (λ_=> ?_) (λ_=> ?_)|refine w_cn ?_ ?_|refine w_an ?_ ?_|refine w_lv (λ_ _=> ?_)|refine w_nx ?_|refine w_lf ?_|refine And.intro ?_ ?_)
 all_goals(((subst_vars;first|trivial|assumption|omega|((simp(config:={decide:=true,failIfUnchanged:=false}) only[Bool.and_eq_true,Bool.or_eq_true,Bool.and_eq_false_iff,Bool.or_eq_false_iff,Bool.not_eq_true',Bool.not_eq_false',Bool.not_eq_true,Bool.not_eq_false,decide_eq_true_eq,decide_eq_false_iff_not,Q4i,Q2t,Q4e,Q2s,beq_iff_eq,beq_eq_false_iff_ne,bne_iff_ne,bne_eq_false_iff_eq,ne_eq,List.all_cons,List.all_nil,D.plain,List.length_cons,List.length_nil,List.length_append,List.length_set,List.length_replicate,IntKind.wrap_i64,IntKind.wrap_u64,IntKind.wrap_u32,IntKind.wrap_i32,IntKind.wrap_u8,true_and,and_true,or_false,false_or,or_true,true_or,not_true_eq_false,not_false_eq_true,Prod.fst,Prod.snd]at*);first|done|assumption|omega)|((simp(config:={decide:=true,failIfUnchanged:=false}) only[Bool.and_eq_true,Bool.or_eq_true,Bool.and_eq_false_iff,Bool.or_eq_false_iff,Bool.not_eq_true',Bool.not_eq_false',Bool.not_eq_true,Bool.not_eq_false,decide_eq_true_eq,decide_eq_false_iff_not,Q4i,Q2t,Q4e,Q2s,beq_iff_eq,beq_eq_false_iff_ne,bne_iff_ne,bne_eq_false_iff_eq,ne_eq,List.all_cons,List.all_nil,D.plain,List.length_cons,List.length_nil,List.length_append,List.length_set,List.length_replicate,IntKind.wrap_i64,IntKind.wrap_u64,IntKind.wrap_u32,IntKind.wrap_i32,IntKind.wrap_u8,true_and,and_true,or_false,false_or,or_true,true_or,not_true_eq_false,not_false_eq_true,Prod.fst,Prod.snd]at*);simp only[<-List.length_pos_iff]at*;omega)|(simp_all;done)|(have:= @Qfb;simp_all;try omega))))
def Zdz:Q0c:=mkR 170 [] true [.agg Q0b.sig, .one (.int .i64)] [] (λargs rows=>Qoa (Q0b.of (args.getD 0 .dead).cells) (argI args 1)) (λX=> .tup [.agg (Q0b.cells (X.1)), .int .u32 (X.2)]) (λX=>[])
theorem Z8t:Q05 Tryz.prog Zdz:=Q0z Q0j Q0k (.nil) Tryz.func170 Tryz.call170 (λargs rows=>Q8t (Q0b.of (args.getD 0 .dead).cells) (argI args 1)) [] [] 2 (λ_ _ _=>by kernel_rfl) (λ_ _=>rfl) (λargs rows=>Z36 (Q0b.of (args.getD 0 .dead).cells) (argI args 1)) (λ_ X=>by kernel_rfl)
def Qol(t:Q0g):Tree Int:=
.br t.D5 (.lf 1) (.lf 0)
def Qyb(t:Q0g):Int:=(Qol t).m
def Zkj:Q0c:=mkR 171 [] true [.agg Q0g.sig] [] (λargs rows=>Qyb (Q0g.of (args.getD 0 .dead).cells)) (λX=> .int .u32 X) (λX=>[])
theorem Zf7:Q05 Tryz.prog Zkj:=Q0z Q0j Q0k (.nil) Tryz.func171 Tryz.call171 (λargs rows=>Qol (Q0g.of (args.getD 0 .dead).cells)) [] [] 2 (λ_ _ _=>by kernel_rfl) (λ_ _=>rfl) (λ_ _=>Tree.free_ok (by kernel_rfl)) (λ_ X=>by kernel_rfl)
def Qre(d0:Q0e)(port:Int):Tree Int:=
.br (port==4) (.lf d0.B9) (.br (port==5) (.lf d0.B4) (.br (port==6) (.lf (wrap u32 d0.C1)) (.lf 0)))
def Qtj(d0:Q0e)(port:Int):Int:=(Qre d0 port).m
def vA:Q0c:=mkR 172 [] true [.agg Q0e.sig, .one (.int .i64)] [] (λargs rows=>Qtj (Q0e.of (args.getD 0 .dead).cells) (argI args 1)) (λX=> .int .u32 X) (λX=>[])
theorem Zkf:Q05 Tryz.prog vA:=Q0z Q0j Q0k (.nil) Tryz.func172 Tryz.call172 (λargs rows=>Qre (Q0e.of (args.getD 0 .dead).cells) (argI args 1)) [] [] 2 (λ_ _ _=>by kernel_rfl) (λ_ _=>rfl) (λ_ _=>Tree.free_ok (by kernel_rfl)) (λ_ X=>by kernel_rfl)
def Qt9(n:Q0q)(port:Int):Tree Int:=
.br (port==7) (.lf n.B4) (.br (port==8) (.lf n.F2) (.br (port==9) (.br n.C7 (.br n.B8 (.lf (wrap u32 (wrap u32 ((0:Int)+(1:Int))+2))) (.lf (wrap u32 ((0:Int)+(1:Int))))) (.br n.B8 (.lf (wrap u32 ((0:Int)+(2:Int)))) (.lf 0))) (.lf 0)))
def Z1e(n:Q0q)(port:Int):Int:=(Qt9 n port).m
def xU:Q0c:=mkR 173 [] true [.agg Q0q.sig, .one (.int .i64)] [] (λargs rows=>Z1e (Q0q.of (args.getD 0 .dead).cells) (argI args 1)) (λX=> .int .u32 X) (λX=>[])
theorem qB:Q05 Tryz.prog xU:=Q0z Q0j Q0k (.nil) Tryz.func173 Tryz.call173 (λargs rows=>Qt9 (Q0q.of (args.getD 0 .dead).cells) (argI args 1)) [] [] 2 (λ_ _ _=>by kernel_rfl) (λ_ _=>rfl) (λ_ _=>Tree.free_ok (by kernel_rfl)) (λ_ X=>by kernel_rfl)
def Qb9(b:Q07)(port:Int):Tree Int:=
.br (port==10) (.lf b.D0) (.br (port==11) (.an (Qcw b) (.lv (Qc6 b) λ(x0:Int)=> .lf (wrap u32 x0))) (.lf 0))
def Qoi(b:Q07)(port:Int):Int:=(Qb9 b port).m
abbrev Qp9(b:Q07)(port:Int):Prop:=(Qb9 b port).p
def Z9m:Q0c:=mkP 174 [] true [.agg Q07.sig, .one (.int .i64)] [] (λargs rows=>Qp9 (Q07.of (args.getD 0 .dead).cells) (argI args 1)) (λargs rows=>Qoi (Q07.of (args.getD 0 .dead).cells) (argI args 1)) (λX=> .int .u32 X) (λX=>[])
theorem Z7j:Q05 Tryz.prog Z9m:=Q0n Q0j Q0k (.cons Qlk (.nil)) Tryz.func174 Tryz.call174 (λargs rows=>Qb9 (Q07.of (args.getD 0 .dead).cells) (argI args 1)) [] [] 2 (λ_ _ _=>by kernel_rfl) (λ_ _=>rfl) (λ_ _ h=>h) (λ_ X=>by kernel_rfl)
def Q3(m:Q00)(port:Int)(clock:Int):Tree (Q00×Int):=
let T1:Tree ((Q00×Int)):= .lv (Qoa m.A3 port) λ(x0:Q0b×Int)=> .lf ({B2:=m.B2,Mem:=m.Mem,A3:=x0.1,B0:=m.B0,B1:=m.B1,C5:=m.C5,A2:=m.A2,A1:=m.A1,A4:=m.A4,A7:=m.A7},x0.2); .br (port==0) T1 (.br (port==1) T1 (.br (port==2) (.lf (m,clock)) (.br (port==3) (.lv (Qyb m.B0) λ(x2:Int)=> .lf (m,x2)) (.br (port==4) (.lv (Qtj m.B1 port) λ(x3:Int)=> .lf (m,x3)) (.br (port==5) (.lv (Qtj m.B1 port) λ(x4:Int)=> .lf (m,x4)) (.br (port==6) (.lv (Qtj m.B1 port) λ(x5:Int)=> .lf (m,x5)) (.br (port==7) (.lv (Z1e m.C5 port) λ(x6:Int)=> .lf (m,x6)) (.br (port==8) (.lv (Z1e m.C5 port) λ(x7:Int)=> .lf (m,x7)) (.br (port==9) (.lv (Z1e m.C5 port) λ(x8:Int)=> .lf (m,x8)) (let T2:Tree ((Q00×Int)):= .an (Qp9 m.A2 port) (.lv (Qoi m.A2 port) λ(x9:Int)=> .lf (m,x9)); .br (port==10) T2 (.br (port==11) T2 (.lf (m,0)))))))))))))
def Q10(m:Q00)(port:Int)(clock:Int):(Q00×Int):=(Q3 m port clock).m
abbrev Qfl(m:Q00)(port:Int)(clock:Int):Prop:=(Q3 m port clock).p
def Qr7:Q0c:=Q0c.fz<|mkP 125 [] false [.agg Q00.sig, .one (.int .i64), .one (.int .u32)] [] (λargs rows=>Qfl (Q00.of (args.getD 0 .dead).cells) (argI args 1) (argI args 2)) (λargs rows=>Q10 (Q00.of (args.getD 0 .dead).cells) (argI args 1) (argI args 2)) (λX=> .tup [.agg (Q00.cells (X.1)), .int .u32 (X.2)]) (λX=>[])
theorem Qpy:Q05 Tryz.prog Qr7:=fz_ok<|Q0n Q0j Q0k (.cons Z8t (.cons Zf7 (.cons Zkf (.cons qB (.cons Z7j (.nil)))))) Tryz.func125 Tryz.call125 (λargs rows=>Q3 (Q00.of (args.getD 0 .dead).cells) (argI args 1) (argI args 2)) [.sl (.ints .u32) false] [] 2 (λ_ _ _=>by kernel_rfl) (λ_ _=>rfl) (λ_ _ h=>h) (λh=>by cases h)
def Ql7(t:Q0g)(deadline:Int):Tree Q0g:=
.lf ({D2:=deadline !=0,C9:=deadline,D5:=false})
def Qjj(t:Q0g)(deadline:Int):Q0g:=(Ql7 t deadline).m
def Zga:Q0c:=mkR 175 [] true [.agg Q0g.sig, .one (.int .u32)] [] (λargs rows=>Qjj (Q0g.of (args.getD 0 .dead).cells) (argI args 1)) (λX=> .agg (Q0g.cells X)) (λX=>[])
theorem Zb7:Q05 Tryz.prog Zga:=Q0z Q0j Q0k (.nil) Tryz.func175 Tryz.call175 (λargs rows=>Ql7 (Q0g.of (args.getD 0 .dead).cells) (argI args 1)) [] [] 2 (λ_ _ _=>by kernel_rfl) (λ_ _=>rfl) (λ_ _=>Tree.free_ok (by kernel_rfl)) (λ_ X=>by kernel_rfl)
def Qc9(m:(List Int))(frame:Int):Tree Bool:=
.lv (Q0v m) λ(x0:Int)=> .lf (decide (wrap u64 frame<wrap u64 x0))
def Q97(m:(List Int))(frame:Int):Bool:=(Qc9 m frame).m
def Z86:Q0c:=mkR 166 [] true [.one (.ints .u32), .one (.int .u32)] [] (λargs rows=>Q97 (argL .u32 args 0) (argI args 1)) (λX=> .bool X) (λX=>[])
theorem Qp7:Q05 Tryz.prog Z86:=Q0z Q0j Q0k (.cons Q3t (.nil)) Tryz.func166 Tryz.call166 (λargs rows=>Qc9 (argL .u32 args 0) (argI args 1)) [] [] 2 (λ_ _ _=>by kernel_rfl) (λ_ _=>rfl) (λ_ _=>Tree.free_ok (by kernel_rfl)) (λ_ X=>by kernel_rfl)
def Q7s(m:(List Int))(frame:Int):Tree Bool:=
.br (decide (frame>=0)) (.lv (Q0v m) λ(x0:Int)=> .lf (decide (frame<x0))) (.lf false)
def Q4w(m:(List Int))(frame:Int):Bool:=(Q7s m frame).m
def Qxs:Q0c:=mkR 228 [] true [.one (.ints .u32), .one (.int .i64)] [] (λargs rows=>Q4w (argL .u32 args 0) (argI args 1)) (λX=> .bool X) (λX=>[])
theorem Qjp:Q05 Tryz.prog Qxs:=Q0z Q0j Q0k (.cons Q3t (.nil)) Tryz.func228 Tryz.call228 (λargs rows=>Q7s (argL .u32 args 0) (argI args 1)) [] [] 2 (λ_ _ _=>by kernel_rfl) (λ_ _=>rfl) (λ_ _=>Tree.free_ok (by kernel_rfl)) (λ_ X=>by kernel_rfl)
def Qm(words:(List Int))(z:(Int)×(List Int)):Prop:=0<=z.1/\z.1<=words.length/\(z.2.length:Int)=4*z.1
def Q6t(words:(List Int))(z:(Int)×(List Int)):Nat:=(words.length-z.1).toNat
def Q4p(words:(List Int)):Tree (List UInt8):=
.cn (Nat.blt 0 1&&Nat.beq 1 1&&List.all [D.int u8 0] D.plain&&decide ((0:Int)<=(0:Int)/\0<=wrap i64 (4*(words.length:Int))/\wrap i64 (4*(words.length:Int))<=9223372036854775807/\(↑1:Int)*wrap i64 (4*(words.length:Int))<=140737488355328)) (.lp inferInstance (Q6t words (0,[])+1) ((True/\((Els.Nil (Els.ints u32 words)\/rE (1:Nat))/\rE (words:List Int))/\rE ((words.length:Int):Int)/\rE (0:Int)/\True)/\rE ([]:List Int)/\True) (0,[]) λ(v0:Int×List Int)=> .br (decide (v0.1<(words.length:Int))) (.cn (Nat.beq 1 1&&Nat.blt 0 1&&decide (0<=v0.1/\v0.1<(words.length:Int))) (.cn (decide (1*(v0.2.length+4)<=140737488355328)) (let E1:=words.getD v0.1.toNat 0; .nx ((True/\((Els.Nil (Els.ints u32 words)\/rE (1:Nat))/\rE (words:List Int))/\rE ((words.length:Int):Int)/\rE ((wrap i64 (v0.1+1)):Int)/\True)/\rE ((v0.2++[wrap u8 (words.getD v0.1.toNat 0),wrap u8 (ishr u32 (words.getD v0.1.toNat 0) 8),wrap u8 (ishr u32 (words.getD v0.1.toNat 0) 16),wrap u8 (ishr u32 (words.getD v0.1.toNat 0) 24)]):List Int)/\True) (Sum.inl (wrap i64 (v0.1+1),v0.2++[wrap u8 E1,wrap u8 (ishr u32 E1 8),wrap u8 (ishr u32 E1 16),wrap u8 (ishr u32 E1 24)]))))) (.lf (Sum.inr (bytesOf v0.2))))
def Qyy(words:(List Int)):(List UInt8):=(Q4p words).m
def Qc7(words:(List Int)):Prop:=
words.length<=1000000000000
theorem Qz3(words:(List Int))(hw:Qc7 words):(Q4p words).p:=by
 simp only[Qc7]at hw
 unfold Tree.p Q4p
 repeat'(first|refine w_lp (inv:=Qm words) (μ:=Q6t words) ?_ (Nat.lt_succ_self _) (λ_ _=> ?_)|exact trivial|refine w_br (λ_=> ?_) (λ_=> ?_)|refine w_cn ?_ ?_|refine w_an ?_ ?_|refine w_lv (λ_ _=> ?_)|refine w_nx ?_|refine w_lf ?_|refine And.intro ?_ ?_)
 all_goals((try simp only[Qm,Q6t]at*);((subst_vars;first|trivial|assumption|omega|((simp(config:={decide:=true,failIfUnchanged:=false}) only[Bool.and_eq_true,Bool.or_eq_true,Bool.and_eq_false_iff,Bool.or_eq_false_iff,Bool.not_eq_true',Bool.not_eq_false',Bool.not_eq_true,Bool.not_eq_false,decide_eq_true_eq,decide_eq_false_iff_not,Q4i,Q2t,Q4e,Q2s,beq_iff_eq,beq_eq_false_iff_ne,bne_iff_ne,bne_eq_false_iff_eq,ne_eq,List.all_cons,List.all_nil,D.plain,List.length_cons,List.length_nil,List.length_append,List.length_set,List.length_replicate,IntKind.wrap_i64,IntKind.wrap_u64,IntKind.wrap_u32,IntKind.wrap_i32,IntKind.wrap_u8,true_and,and_true,or_false,false_or,or_true,true_or,not_true_eq_false,not_false_eq_true,Prod.fst,Prod.snd]at*);first|done|assumption|omega)|((simp(config:={decide:=true,failIfUnchanged:=false}) only[Bool.and_eq_true,Bool.or_eq_true,Bool.and_eq_false_iff,Bool.or_eq_false_iff,Bool.not_eq_true',Bool.not_eq_false',Bool.not_eq_true,Bool.not_eq_false,decide_eq_true_eq,decide_eq_false_iff_not,Q4i,Q2t,Q4e,Q2s,beq_iff_eq,beq_eq_false_iff_ne,bne_iff_ne,bne_eq_false_iff_eq,ne_eq,List.all_cons,List.all_nil,D.plain,List.length_cons,List.length_nil,List.length_append,List.length_set,List.length_replicate,IntKind.wrap_i64,IntKind.wrap_u64,IntKind.wrap_u32,IntKind.wrap_i32,IntKind.wrap_u8,true_and,and_true,or_false,false_or,or_true,true_or,not_true_eq_false,not_false_eq_true,Prod.fst,Prod.snd]at*);simp only[<-List.length_pos_iff]at*;omega)|(simp_all;done)|(have:= @Qfb;simp_all;try omega))))
def Z30:LInv:={
 α:=(Int)×(List Int)
 F:=λst a=>([(3, .all 0),(10,(lk st 10)),(11,(lk st 11)),(12, .int i64 a.1)],[⟨false,5,1, .ints u8 a.2⟩])
 a0:=λst=>((lk st 12).toInt,(Q45 st.rows (rN st 3)))
 ex0:=λst=>[]++[(Q0r (lk st 3) (st.rows.length+0))]
 next:=λst=>((lk st 12).toInt,(Q45 st.rows (rN st 3)))
 ex:=λst=>[]++[(Q0r (lk st 3) (st.rows.length+0))]}
def Qxi:List (Nat×LInv):=[(3,Z30)]
def Z7f:Q0c:=mkP 229 [] true [.one (.ints .u32)] [] (λargs rows=>Qc7 (argL .u32 args 0)) (λargs rows=>Qyy (argL .u32 args 0)) (λX=> .str X) (λX=>[])
theorem Z41:Q05 Tryz.prog Z7f:=Q0n Q0j Q0k (.nil) Tryz.func229 Tryz.call229 (λargs rows=>Q4p (argL .u32 args 0)) [] Qxi 3 (λ_ _ _=>by kernel_rfl) (λ_ _=>rfl) (λargs rows h=>Qz3 (argL .u32 args 0) h) (λ_ X=>by kernel_rfl)
def Q62(m:(List Int))(frame:Int):Tree ((List UInt8)×Bool):=
.lv (Q4w m frame) λ(x0:Bool)=> .br (!x0) (.lf ([],false)) (.cn (Nat.beq 1 1&&Nat.blt 0 1&&decide (0<=wrap i64 (frame*32)/\wrap i64 (frame*32)<=wrap i64 (wrap i64 (frame*32)+32)/\wrap i64 (wrap i64 (frame*32)+32)<=(m.length:Int))) (let E1:=List.take (Int.toNat (wrap i64 (wrap i64 (frame*32)+32))-Int.toNat (wrap i64 (frame*32))) (List.drop (Int.toNat (wrap i64 (frame*32))) m); .an (Qc7 E1) (.lv (Qyy E1) λ(x1:List UInt8)=> .lf (x1,true))))
def Q5e(m:(List Int))(frame:Int):((List UInt8)×Bool):=(Q62 m frame).m
abbrev Qbs(m:(List Int))(frame:Int):Prop:=(Q62 m frame).p
def Z7x:Q0c:=mkP 169 [] true [.one (.ints .u32), .one (.int .i64)] [] (λargs rows=>Qbs (argL .u32 args 0) (argI args 1)) (λargs rows=>Q5e (argL .u32 args 0) (argI args 1)) (λX=> .tup [.str (X.1), .bool (X.2)]) (λX=>[])
theorem Qja:Q05 Tryz.prog Z7x:=Q0n Q0j Q0k (.cons Qjp (.cons Z41 (.nil))) Tryz.func169 Tryz.call169 (λargs rows=>Q62 (argL .u32 args 0) (argI args 1)) [] [] 2 (λ_ _ _=>by kernel_rfl) (λ_ _=>rfl) (λ_ _ h=>h) (λ_ X=>by kernel_rfl)
def Qpq(d0:Q0e)(at0:Int):Tree (Q02×Bool):=
.br (d0.C1 !=1) (.lf ({B5:=0,At:=0,B9:=0,C8:=[]},false)) (.br (d0.D8==1) (.lf ({B5:=3,At:=at0,B9:=d0.B7,C8:=[]},true)) (.br (d0.D8==2) (.lf ({B5:=4,At:=at0,B9:=d0.B7,C8:=d0.C3},true)) (.lf ({B5:=0,At:=0,B9:=0,C8:=[]},false))))
def Qir(d0:Q0e)(at0:Int):(Q02×Bool):=(Qpq d0 at0).m
def Z3l:Q0c:=mkR 263 [] true [.agg Q0e.sig, .one (.int .u64)] [] (λargs rows=>Qir (Q0e.of (args.getD 0 .dead).cells) (argI args 1)) (λX=> .tup [.agg (Q02.cells (X.1)), .bool (X.2)]) (λX=>[])
theorem Qzj:Q05 Tryz.prog Z3l:=Q0z Q0j Q0k (.nil) Tryz.func263 Tryz.call263 (λargs rows=>Qpq (Q0e.of (args.getD 0 .dead).cells) (argI args 1)) [] [] 2 (λ_ _ _=>by kernel_rfl) (λ_ _=>rfl) (λ_ _=>Tree.free_ok (by kernel_rfl)) (λ_ X=>by kernel_rfl)
def Qb7(d0:Q0e)(m:(List Int))(cmd:Int)(at0:Int):Tree (Q0e×(List Q02)):=
.br (d0.C1 !=0) (.lf (d0,[])) (let T1:Tree ((Q0e×(List Q02))):= .lf ({Blocks:=d0.Blocks,B9:=d0.B9,B4:=d0.B4,C1:=3,D8:=d0.D8,B7:=d0.B7,B3:=d0.B3,C3:=d0.C3},[]); .br (decide (d0.B9>=d0.Blocks)) T1 (.lv (Q97 m d0.B4) λ(x0:Bool)=> .br (!x0) T1 (.br (cmd==2) (.an (Qbs m (wrap i64 d0.B4)) (.lv (Q5e m (wrap i64 d0.B4)) λ(x1:List UInt8×Bool)=>let E2:=({Blocks:=d0.Blocks,B9:=d0.B9,B4:=d0.B4,C1:=1,D8:=cmd,B7:=d0.B9,B3:=d0.B4,C3:=x1.1}:Q0e); .lv (Qir E2 at0) λ(x2:Q02×Bool)=> .lf (E2,[x2.1]))) (let E3:=({Blocks:=d0.Blocks,B9:=d0.B9,B4:=d0.B4,C1:=1,D8:=cmd,B7:=d0.B9,B3:=d0.B4,C3:=[]}:Q0e); .lv (Qir E3 at0) λ(x3:Q02×Bool)=> .lf (E3,[x3.1])))))
def Qtw(d0:Q0e)(m:(List Int))(cmd:Int)(at0:Int):(Q0e×(List Q02)):=(Qb7 d0 m cmd at0).m
abbrev Qpn(d0:Q0e)(m:(List Int))(cmd:Int)(at0:Int):Prop:=(Qb7 d0 m cmd at0).p
def Zal:Q0c:=mkP 230 [] true [.agg Q0e.sig, .one (.ints .u32), .one (.int .i64), .one (.int .u64)] [] (λargs rows=>Qpn (Q0e.of (args.getD 0 .dead).cells) (argL .u32 args 1) (argI args 2) (argI args 3)) (λargs rows=>Qtw (Q0e.of (args.getD 0 .dead).cells) (argL .u32 args 1) (argI args 2) (argI args 3)) (λX=> .tup [.agg (Q0e.cells (X.1)), .sl 4 (.recs .apiOutput (X.2)) true]) (λX=>[])
theorem Z7d:Q05 Tryz.prog Zal:=Q0n Q0j Q0k (.cons Qp7 (.cons Qja (.cons Qzj (.nil)))) Tryz.func230 Tryz.call230 (λargs rows=>Qb7 (Q0e.of (args.getD 0 .dead).cells) (argL .u32 args 1) (argI args 2) (argI args 3)) [.sl (.recs .apiOutput) true] [] 2 (λ_ _ _=>by kernel_rfl) (λ_ _=>rfl) (λ_ _ h=>h) (λ_ X=>by kernel_rfl)
def Qgh(d0:Q0e)(m:(List Int))(port:Int)(v:Int)(at0:Int):Tree (Q0e×(List Q02)):=
.br (port==4) (.lf ({Blocks:=d0.Blocks,B9:=v,B4:=d0.B4,C1:=d0.C1,D8:=d0.D8,B7:=d0.B7,B3:=d0.B3,C3:=d0.C3},[])) (.br (port==5) (.lf ({Blocks:=d0.Blocks,B9:=d0.B9,B4:=v,C1:=d0.C1,D8:=d0.D8,B7:=d0.B7,B3:=d0.B3,C3:=d0.C3},[])) (.br (port==6) (let T1:Tree ((Q0e×(List Q02))):= .an (Qpn d0 m (wrap i64 v) at0) (.lv (Qtw d0 m (wrap i64 v) at0) λ(x0:Q0e×List Q02)=> .lf (x0.1,x0.2)); .br (v==1) T1 (.br (v==2) T1 (.br (v==0) (.lv (Q9i d0) λ(x2:Bool)=> .br x2 (.lf ({Blocks:=d0.Blocks,B9:=d0.B9,B4:=d0.B4,C1:=0,D8:=d0.D8,B7:=d0.B7,B3:=d0.B3,C3:=d0.C3},[])) (.lf (d0,[]))) (.lf (d0,[]))))) (.lf (d0,[]))))
def Qy6(d0:Q0e)(m:(List Int))(port:Int)(v:Int)(at0:Int):(Q0e×(List Q02)):=(Qgh d0 m port v at0).m
abbrev Qw0(d0:Q0e)(m:(List Int))(port:Int)(v:Int)(at0:Int):Prop:=(Qgh d0 m port v at0).p
def Zjg:Q0c:=mkP 176 [] true [.agg Q0e.sig, .one (.ints .u32), .one (.int .i64), .one (.int .u32), .one (.int .u64)] [] (λargs rows=>Qw0 (Q0e.of (args.getD 0 .dead).cells) (argL .u32 args 1) (argI args 2) (argI args 3) (argI args 4)) (λargs rows=>Qy6 (Q0e.of (args.getD 0 .dead).cells) (argL .u32 args 1) (argI args 2) (argI args 3) (argI args 4)) (λX=> .tup [.agg (Q0e.cells (X.1)), .sl 4 (.recs .apiOutput (X.2)) true]) (λX=>[])
theorem Zfp:Q05 Tryz.prog Zjg:=Q0n Q0j Q0k (.cons Z7d (.cons Qmj (.nil))) Tryz.func176 Tryz.call176 (λargs rows=>Qgh (Q0e.of (args.getD 0 .dead).cells) (argL .u32 args 1) (argI args 2) (argI args 3) (argI args 4)) [.sl (.recs .apiOutput) true] [] 2 (λ_ _ _=>by kernel_rfl) (λ_ _=>rfl) (λ_ _ h=>h) (λ_ X=>by kernel_rfl)
def Qer(m:(List Int))(frame:Int):Tree Bool:=
.lv (Q0v m) λ(x0:Int)=> .lf (decide (wrap u64 frame<wrap u64 x0))
def Q9t(m:(List Int))(frame:Int):Bool:=(Qer m frame).m
def Zdl:Q0c:=mkR 168 [] true [.one (.ints .u32), .one (.int .u32)] [] (λargs rows=>Q9t (argL .u32 args 0) (argI args 1)) (λX=> .bool X) (λX=>[])
theorem Ql9:Q05 Tryz.prog Zdl:=Q0z Q0j Q0k (.cons Q3t (.nil)) Tryz.func168 Tryz.call168 (λargs rows=>Qer (argL .u32 args 0) (argI args 1)) [] [] 2 (λ_ _ _=>by kernel_rfl) (λ_ _=>rfl) (λ_ _=>Tree.free_ok (by kernel_rfl)) (λ_ X=>by kernel_rfl)
def Qge(n:Q0q)(m:(List Int))(at0:Int):Tree (List Q02):=
.br (decide (n.F0<1)) (.lf ([])) (.br (decide (n.F0>128)) (.lf ([])) (.lv (Q9t m n.B4) λ(x0:Bool)=> .br (!x0) (.lf ([])) (.an (Qbs m (wrap i64 n.B4)) (.lv (Q5e m (wrap i64 n.B4)) λ(x1:List UInt8×Bool)=> .cn (decide ((0:Int)<=(0:Int)/\0<=n.F0/\n.F0<=(x1.1.length:Int))) (.lf ([{B5:=2,At:=at0,B9:=0,C8:=List.take (Int.toNat n.F0-Int.toNat 0) (List.drop (Int.toNat 0) x1.1)}]))))))
def Z80(n:Q0q)(m:(List Int))(at0:Int):(List Q02):=(Qge n m at0).m
abbrev Qvz(n:Q0q)(m:(List Int))(at0:Int):Prop:=(Qge n m at0).p
def Zks:Q0c:=mkP 231 [] true [.agg Q0q.sig, .one (.ints .u32), .one (.int .u64)] [] (λargs rows=>Qvz (Q0q.of (args.getD 0 .dead).cells) (argL .u32 args 1) (argI args 2)) (λargs rows=>Z80 (Q0q.of (args.getD 0 .dead).cells) (argL .u32 args 1) (argI args 2)) (λX=> .sl 4 (.recs .apiOutput X) true) (λX=>[])
theorem Zg9:Q05 Tryz.prog Zks:=Q0n Q0j Q0k (.cons Ql9 (.cons Qja (.nil))) Tryz.func231 Tryz.call231 (λargs rows=>Qge (Q0q.of (args.getD 0 .dead).cells) (argL .u32 args 1) (argI args 2)) [.sl (.recs .apiOutput) true] [] 2 (λ_ _ _=>by kernel_rfl) (λ_ _=>rfl) (λ_ _ h=>h) (λ_ X=>by kernel_rfl)
def Qjo(n:Q0q)(m:(List Int))(port:Int)(v:Int)(at0:Int):Tree (Q0q×(List Q02)):=
.br (port==7) (.lf ({B4:=v,F0:=n.F0,C7:=n.C7,C0:=n.C0,B8:=n.B8,F2:=n.F2},[])) (.br (port==8) (.lf ({B4:=n.B4,F0:=v,C7:=n.C7,C0:=n.C0,B8:=n.B8,F2:=n.F2},[])) (.br (port==9) (.br (v==1) (.an (Qvz n m at0) (.lv (Z80 n m at0) λ(x0:List Q02)=> .lf (n,x0))) (.br (v==2) (.lv (Q9t m n.B4) λ(x1:Bool)=> .br x1 (.br (!n.C7) (.br (!n.B8) (.lf ({B4:=n.B4,F0:=n.F0,C7:=true,C0:=n.B4,B8:=n.B8,F2:=n.F2},[])) (.lf (n,[]))) (.lf (n,[]))) (.lf (n,[]))) (.br (v==0) (.lf ({B4:=n.B4,F0:=n.F0,C7:=n.C7,C0:=n.C0,B8:=false,F2:=0},[])) (.lf (n,[]))))) (.lf (n,[]))))
def Z8g(n:Q0q)(m:(List Int))(port:Int)(v:Int)(at0:Int):(Q0q×(List Q02)):=(Qjo n m port v at0).m
abbrev Qz9(n:Q0q)(m:(List Int))(port:Int)(v:Int)(at0:Int):Prop:=(Qjo n m port v at0).p
def xB:Q0c:=mkP 177 [] true [.agg Q0q.sig, .one (.ints .u32), .one (.int .i64), .one (.int .u32), .one (.int .u64)] [] (λargs rows=>Qz9 (Q0q.of (args.getD 0 .dead).cells) (argL .u32 args 1) (argI args 2) (argI args 3) (argI args 4)) (λargs rows=>Z8g (Q0q.of (args.getD 0 .dead).cells) (argL .u32 args 1) (argI args 2) (argI args 3) (argI args 4)) (λX=> .tup [.agg (Q0q.cells (X.1)), .sl 4 (.recs .apiOutput (X.2)) true]) (λX=>[])
theorem Zl:Q05 Tryz.prog xB:=Q0n Q0j Q0k (.cons Zg9 (.cons Ql9 (.nil))) Tryz.func177 Tryz.call177 (λargs rows=>Qjo (Q0q.of (args.getD 0 .dead).cells) (argL .u32 args 1) (argI args 2) (argI args 3) (argI args 4)) [.sl (.recs .apiOutput) true] [] 2 (λ_ _ _=>by kernel_rfl) (λ_ _=>rfl) (λ_ _ h=>h) (λ_ X=>by kernel_rfl)
def Qa6(m:(List Int))(frame:Int)(s:(List UInt8))(z:(Int)×(List Int)):Nat:=(32-z.1).toNat
def Q33(m:(List Int))(frame:Int)(s:(List UInt8)):Tree ((List Int)×Bool):=
.an (Q06 m) (.lv (Q03 m) λ(x0:List Int)=> .lv (Q4w m frame) λ(x1:Bool)=> .br (!x1) (.lf (x0,false)) (.br ((s.length:Int) !=(128:Int)) (.lf (x0,false)) (.lp inferInstance (Qa6 m frame s (0,x0)+1) ((rE (s:List UInt8)/\True/\rE ((wrap i64 (frame*32)):Int)/\rE (0:Int)/\True)/\rE (x0:List Int)/\True) (0,x0) λ(v0:Int×List Int)=> .br (decide (v0.1<32)) (.cn (decide (0<=wrap i64 (4*v0.1)/\wrap i64 (4*v0.1)<=wrap i64 (wrap i64 (4*v0.1)+4)/\wrap i64 (wrap i64 (4*v0.1)+4)<=(s.length:Int))) (let E1:=List.take (Int.toNat (wrap i64 (wrap i64 (4*v0.1)+4))-Int.toNat (wrap i64 (4*v0.1))) (List.drop (Int.toNat (wrap i64 (4*v0.1))) s); .cn (decide ((0:Int)<=(0:Int)/\0<(↑(List.length E1):Int))) (.cn (decide ((0:Int)<=(1:Int)/\1<(↑(List.length E1):Int))) (.cn (decide ((0:Int)<=(2:Int)/\2<(↑(List.length E1):Int))) (.cn (decide ((0:Int)<=(3:Int)/\3<(↑(List.length E1):Int))) (.cn (Nat.beq 1 1&&Nat.blt 0 1&&decide (0<=wrap i64 (wrap i64 (frame*32)+v0.1)/\wrap i64 (wrap i64 (frame*32)+v0.1)<(v0.2.length:Int))) (.nx ((rE (s:List UInt8)/\True/\rE ((wrap i64 (frame*32)):Int)/\rE ((wrap i64 (v0.1+1)):Int)/\True)/\rE ((List.set v0.2 (Int.toNat (wrap i64 (wrap i64 (frame*32)+v0.1))) (ior u32 (ior u32 (ior u32 (wrap u32 (↑(UInt8.toNat (List.getD (List.take (Int.toNat (wrap i64 (wrap i64 (4*v0.1)+4))-Int.toNat (wrap i64 (4*v0.1))) (List.drop (Int.toNat (wrap i64 (4*v0.1))) s)) (Int.toNat 0) (0:UInt8))):Int)) (ishl u32 (wrap u32 (↑(UInt8.toNat (List.getD (List.take (Int.toNat (wrap i64 (wrap i64 (4*v0.1)+4))-Int.toNat (wrap i64 (4*v0.1))) (List.drop (Int.toNat (wrap i64 (4*v0.1))) s)) (Int.toNat 1) (0:UInt8))):Int)) 8)) (ishl u32 (wrap u32 (↑(UInt8.toNat (List.getD (List.take (Int.toNat (wrap i64 (wrap i64 (4*v0.1)+4))-Int.toNat (wrap i64 (4*v0.1))) (List.drop (Int.toNat (wrap i64 (4*v0.1))) s)) (Int.toNat 2) (0:UInt8))):Int)) 16)) (ishl u32 (wrap u32 (↑(UInt8.toNat (List.getD (List.take (Int.toNat (wrap i64 (wrap i64 (4*v0.1)+4))-Int.toNat (wrap i64 (4*v0.1))) (List.drop (Int.toNat (wrap i64 (4*v0.1))) s)) (Int.toNat 3) (0:UInt8))):Int)) 24))):List Int)/\True) (Sum.inl (wrap i64 (v0.1+1),List.set v0.2 (Int.toNat (wrap i64 (wrap i64 (frame*32)+v0.1))) (ior u32 (ior u32 (ior u32 (wrap u32 (↑(UInt8.toNat (List.getD E1 (Int.toNat 0) (0:UInt8))):Int)) (ishl u32 (wrap u32 (↑(UInt8.toNat (List.getD E1 (Int.toNat 1) (0:UInt8))):Int)) 8)) (ishl u32 (wrap u32 (↑(UInt8.toNat (List.getD E1 (Int.toNat 2) (0:UInt8))):Int)) 16)) (ishl u32 (wrap u32 (↑(UInt8.toNat (List.getD E1 (Int.toNat 3) (0:UInt8))):Int)) 24))))))))))) (.lf (Sum.inr (v0.2,true))))))
def Q2j(m:(List Int))(frame:Int)(s:(List UInt8)):((List Int)×Bool):=(Q33 m frame s).m
abbrev Q8d(m:(List Int))(frame:Int)(s:(List UInt8)):Prop:=(Q33 m frame s).p
def Qvc:LInv:={
 α:=(Int)×(List Int)
 F:=λst a=>([(2,(lk st 2)),(8, .all 0),(9,(lk st 9)),(26, .int i64 a.1)],[⟨false,23,1, .ints u32 a.2⟩])
 a0:=λst=>((lk st 26).toInt,(Q45 st.rows (rN st 8)))
 ex0:=λst=>[]++[(Q0r (lk st 8) (st.rows.length+0))]
 next:=λst=>((lk st 26).toInt,(Q45 st.rows (rN st 8)))
 ex:=λst=>[]++[(Q0r (lk st 8) (st.rows.length+0))]}
def Qqr:List (Nat×LInv):=[(6,Qvc)]
def Qy:Q0c:=mkP 167 [] true [.one (.ints .u32), .one (.int .i64), .one (.str)] [] (λargs rows=>Q8d (argL .u32 args 0) (argI args 1) (argS args 2)) (λargs rows=>Q2j (argL .u32 args 0) (argI args 1) (argS args 2)) (λX=> .tup [.all 0, .bool (X.2)]) (λX=>[⟨false,23,1, .ints .u32 (X.1)⟩])
theorem Qdd:Q05 Tryz.prog Qy:=Q0n Q0j Q0k (.cons Q0w (.cons Qjp (.nil))) Tryz.func167 Tryz.call167 (λargs rows=>Q33 (argL .u32 args 0) (argI args 1) (argS args 2)) [.row 23 1 (.ints .u32)] Qqr 3 (λ_ _ _=>by kernel_rfl) (λ_ _=>rfl) (λ_ _ h=>h) (λ_ X=>by kernel_rfl)
def strings_Repeat(s:(List UInt8))(count:Int):(List UInt8):=
Lib.repeatL s count.toNat
def Qcg(s:(List UInt8))(count:Int):Prop:=
0<=count/\count<=9223372036854775807/\s.length*count.toNat<=140737488355328
def Qgp(s:(List UInt8))(count:Int):List D:=[.str s, .int .i64 count]
def Qh0(s:(List UInt8))(count:Int):List Row:=[]
def Qby(X:(List UInt8)):D:= .str X
def Qbp(X:(List UInt8)):List Row:=[]
def Qiq:List PT:=[.one (.str), .one (.int .i64)]
def Qht:List RT:=[]
def Qs9(args:List D)(rows:List Row):(List UInt8):=strings_Repeat (argS args 0) (argI args 1)
def Qrm(args:List D)(rows:List Row):Prop:=Qcg (argS args 0) (argI args 1)
def Qx:Q0c:=mkP 232 [] true Qiq Qht Qrm Qs9 Qby Qbp
theorem Qow(s:(List UInt8))(count:Int)(hw:Qcg s count):Q3y Tryz.prog 232 (Qgp s count) (Qh0 s count) (Qby (strings_Repeat s count)) (Qbp (strings_Repeat s count)):=by
 exact zq Tryz.strings_Repeat hw.1 hw.2.1 hw.2.2
set_option maxRecDepth 100000 in
theorem Qq4(args:List D)(rows:List Row):Qib Qiq args 0=Qgp (argS args 0) (argI args 1):=by kernel_rfl
set_option maxRecDepth 100000 in
theorem Qos(args:List D)(rows:List Row):Q74 Qht rows 0=Qh0 (argS args 0) (argI args 1):=by kernel_rfl
set_option maxRecDepth 100000 in
theorem Qun(X:(List UInt8)):(ffB (Qby X)&&ffBR (Qbp X))=true:=by kernel_rfl
theorem Qu4:Q05 Tryz.prog Qx:=Z5b Tryz.call232 (λargs rows hp=>by rw[Qq4 args rows,Qos args rows];exact Qow (argS args 0) (argI args 1) hp) (λ_ X=>Qun X)
def Q3p(b:Q07)(m:(List Int))(port:Int)(v:Int):Tree (Q07×(List Int)):=
let T1:Tree ((Q07×(List Int))):= .an (Q06 m) (.lv (Q03 m) λ(x0:List Int)=> .lf (b,x0)); .br (decide (v>=32)) T1 (.cn (decide (0<=v)) (.br (port==10) (.lv (Q0v m) λ(x1:Int)=> .br (decide (wrap i64 v<x1)) (.br (iand u32 b.C2 (ishl u32 1 v)==0) (.an (Qcg [(0:UInt8)] 128) (.lv (strings_Repeat [(0:UInt8)] 128) λ(x2:List UInt8)=> .an (Q8d m (wrap i64 v) x2) (.lv (Q2j m (wrap i64 v) x2) λ(x3:List Int×Bool)=> .lf ({D0:=b.D0,C2:=ior u32 b.C2 (ishl u32 1 v)},x3.1)))) T1) T1) (.br (port==11) (.an (Q06 m) (.lv (Q03 m) λ(x6:List Int)=> .lf ({D0:=b.D0,C2:=Qg1 u32 b.C2 (ishl u32 1 v)},x6))) T1)))
def Q7e(b:Q07)(m:(List Int))(port:Int)(v:Int):(Q07×(List Int)):=(Q3p b m port v).m
abbrev Qmu(b:Q07)(m:(List Int))(port:Int)(v:Int):Prop:=(Q3p b m port v).p
def Z9f:Q0c:=mkP 178 [] true [.agg Q07.sig, .one (.ints .u32), .one (.int .i64), .one (.int .u32)] [] (λargs rows=>Qmu (Q07.of (args.getD 0 .dead).cells) (argL .u32 args 1) (argI args 2) (argI args 3)) (λargs rows=>Q7e (Q07.of (args.getD 0 .dead).cells) (argL .u32 args 1) (argI args 2) (argI args 3)) (λX=> .tup [.agg (Q07.cells (X.1)), .all 0]) (λX=>[⟨false,23,1, .ints .u32 (X.2)⟩])
theorem Z38:Q05 Tryz.prog Z9f:=Q0n Q0j Q0k (.cons Q0w (.cons Q3t (.cons Qdd (.cons Qu4 (.nil))))) Tryz.func178 Tryz.call178 (λargs rows=>Q3p (Q07.of (args.getD 0 .dead).cells) (argL .u32 args 1) (argI args 2) (argI args 3)) [.row 23 1 (.ints .u32)] [] 2 (λ_ _ _=>by kernel_rfl) (λ_ _=>rfl) (λ_ _ h=>h) (λ_ X=>by kernel_rfl)
def Q3l(m:Q00)(port:Int)(v:Int)(at0:Int):Tree (Q00×(List Q02)):=
.br (port==0) (.lf (m,[{B5:=1,At:=at0,B9:=0,C8:=[(λ(n:Int)=>UInt8.ofNat n.toNat) (wrap u8 v)]}])) (.br (port==3) (.lv (Qjj m.B0 v) λ(x0:Q0g)=> .lf ({B2:=m.B2,Mem:=m.Mem,A3:=m.A3,B0:=x0,B1:=m.B1,C5:=m.C5,A2:=m.A2,A1:=m.A1,A4:=m.A4,A7:=m.A7},[])) (let T1:Tree ((Q00×(List Q02))):= .an (Qw0 m.B1 m.Mem port v at0) (.lv (Qy6 m.B1 m.Mem port v at0) λ(x1:Q0e×List Q02)=> .lf ({B2:=m.B2,Mem:=m.Mem,A3:=m.A3,B0:=m.B0,B1:=x1.1,C5:=m.C5,A2:=m.A2,A1:=m.A1,A4:=m.A4,A7:=m.A7},x1.2)); .br (port==4) T1 (.br (port==5) T1 (.br (port==6) T1 (let T2:Tree ((Q00×(List Q02))):= .an (Qz9 m.C5 m.Mem port v at0) (.lv (Z8g m.C5 m.Mem port v at0) λ(x4:Q0q×List Q02)=> .lf ({B2:=m.B2,Mem:=m.Mem,A3:=m.A3,B0:=m.B0,B1:=m.B1,C5:=x4.1,A2:=m.A2,A1:=m.A1,A4:=m.A4,A7:=m.A7},x4.2)); .br (port==7) T2 (.br (port==8) T2 (.br (port==9) T2 (let T3:Tree ((Q00×(List Q02))):= .an (Qmu m.A2 m.Mem port v) (.lv (Q7e m.A2 m.Mem port v) λ(x7:Q07×List Int)=> .lf ({B2:=m.B2,Mem:=x7.2,A3:=m.A3,B0:=m.B0,B1:=m.B1,C5:=m.C5,A2:=x7.1,A1:=m.A1,A4:=m.A4,A7:=m.A7},[])); .br (port==10) T3 (.br (port==11) T3 (.lf (m,[])))))))))))
def Q2a(m:Q00)(port:Int)(v:Int)(at0:Int):(Q00×(List Q02)):=(Q3l m port v at0).m
abbrev Qe1(m:Q00)(port:Int)(v:Int)(at0:Int):Prop:=(Q3l m port v at0).p
def Qqh:Q0c:=Q0c.fz<|mkP 126 [] false [.agg Q00.sig, .one (.int .i64), .one (.int .u32), .one (.int .u64)] [] (λargs rows=>Qe1 (Q00.of (args.getD 0 .dead).cells) (argI args 1) (argI args 2) (argI args 3)) (λargs rows=>Q2a (Q00.of (args.getD 0 .dead).cells) (argI args 1) (argI args 2) (argI args 3)) (λX=> .tup [.agg (Q00.cells (X.1)), .sl 4 (.recs .apiOutput (X.2)) true]) (λX=>[])
theorem Qoy:Q05 Tryz.prog Qqh:=fz_ok<|Q0n Q0j Q0k (.cons Zb7 (.cons Zfp (.cons Zl (.cons Z38 (.nil))))) Tryz.func126 Tryz.call126 (λargs rows=>Q3l (Q00.of (args.getD 0 .dead).cells) (argI args 1) (argI args 2) (argI args 3)) [.sl (.ints .u32) false, .sl (.recs .apiOutput) true] [] 2 (λ_ _ _=>by kernel_rfl) (λ_ _=>rfl) (λ_ _ h=>h) (λh=>by cases h)
def Q2k(m:Q00)(clock:Int):Tree (Q00×(List Q02)):=
.an (Q06 m.Mem) (.lv (Q03 m.Mem) λ(x0:List Int)=>let E1:=({B2:=m.B2,Mem:=x0,A3:=m.A3,B0:=m.B0,B1:=m.B1,C5:=m.C5,A2:=m.A2,A1:=m.A1,A4:=m.A4,A7:=m.A7}:Q00); .an (Qam E1) (.lv (Q25 E1) λ(x1:Bool)=> .br (!x1) (.lf (E1,[])) (.an (Q9x E1) (.lv (Q0p E1) λ(x2:Q00)=> .an (Qik x2.B2 x2.Mem) (.lv (Q4u x2.B2 x2.Mem) λ(x3:Q04×List Int×Q11)=>let E2:=({B2:=x3.1,Mem:=x3.2.1,A3:=x2.A3,B0:=x2.B0,B1:=x2.B1,C5:=x2.C5,A2:=x2.A2,A1:=x2.A1,A4:=x2.A4,A7:=x2.A7}:Q00); .br (x3.2.2.B5==1) (.an (Qfl E2 x3.2.2.D1 clock) (.lv (Q10 E2 x3.2.2.D1 clock) λ(x4:Q00×Int)=> .br (x3.2.2.E0 !=0) (.cn (Nat.blt 0 1&&decide (0<=x3.2.2.E0/\x3.2.2.E0<(↑16:Int))) (.lf ({B2:={X:=A16.of 0 (List.set (A16.l x4.1.B2.X) x3.2.2.E0.toNat x4.2),Pc:=x4.1.B2.Pc,B6:=x4.1.B2.B6},Mem:=x4.1.Mem,A3:=x4.1.A3,B0:=x4.1.B0,B1:=x4.1.B1,C5:=x4.1.C5,A2:=x4.1.A2,A1:=wrap u64 (x4.1.A1+1),A4:=x4.1.A4,A7:=x4.1.A7},[]))) (.lf ({B2:=x4.1.B2,Mem:=x4.1.Mem,A3:=x4.1.A3,B0:=x4.1.B0,B1:=x4.1.B1,C5:=x4.1.C5,A2:=x4.1.A2,A1:=wrap u64 (x4.1.A1+1),A4:=x4.1.A4,A7:=x4.1.A7},[])))) (.br (x3.2.2.B5==2) (.an (Qe1 E2 x3.2.2.D1 x3.2.2.Value m.A1) (.lv (Q2a E2 x3.2.2.D1 x3.2.2.Value m.A1) λ(x5:Q00×List Q02)=> .lf ({B2:=x5.1.B2,Mem:=x5.1.Mem,A3:=x5.1.A3,B0:=x5.1.B0,B1:=x5.1.B1,C5:=x5.1.C5,A2:=x5.1.A2,A1:=wrap u64 (x5.1.A1+1),A4:=x5.1.A4,A7:=x5.1.A7},x5.2))) (.br (x3.2.2.B5==3) (.lf ({B2:=x3.1,Mem:=x3.2.1,A3:=x2.A3,B0:=x2.B0,B1:=x2.B1,C5:=x2.C5,A2:=x2.A2,A1:=wrap u64 (x2.A1+1),A4:=true,A7:=x2.A7},[])) (.br (x3.2.2.B5==4) (.lf ({B2:=x3.1,Mem:=x3.2.1,A3:=x2.A3,B0:=x2.B0,B1:=x2.B1,C5:=x2.C5,A2:=x2.A2,A1:=wrap u64 (x2.A1+1),A4:=x2.A4,A7:=true},[])) (.lf ({B2:=x3.1,Mem:=x3.2.1,A3:=x2.A3,B0:=x2.B0,B1:=x2.B1,C5:=x2.C5,A2:=x2.A2,A1:=wrap u64 (x2.A1+1),A4:=x2.A4,A7:=x2.A7},[]))))))))))
def Q27(m:Q00)(clock:Int):(Q00×(List Q02)):=(Q2k m clock).m
abbrev Q7p(m:Q00)(clock:Int):Prop:=(Q2k m clock).p
def Z26:Q0c:=Q0c.fz<|mkP 58 [] false [.agg Q00.sig, .one (.int .u32)] [] (λargs rows=>Q7p (Q00.of (args.getD 0 .dead).cells) (argI args 1)) (λargs rows=>Q27 (Q00.of (args.getD 0 .dead).cells) (argI args 1)) (λX=> .tup [.agg (Q00.cells (X.1)), .sl 4 (.recs .apiOutput (X.2)) false]) (λX=>[])
theorem Qz8:Q05 Tryz.prog Z26:=fz_ok<|Q0n Q0j Q0k (.cons Q0w (.cons Qnf (.cons Qlp (.cons Qzl (.cons Qpy (.cons Qoy (.nil))))))) Tryz.func58 Tryz.call58 (λargs rows=>Q2k (Q00.of (args.getD 0 .dead).cells) (argI args 1)) [.sl (.ints .u32) false, .sl (.recs .apiOutput) false] [] 2 (λ_ _ _=>by kernel_rfl) (λ_ _=>rfl) (λ_ _ h=>h) (λh=>by cases h)
end
end Go.Proofs.YtjaifpiopmhmlaaGreat

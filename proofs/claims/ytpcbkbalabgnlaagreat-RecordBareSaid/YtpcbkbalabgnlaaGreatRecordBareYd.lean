/-
  Functions of the program: models, and that its calls come to them (by a program: gen3.py).
-/
import Derived.Test.YtpcbkbalabgnlaaGreatRecordBareBase
import Derived.Test.YtpcbkbalabgnlaaGreatRecordBareHand
import Derived.Test.YtpcbkbalabgnlaaGreatRecordBareYc
import Derived.Test.YtpcbkbalabgnlaaGreatRecordBareYb
import Derived.Test.YtpcbkbalabgnlaaGreatRecordBareYa
set_option maxRecDepth 100000
set_option linter.unusedVariables false
set_option linter.unusedSimpArgs false
namespace Go.Proofs.YtpcbkbalabgnlaaGreat
open Go Go.GD Go.IntKind
noncomputable section
def Q3q(m:Q00):Tree Bool:=
.an (Q3b m) (.lv (Q16 m) λ(x0:Bool)=> .br x0 (.br (!m.A9) (.an (Q2g m) (.lv (Q35 m) λ(x1:Bool)=> .br (!x1) (.lf (decide (m.A1<1152921504606846976))) (.lf false))) (.lf false)) (.lf false))
def Q2m(m:Q00):Bool:=(Q3q m).m
abbrev Q6t(m:Q00):Prop:=(Q3q m).p
def Z2n:Q0d:=mkP 96 [] true [.agg Q00.sig] [] (λargs rows=>Q6t (Q00.of (args.getD 0 .dead).cells)) (λargs rows=>Q2m (Q00.of (args.getD 0 .dead).cells)) (λX=> .bool X) (λX=>[])
theorem Qo2:Q07 Tryz.prog Z2n:=Q0p Q0j Q0k (.cons Qer (.cons Qic (.nil))) Tryz.func96 Tryz.call96 (λargs rows=>Q3q (Q00.of (args.getD 0 .dead).cells)) [] [] 2 (λ_ _ _=>by kernel_rfl) (λ_ _=>rfl) (λ_ _ h=>h) (λ_ X=>by kernel_rfl)
def Qc3(m:Q00)(z:(Int)):Nat:=(5-z).toNat
def Q2r(m:Q00):Tree Q00:=
let E1:=({B2:=m.B2,Mem:=m.Mem,A6:=m.A6,B0:=m.B0,B1:=m.B1,C5:=m.C5,A2:=m.A2,A1:=m.A1,A7:=false,A9:=m.A9}:Q00); .br (iand u32 m.B2.B6.a0 (2:Int)==(0:Int)) (.lf (E1)) (.an (Q4a E1) (.lv (Q6c E1) λ(x0:Int)=> .lp inferInstance (Qc3 m 0+1) (((rE (0:Nat)∧rE (0:Nat))∧(rE (0:Nat)∧rE (0:Nat))∧rE (x0:Int)∧rE (0:Int)∧True)∧(rE m.B2.X.a0∧rE m.B2.X.a1∧rE m.B2.X.a2∧rE m.B2.X.a3∧rE m.B2.X.a4∧rE m.B2.X.a5∧rE m.B2.X.a6∧rE m.B2.X.a7∧rE m.B2.X.a8∧rE m.B2.X.a9∧rE m.B2.X.a10∧rE m.B2.X.a11∧rE m.B2.X.a12∧rE m.B2.X.a13∧rE m.B2.X.a14∧rE m.B2.X.a15∧rE m.B2.Pc∧rE m.B2.B6.a0∧rE m.B2.B6.a1∧rE m.B2.B6.a2∧rE m.B2.B6.a3∧rE m.B2.B6.a4∧rE m.B2.B6.a5∧rE m.B2.B6.a6∧rE m.B2.B6.a7∧((Els.Nil (Els.ints u32 m.Mem)∨rE (1:Nat))∧rE m.Mem)∧rE m.A6.D3∧rE m.B0.D2∧rE m.B0.C8∧rE m.B0.D5∧rE m.B1.Blocks∧rE m.B1.C1∧rE m.B1.B4∧rE m.B1.C0∧rE m.B1.D8∧rE m.B1.B7∧rE m.B1.B3∧rE m.B1.C4∧rE m.C5.B4∧rE m.C5.E0∧rE m.C5.C7∧rE m.C5.B9∧rE m.C5.B8∧rE m.C5.F1∧rE m.A2.C9∧rE m.A2.C3∧rE m.A1∧rE (false:Bool)∧rE m.A9∧True)∧(mE zM True True)∧True) 0 λ(v0:Int)=> .br (decide (v0<5)) (.cn (decide (0≤v0)) (.br (iand u32 x0 (ishl u32 1 v0) !=0) (.lv (Q5 m.B2 (wrap i64 (16+v0)) 0) λ(x1:Q04)=> .lf (Sum.inr {B2:=x1,Mem:=m.Mem,A6:=m.A6,B0:=m.B0,B1:=m.B1,C5:=m.C5,A2:=m.A2,A1:=m.A1,A7:=false,A9:=m.A9})) (.nx (((rE (0:Nat)∧rE (0:Nat))∧(rE (0:Nat)∧rE (0:Nat))∧rE (x0:Int)∧rE ((wrap i64 (v0+1)):Int)∧True)∧(rE m.B2.X.a0∧rE m.B2.X.a1∧rE m.B2.X.a2∧rE m.B2.X.a3∧rE m.B2.X.a4∧rE m.B2.X.a5∧rE m.B2.X.a6∧rE m.B2.X.a7∧rE m.B2.X.a8∧rE m.B2.X.a9∧rE m.B2.X.a10∧rE m.B2.X.a11∧rE m.B2.X.a12∧rE m.B2.X.a13∧rE m.B2.X.a14∧rE m.B2.X.a15∧rE m.B2.Pc∧rE m.B2.B6.a0∧rE m.B2.B6.a1∧rE m.B2.B6.a2∧rE m.B2.B6.a3∧rE m.B2.B6.a4∧rE m.B2.B6.a5∧rE m.B2.B6.a6∧rE m.B2.B6.a7∧((Els.Nil (Els.ints u32 m.Mem)∨rE (1:Nat))∧rE m.Mem)∧rE m.A6.D3∧rE m.B0.D2∧rE m.B0.C8∧rE m.B0.D5∧rE m.B1.Blocks∧rE m.B1.C1∧rE m.B1.B4∧rE m.B1.C0∧rE m.B1.D8∧rE m.B1.B7∧rE m.B1.B3∧rE m.B1.C4∧rE m.C5.B4∧rE m.C5.E0∧rE m.C5.C7∧rE m.C5.B9∧rE m.C5.B8∧rE m.C5.F1∧rE m.A2.C9∧rE m.A2.C3∧rE m.A1∧rE (false:Bool)∧rE m.A9∧True)∧(mE zM True True)∧True) (Sum.inl (wrap i64 (v0+1)))))) (.lf (Sum.inr E1))))
def Q0r(m:Q00):Q00:=(Q2r m).m
abbrev Q6(m:Q00):Prop:=(Q2r m).p
def Qx9:LInv:={
 α:=(Int)
 F:=λst a=>([(1, .ptr 0 0 0),(2, .ptr 1 0 0),(3,(lk st 3)),(15, .int i64 a)],[⟨true,41,49, .gen [[(cT st 1 0),(cT st 1 1),(cT st 1 2),(cT st 1 3),(cT st 1 4),(cT st 1 5),(cT st 1 6),(cT st 1 7),(cT st 1 8),(cT st 1 9),(cT st 1 10),(cT st 1 11),(cT st 1 12),(cT st 1 13),(cT st 1 14),(cT st 1 15),(cT st 1 16),(cT st 1 17),(cT st 1 18),(cT st 1 19),(cT st 1 20),(cT st 1 21),(cT st 1 22),(cT st 1 23),(cT st 1 24),(cT st 1 25),(cT st 1 26),(cT st 1 27),(cT st 1 28),(cT st 1 29),(cT st 1 30),(cT st 1 31),(cT st 1 32),(cT st 1 33),(cT st 1 34),(cT st 1 35),(cT st 1 36),(cT st 1 37),(cT st 1 38),(cT st 1 39),(cT st 1 40),(cT st 1 41),(cT st 1 42),(cT st 1 43),(cT st 1 44),(cT st 1 45),(cT st 1 46),(cT st 1 47),(cT st 1 48)]]⟩,⟨true,41,49, .gen [[(cT st 2 0),(cT st 2 1),(cT st 2 2),(cT st 2 3),(cT st 2 4),(cT st 2 5),(cT st 2 6),(cT st 2 7),(cT st 2 8),(cT st 2 9),(cT st 2 10),(cT st 2 11),(cT st 2 12),(cT st 2 13),(cT st 2 14),(cT st 2 15),(cT st 2 16),(cT st 2 17),(cT st 2 18),(cT st 2 19),(cT st 2 20),(cT st 2 21),(cT st 2 22),(cT st 2 23),(cT st 2 24),(cT st 2 25),(cT st 2 26),(cT st 2 27),(cT st 2 28),(cT st 2 29),(cT st 2 30),(cT st 2 31),(cT st 2 32),(cT st 2 33),(cT st 2 34),(cT st 2 35),(cT st 2 36),(cT st 2 37),(cT st 2 38),(cT st 2 39),(cT st 2 40),(cT st 2 41),(cT st 2 42),(cT st 2 43),(cT st 2 44),(cT st 2 45),(cT st 2 46),(cT st 2 47),(cT st 2 48)]]⟩])
 a0:=λst=>(lk st 15).toInt
 ex0:=λst=>[]++[(Q0x (lk st 1) (st.rows.length+0)),(Q0x (lk st 2) (st.rows.length+1))]
 next:=λst=>(lk st 15).toInt
 ex:=λst=>[]++[(Q0x (lk st 1) (st.rows.length+0)),(Q0x (lk st 2) (st.rows.length+1))]}
def Qr5:List (Nat×LInv):=[(6,Qx9)]
def Z13:Q0d:=Q0d.fz<|mkP 97 [] false [.agg Q00.sig] [] (λargs rows=>Q6 (Q00.of (args.getD 0 .dead).cells)) (λargs rows=>Q0r (Q00.of (args.getD 0 .dead).cells)) (λX=> .agg (Q00.cells X)) (λX=>[])
theorem Qm1:Q07 Tryz.prog Z13:=Zjp<|Q0p Q0j Q0k (.cons Qjh (.cons Qhs (.nil))) Tryz.func97 Tryz.call97 (λargs rows=>Q2r (Q00.of (args.getD 0 .dead).cells)) [.sl (.ints .u32) false] Qr5 3 (λ_ _ _=>by kernel_rfl) (λ_ _=>rfl) (λ_ _ h=>h) (λh=>by cases h)
def Q9t(c:Q0b)(port:Int):Tree (Q0b×Int):=
.br (port==0) (.br (decide (c.D3=[])) (.lf (c,4294967295)) (.cn (decide ((0:Int)≤(0:Int)∧0<(c.D3.length:Int))) (.cn (decide ((0:Int)≤(1:Int)∧1≤(c.D3.length:Int)∧(c.D3.length:Int)≤(c.D3.length:Int))) (.lf ({D3:=List.take (Int.toNat (c.D3.length:Int)-Int.toNat 1) (List.drop (Int.toNat 1) c.D3)},wrap u32 (↑(UInt8.toNat (c.D3.getD (Int.toNat 0) (0:UInt8))):Int)))))) (.br (port==1) (.lf (c,wrap u32 (c.D3.length:Int))) (.lf (c,0)))
def Qok(c:Q0b)(port:Int):(Q0b×Int):=(Q9t c port).m
theorem Z2z(c:Q0b)(port:Int):(Q9t c port).p:=by
 unfold Tree.p Q9t
 repeat'(first|exact trivial|refine w_br (λ_=> ?_) (λ_=> ?_)|refine w_cn ?_ ?_|refine w_an ?_ ?_|refine w_lv (λ_ _=> ?_)|refine w_nx ?_|refine w_lf ?_|refine And.intro ?_ ?_)
 all_goals(((subst_vars;first|trivial|assumption|omega|((simp(config:={decide:=true,failIfUnchanged:=false}) only[Bool.and_eq_true,Bool.or_eq_true,Bool.and_eq_false_iff,Bool.or_eq_false_iff,Bool.not_eq_true',Bool.not_eq_false',Bool.not_eq_true,Bool.not_eq_false,decide_eq_true_eq,decide_eq_false_iff_not,Q57,Q3m,Q5a,Q3n,beq_iff_eq,beq_eq_false_iff_ne,bne_iff_ne,bne_eq_false_iff_eq,ne_eq,List.all_cons,List.all_nil,D.plain,List.length_cons,List.length_nil,List.length_append,List.length_set,List.length_replicate,IntKind.wrap_i64,IntKind.wrap_u64,IntKind.wrap_u32,IntKind.wrap_i32,IntKind.wrap_u8,true_and,and_true,or_false,false_or,or_true,true_or,not_true_eq_false,not_false_eq_true,Prod.fst,Prod.snd]at*);first|done|assumption|omega)|((simp(config:={decide:=true,failIfUnchanged:=false}) only[Bool.and_eq_true,Bool.or_eq_true,Bool.and_eq_false_iff,Bool.or_eq_false_iff,Bool.not_eq_true',Bool.not_eq_false',Bool.not_eq_true,Bool.not_eq_false,decide_eq_true_eq,decide_eq_false_iff_not,Q57,Q3m,Q5a,Q3n,beq_iff_eq,beq_eq_false_iff_ne,bne_iff_ne,bne_eq_false_iff_eq,ne_eq,List.all_cons,List.all_nil,D.plain,List.length_cons,List.length_nil,List.length_append,List.length_set,List.length_replicate,IntKind.wrap_i64,IntKind.wrap_u64,IntKind.wrap_u32,IntKind.wrap_i32,IntKind.wrap_u8,true_and,and_true,or_false,false_or,or_true,true_or,not_true_eq_false,not_false_eq_true,Prod.fst,Prod.snd]at*);simp only[←List.length_pos_iff]at*;omega)|(simp_all;done)|(have:= @Qg6;simp_all;try omega))))
def Zcn:Q0d:=mkR 137 [] true [.agg Q0b.sig, .one (.int .i64)] [] (λargs rows=>Qok (Q0b.of (args.getD 0 .dead).cells) (argI args 1)) (λX=> .tup [.agg (Q0b.cells (X.1)), .int .u32 (X.2)]) (λX=>[])
theorem Z76:Q07 Tryz.prog Zcn:=Q10 Q0j Q0k (.nil) Tryz.func137 Tryz.call137 (λargs rows=>Q9t (Q0b.of (args.getD 0 .dead).cells) (argI args 1)) [] [] 2 (λ_ _ _=>by kernel_rfl) (λ_ _=>rfl) (λargs rows=>Z2z (Q0b.of (args.getD 0 .dead).cells) (argI args 1)) (λ_ X=>by kernel_rfl)
def Qos(t:Q0g):Tree Int:=
.br t.D5 (.lf 1) (.lf 0)
def Qyc(t:Q0g):Int:=(Qos t).m
def Zl3:Q0d:=mkR 138 [] true [.agg Q0g.sig] [] (λargs rows=>Qyc (Q0g.of (args.getD 0 .dead).cells)) (λX=> .int .u32 X) (λX=>[])
theorem Zg5:Q07 Tryz.prog Zl3:=Q10 Q0j Q0k (.nil) Tryz.func138 Tryz.call138 (λargs rows=>Qos (Q0g.of (args.getD 0 .dead).cells)) [] [] 2 (λ_ _ _=>by kernel_rfl) (λ_ _=>rfl) (λ_ _=>Tree.free_ok (by kernel_rfl)) (λ_ X=>by kernel_rfl)
def Qsy(d0:Q0c)(port:Int):Tree Int:=
.br (port==4) (.lf d0.C1) (.br (port==5) (.lf d0.B4) (.br (port==6) (.lf (wrap u32 d0.C0)) (.lf 0)))
def Qv1(d0:Q0c)(port:Int):Int:=(Qsy d0 port).m
def disk_In_m:Q0d:=mkR 139 [] true [.agg Q0c.sig, .one (.int .i64)] [] (λargs rows=>Qv1 (Q0c.of (args.getD 0 .dead).cells) (argI args 1)) (λX=> .int .u32 X) (λX=>[])
theorem Zle:Q07 Tryz.prog disk_In_m:=Q10 Q0j Q0k (.nil) Tryz.func139 Tryz.call139 (λargs rows=>Qsy (Q0c.of (args.getD 0 .dead).cells) (argI args 1)) [] [] 2 (λ_ _ _=>by kernel_rfl) (λ_ _=>rfl) (λ_ _=>Tree.free_ok (by kernel_rfl)) (λ_ X=>by kernel_rfl)
def Qsv(n:Q0o)(port:Int):Tree Int:=
.br (port==7) (.lf n.B4) (.br (port==8) (.lf n.F1) (.br (port==9) (.br n.C7 (.br n.B8 (.lf (wrap u32 (wrap u32 ((0:Int)+(1:Int))+2))) (.lf (wrap u32 ((0:Int)+(1:Int))))) (.br n.B8 (.lf (wrap u32 ((0:Int)+(2:Int)))) (.lf 0))) (.lf 0)))
def Qyw(n:Q0o)(port:Int):Int:=(Qsv n port).m
def nic_In_m:Q0d:=mkR 140 [] true [.agg Q0o.sig, .one (.int .i64)] [] (λargs rows=>Qyw (Q0o.of (args.getD 0 .dead).cells) (argI args 1)) (λX=> .int .u32 X) (λX=>[])
theorem nic_In_ok:Q07 Tryz.prog nic_In_m:=Q10 Q0j Q0k (.nil) Tryz.func140 Tryz.call140 (λargs rows=>Qsv (Q0o.of (args.getD 0 .dead).cells) (argI args 1)) [] [] 2 (λ_ _ _=>by kernel_rfl) (λ_ _=>rfl) (λ_ _=>Tree.free_ok (by kernel_rfl)) (λ_ X=>by kernel_rfl)
def Q72(b:Q06)(port:Int):Tree Int:=
.br (port==10) (.lf b.C9) (.br (port==11) (.an (Q61 b) (.lv (Qdm b) λ(x0:Int)=> .lf (wrap u32 x0))) (.lf 0))
def Qot(b:Q06)(port:Int):Int:=(Q72 b port).m
abbrev Qbo(b:Q06)(port:Int):Prop:=(Q72 b port).p
def Za0:Q0d:=mkP 141 [] true [.agg Q06.sig, .one (.int .i64)] [] (λargs rows=>Qbo (Q06.of (args.getD 0 .dead).cells) (argI args 1)) (λargs rows=>Qot (Q06.of (args.getD 0 .dead).cells) (argI args 1)) (λX=> .int .u32 X) (λX=>[])
theorem Z8r:Q07 Tryz.prog Za0:=Q0p Q0j Q0k (.cons Qmb (.nil)) Tryz.func141 Tryz.call141 (λargs rows=>Q72 (Q06.of (args.getD 0 .dead).cells) (argI args 1)) [] [] 2 (λ_ _ _=>by kernel_rfl) (λ_ _=>rfl) (λ_ _ h=>h) (λ_ X=>by kernel_rfl)
def Q26(m:Q00)(port:Int)(clock:Int):Tree (Q00×Int):=
let T1:Tree ((Q00×Int)):= .lv (Qok m.A6 port) λ(x0:Q0b×Int)=> .lf ({B2:=m.B2,Mem:=m.Mem,A6:=x0.1,B0:=m.B0,B1:=m.B1,C5:=m.C5,A2:=m.A2,A1:=m.A1,A7:=m.A7,A9:=m.A9},x0.2); .br (port==0) T1 (.br (port==1) T1 (.br (port==2) (.lf (m,clock)) (.br (port==3) (.lv (Qyc m.B0) λ(x2:Int)=> .lf (m,x2)) (.br (port==4) (.lv (Qv1 m.B1 port) λ(x3:Int)=> .lf (m,x3)) (.br (port==5) (.lv (Qv1 m.B1 port) λ(x4:Int)=> .lf (m,x4)) (.br (port==6) (.lv (Qv1 m.B1 port) λ(x5:Int)=> .lf (m,x5)) (.br (port==7) (.lv (Qyw m.C5 port) λ(x6:Int)=> .lf (m,x6)) (.br (port==8) (.lv (Qyw m.C5 port) λ(x7:Int)=> .lf (m,x7)) (.br (port==9) (.lv (Qyw m.C5 port) λ(x8:Int)=> .lf (m,x8)) (let T2:Tree ((Q00×Int)):= .an (Qbo m.A2 port) (.lv (Qot m.A2 port) λ(x9:Int)=> .lf (m,x9)); .br (port==10) T2 (.br (port==11) T2 (.lf (m,0)))))))))))))
def Q12(m:Q00)(port:Int)(clock:Int):(Q00×Int):=(Q26 m port clock).m
abbrev Q5f(m:Q00)(port:Int)(clock:Int):Prop:=(Q26 m port clock).p
def Qtb:Q0d:=Q0d.fz<|mkP 99 [] false [.agg Q00.sig, .one (.int .i64), .one (.int .u32)] [] (λargs rows=>Q5f (Q00.of (args.getD 0 .dead).cells) (argI args 1) (argI args 2)) (λargs rows=>Q12 (Q00.of (args.getD 0 .dead).cells) (argI args 1) (argI args 2)) (λX=> .tup [.agg (Q00.cells (X.1)), .int .u32 (X.2)]) (λX=>[])
theorem Qqi:Q07 Tryz.prog Qtb:=Zjp<|Q0p Q0j Q0k (.cons Z76 (.cons Zg5 (.cons Zle (.cons nic_In_ok (.cons Z8r (.nil)))))) Tryz.func99 Tryz.call99 (λargs rows=>Q26 (Q00.of (args.getD 0 .dead).cells) (argI args 1) (argI args 2)) [.sl (.ints .u32) false] [] 2 (λ_ _ _=>by kernel_rfl) (λ_ _=>rfl) (λ_ _ h=>h) (λh=>by cases h)
def Qld(t:Q0g)(deadline:Int):Tree Q0g:=
.lf ({D2:=deadline !=0,C8:=deadline,D5:=false})
def Qkd(t:Q0g)(deadline:Int):Q0g:=(Qld t deadline).m
def Zen:Q0d:=mkR 142 [] true [.agg Q0g.sig, .one (.int .u32)] [] (λargs rows=>Qkd (Q0g.of (args.getD 0 .dead).cells) (argI args 1)) (λX=> .agg (Q0g.cells X)) (λX=>[])
theorem Zdq:Q07 Tryz.prog Zen:=Q10 Q0j Q0k (.nil) Tryz.func142 Tryz.call142 (λargs rows=>Qld (Q0g.of (args.getD 0 .dead).cells) (argI args 1)) [] [] 2 (λ_ _ _=>by kernel_rfl) (λ_ _=>rfl) (λ_ _=>Tree.free_ok (by kernel_rfl)) (λ_ X=>by kernel_rfl)
def Qdo(m:(List Int))(frame:Int):Tree Bool:=
.lv (Q0w m) λ(x0:Int)=> .lf (decide (wrap u64 frame<wrap u64 x0))
def Qad(m:(List Int))(frame:Int):Bool:=(Qdo m frame).m
def Z6z:Q0d:=mkR 124 [] true [.one (.ints .u32), .one (.int .u32)] [] (λargs rows=>Qad (argL .u32 args 0) (argI args 1)) (λX=> .bool X) (λX=>[])
theorem Qpp:Q07 Tryz.prog Z6z:=Q10 Q0j Q0k (.cons Q4r (.nil)) Tryz.func124 Tryz.call124 (λargs rows=>Qdo (argL .u32 args 0) (argI args 1)) [] [] 2 (λ_ _ _=>by kernel_rfl) (λ_ _=>rfl) (λ_ _=>Tree.free_ok (by kernel_rfl)) (λ_ X=>by kernel_rfl)
def Q8v(m:(List Int))(frame:Int):Tree Bool:=
.br (decide (frame≥0)) (.lv (Q0w m) λ(x0:Int)=> .lf (decide (frame<x0))) (.lf false)
def Q5t(m:(List Int))(frame:Int):Bool:=(Q8v m frame).m
def Qxv:Q0d:=mkR 173 [] true [.one (.ints .u32), .one (.int .i64)] [] (λargs rows=>Q5t (argL .u32 args 0) (argI args 1)) (λX=> .bool X) (λX=>[])
theorem Qkt:Q07 Tryz.prog Qxv:=Q10 Q0j Q0k (.cons Q4r (.nil)) Tryz.func173 Tryz.call173 (λargs rows=>Q8v (argL .u32 args 0) (argI args 1)) [] [] 2 (λ_ _ _=>by kernel_rfl) (λ_ _=>rfl) (λ_ _=>Tree.free_ok (by kernel_rfl)) (λ_ X=>by kernel_rfl)
def Qm9(words:(List Int))(z:(Int)×(List Int)):Prop:=0≤z.1∧z.1≤words.length∧(z.2.length:Int)=4*z.1
def Q83(words:(List Int))(z:(Int)×(List Int)):Nat:=(words.length-z.1).toNat
def Q5k(words:(List Int)):Tree (List UInt8):=
.cn (Nat.blt 0 1&&Nat.beq 1 1&&List.all [D.int u8 0] D.plain&&decide ((0:Int)≤(0:Int)∧0≤wrap i64 (4*(words.length:Int))∧wrap i64 (4*(words.length:Int))≤9223372036854775807∧(↑1:Int)*wrap i64 (4*(words.length:Int))≤140737488355328)) (.lp inferInstance (Q83 words (0,[])+1) ((True∧((Els.Nil (Els.ints u32 words)∨rE (1:Nat))∧rE (words:List Int))∧rE ((words.length:Int):Int)∧rE (0:Int)∧True)∧rE ([]:List Int)∧True) (0,[]) λ(v0:Int×List Int)=> .br (decide (v0.1<(words.length:Int))) (.cn (Nat.beq 1 1&&Nat.blt 0 1&&decide (0≤v0.1∧v0.1<(words.length:Int))) (.cn (decide (1*(v0.2.length+4)≤140737488355328)) (let E1:=words.getD v0.1.toNat 0; .nx ((True∧((Els.Nil (Els.ints u32 words)∨rE (1:Nat))∧rE (words:List Int))∧rE ((words.length:Int):Int)∧rE ((wrap i64 (v0.1+1)):Int)∧True)∧rE ((v0.2++[wrap u8 (words.getD v0.1.toNat 0),wrap u8 (ishr u32 (words.getD v0.1.toNat 0) 8),wrap u8 (ishr u32 (words.getD v0.1.toNat 0) 16),wrap u8 (ishr u32 (words.getD v0.1.toNat 0) 24)]):List Int)∧True) (Sum.inl (wrap i64 (v0.1+1),v0.2++[wrap u8 E1,wrap u8 (ishr u32 E1 8),wrap u8 (ishr u32 E1 16),wrap u8 (ishr u32 E1 24)]))))) (.lf (Sum.inr (bytesOf v0.2))))
def Qzw(words:(List Int)):(List UInt8):=(Q5k words).m
def Q40(words:(List Int)):Prop:=
words.length≤1000000000000
theorem Z14(words:(List Int))(hw:Q40 words):(Q5k words).p:=by
 simp only[Q40]at hw
 unfold Tree.p Q5k
 repeat'(first|refine w_lp (inv:=Qm9 words) (μ:=Q83 words) ?_ (Nat.lt_succ_self _) (λ_ _=> ?_)|exact trivial|refine w_br (λ_=> ?_) (λ_=> ?_)|refine w_cn ?_ ?_|refine w_an ?_ ?_|refine w_lv (λ_ _=> ?_)|refine w_nx ?_|refine w_lf ?_|refine And.intro ?_ ?_)
 all_goals((try simp only[Qm9,Q83]at*);((subst_vars;first|trivial|assumption|omega|((simp(config:={decide:=true,failIfUnchanged:=false}) only[Bool.and_eq_true,Bool.or_eq_true,Bool.and_eq_false_iff,Bool.or_eq_false_iff,Bool.not_eq_true',Bool.not_eq_false',Bool.not_eq_true,Bool.not_eq_false,decide_eq_true_eq,decide_eq_false_iff_not,Q57,Q3m,Q5a,Q3n,beq_iff_eq,beq_eq_false_iff_ne,bne_iff_ne,bne_eq_false_iff_eq,ne_eq,List.all_cons,List.all_nil,D.plain,List.length_cons,List.length_nil,List.length_append,List.length_set,List.length_replicate,IntKind.wrap_i64,IntKind.wrap_u64,IntKind.wrap_u32,IntKind.wrap_i32,IntKind.wrap_u8,true_and,and_true,or_false,false_or,or_true,true_or,not_true_eq_false,not_false_eq_true,Prod.fst,Prod.snd]at*);first|done|assumption|omega)|((simp(config:={decide:=true,failIfUnchanged:=false}) only[Bool.and_eq_true,Bool.or_eq_true,Bool.and_eq_false_iff,Bool.or_eq_false_iff,Bool.not_eq_true',Bool.not_eq_false',Bool.not_eq_true,Bool.not_eq_false,decide_eq_true_eq,decide_eq_false_iff_not,Q57,Q3m,Q5a,Q3n,beq_iff_eq,beq_eq_false_iff_ne,bne_iff_ne,bne_eq_false_iff_eq,ne_eq,List.all_cons,List.all_nil,D.plain,List.length_cons,List.length_nil,List.length_append,List.length_set,List.length_replicate,IntKind.wrap_i64,IntKind.wrap_u64,IntKind.wrap_u32,IntKind.wrap_i32,IntKind.wrap_u8,true_and,and_true,or_false,false_or,or_true,true_or,not_true_eq_false,not_false_eq_true,Prod.fst,Prod.snd]at*);simp only[←List.length_pos_iff]at*;omega)|(simp_all;done)|(have:= @Qg6;simp_all;try omega))))
def Z25:LInv:={
 α:=(Int)×(List Int)
 F:=λst a=>([(3, .all 0),(10,(lk st 10)),(11,(lk st 11)),(12, .int i64 a.1)],[⟨false,5,1, .ints u8 a.2⟩])
 a0:=λst=>((lk st 12).toInt,(Q8a st.rows (rN st 3)))
 ex0:=λst=>[]++[(Q0x (lk st 3) (st.rows.length+0))]
 next:=λst=>((lk st 12).toInt,(Q8a st.rows (rN st 3)))
 ex:=λst=>[]++[(Q0x (lk st 3) (st.rows.length+0))]}
def Qx7:List (Nat×LInv):=[(3,Z25)]
def Z7b:Q0d:=mkP 174 [] true [.one (.ints .u32)] [] (λargs rows=>Q40 (argL .u32 args 0)) (λargs rows=>Qzw (argL .u32 args 0)) (λX=> .str X) (λX=>[])
theorem Z2j:Q07 Tryz.prog Z7b:=Q0p Q0j Q0k (.nil) Tryz.func174 Tryz.call174 (λargs rows=>Q5k (argL .u32 args 0)) [] Qx7 3 (λ_ _ _=>by kernel_rfl) (λ_ _=>rfl) (λargs rows h=>Z14 (argL .u32 args 0) h) (λ_ X=>by kernel_rfl)
def Q4(m:(List Int))(frame:Int):Tree ((List UInt8)×Bool):=
.lv (Q5t m frame) λ(x0:Bool)=> .br (!x0) (.lf ([],false)) (.cn (Nat.beq 1 1&&Nat.blt 0 1&&decide (0≤wrap i64 (frame*32)∧wrap i64 (frame*32)≤wrap i64 (wrap i64 (frame*32)+32)∧wrap i64 (wrap i64 (frame*32)+32)≤(m.length:Int))) (let E1:=List.take (Int.toNat (wrap i64 (wrap i64 (frame*32)+32))-Int.toNat (wrap i64 (frame*32))) (List.drop (Int.toNat (wrap i64 (frame*32))) m); .an (Q40 E1) (.lv (Qzw E1) λ(x1:List UInt8)=> .lf (x1,true))))
def Q6b(m:(List Int))(frame:Int):((List UInt8)×Bool):=(Q4 m frame).m
abbrev Q6f(m:(List Int))(frame:Int):Prop:=(Q4 m frame).p
def Z81:Q0d:=mkP 127 [] true [.one (.ints .u32), .one (.int .i64)] [] (λargs rows=>Q6f (argL .u32 args 0) (argI args 1)) (λargs rows=>Q6b (argL .u32 args 0) (argI args 1)) (λX=> .tup [.str (X.1), .bool (X.2)]) (λX=>[])
theorem Qk:Q07 Tryz.prog Z81:=Q0p Q0j Q0k (.cons Qkt (.cons Z2j (.nil))) Tryz.func127 Tryz.call127 (λargs rows=>Q4 (argL .u32 args 0) (argI args 1)) [] [] 2 (λ_ _ _=>by kernel_rfl) (λ_ _=>rfl) (λ_ _ h=>h) (λ_ X=>by kernel_rfl)
def Qpm(d0:Q0c)(at0:Int):Tree (Q03×Bool):=
.br (d0.C0 !=1) (.lf ({B5:=0,At:=0,C1:=0,C6:=[]},false)) (.br (d0.D8==1) (.lf ({B5:=3,At:=at0,C1:=d0.B7,C6:=[]},true)) (.br (d0.D8==2) (.lf ({B5:=4,At:=at0,C1:=d0.B7,C6:=d0.C4},true)) (.lf ({B5:=0,At:=0,C1:=0,C6:=[]},false))))
def Qj7(d0:Q0c)(at0:Int):(Q03×Bool):=(Qpm d0 at0).m
def Z29:Q0d:=mkR 235 [] true [.agg Q0c.sig, .one (.int .u64)] [] (λargs rows=>Qj7 (Q0c.of (args.getD 0 .dead).cells) (argI args 1)) (λX=> .tup [.agg (Q03.cells (X.1)), .bool (X.2)]) (λX=>[])
theorem Z0l:Q07 Tryz.prog Z29:=Q10 Q0j Q0k (.nil) Tryz.func235 Tryz.call235 (λargs rows=>Qpm (Q0c.of (args.getD 0 .dead).cells) (argI args 1)) [] [] 2 (λ_ _ _=>by kernel_rfl) (λ_ _=>rfl) (λ_ _=>Tree.free_ok (by kernel_rfl)) (λ_ X=>by kernel_rfl)
def Q79(d0:Q0c)(m:(List Int))(cmd:Int)(at0:Int):Tree (Q0c×(List Q03)):=
.br (d0.C0 !=0) (.lf (d0,[])) (let T1:Tree ((Q0c×(List Q03))):= .lf ({Blocks:=d0.Blocks,C1:=d0.C1,B4:=d0.B4,C0:=3,D8:=d0.D8,B7:=d0.B7,B3:=d0.B3,C4:=d0.C4},[]); .br (decide (d0.C1≥d0.Blocks)) T1 (.lv (Qad m d0.B4) λ(x0:Bool)=> .br (!x0) T1 (.br (cmd==2) (.an (Q6f m (wrap i64 d0.B4)) (.lv (Q6b m (wrap i64 d0.B4)) λ(x1:List UInt8×Bool)=>let E2:=({Blocks:=d0.Blocks,C1:=d0.C1,B4:=d0.B4,C0:=1,D8:=cmd,B7:=d0.C1,B3:=d0.B4,C4:=x1.1}:Q0c); .lv (Qj7 E2 at0) λ(x2:Q03×Bool)=> .lf (E2,[x2.1]))) (let E3:=({Blocks:=d0.Blocks,C1:=d0.C1,B4:=d0.B4,C0:=1,D8:=cmd,B7:=d0.C1,B3:=d0.B4,C4:=[]}:Q0c); .lv (Qj7 E3 at0) λ(x3:Q03×Bool)=> .lf (E3,[x3.1])))))
def Quf(d0:Q0c)(m:(List Int))(cmd:Int)(at0:Int):(Q0c×(List Q03)):=(Q79 d0 m cmd at0).m
abbrev Qbh(d0:Q0c)(m:(List Int))(cmd:Int)(at0:Int):Prop:=(Q79 d0 m cmd at0).p
def Zas:Q0d:=mkP 195 [] true [.agg Q0c.sig, .one (.ints .u32), .one (.int .i64), .one (.int .u64)] [] (λargs rows=>Qbh (Q0c.of (args.getD 0 .dead).cells) (argL .u32 args 1) (argI args 2) (argI args 3)) (λargs rows=>Quf (Q0c.of (args.getD 0 .dead).cells) (argL .u32 args 1) (argI args 2) (argI args 3)) (λX=> .tup [.agg (Q0c.cells (X.1)), .sl 4 (.recs .apiOutput (X.2)) true]) (λX=>[])
theorem Z8m:Q07 Tryz.prog Zas:=Q0p Q0j Q0k (.cons Qpp (.cons Qk (.cons Z0l (.nil)))) Tryz.func195 Tryz.call195 (λargs rows=>Q79 (Q0c.of (args.getD 0 .dead).cells) (argL .u32 args 1) (argI args 2) (argI args 3)) [.sl (.recs .apiOutput) true] [] 2 (λ_ _ _=>by kernel_rfl) (λ_ _=>rfl) (λ_ _ h=>h) (λ_ X=>by kernel_rfl)
def Qas(d0:Q0c)(m:(List Int))(port:Int)(v:Int)(at0:Int):Tree (Q0c×(List Q03)):=
.br (port==4) (.lf ({Blocks:=d0.Blocks,C1:=v,B4:=d0.B4,C0:=d0.C0,D8:=d0.D8,B7:=d0.B7,B3:=d0.B3,C4:=d0.C4},[])) (.br (port==5) (.lf ({Blocks:=d0.Blocks,C1:=d0.C1,B4:=v,C0:=d0.C0,D8:=d0.D8,B7:=d0.B7,B3:=d0.B3,C4:=d0.C4},[])) (.br (port==6) (let T1:Tree ((Q0c×(List Q03))):= .an (Qbh d0 m (wrap i64 v) at0) (.lv (Quf d0 m (wrap i64 v) at0) λ(x0:Q0c×List Q03)=> .lf (x0.1,x0.2)); .br (v==1) T1 (.br (v==2) T1 (.br (v==0) (.lv (Qaf d0) λ(x2:Bool)=> .br x2 (.lf ({Blocks:=d0.Blocks,C1:=d0.C1,B4:=d0.B4,C0:=0,D8:=d0.D8,B7:=d0.B7,B3:=d0.B3,C4:=d0.C4},[])) (.lf (d0,[]))) (.lf (d0,[]))))) (.lf (d0,[]))))
def Qy5(d0:Q0c)(m:(List Int))(port:Int)(v:Int)(at0:Int):(Q0c×(List Q03)):=(Qas d0 m port v at0).m
abbrev Qf9(d0:Q0c)(m:(List Int))(port:Int)(v:Int)(at0:Int):Prop:=(Qas d0 m port v at0).p
def Zjj:Q0d:=mkP 143 [] true [.agg Q0c.sig, .one (.ints .u32), .one (.int .i64), .one (.int .u32), .one (.int .u64)] [] (λargs rows=>Qf9 (Q0c.of (args.getD 0 .dead).cells) (argL .u32 args 1) (argI args 2) (argI args 3) (argI args 4)) (λargs rows=>Qy5 (Q0c.of (args.getD 0 .dead).cells) (argL .u32 args 1) (argI args 2) (argI args 3) (argI args 4)) (λX=> .tup [.agg (Q0c.cells (X.1)), .sl 4 (.recs .apiOutput (X.2)) true]) (λX=>[])
theorem Zgk:Q07 Tryz.prog Zjj:=Q0p Q0j Q0k (.cons Z8m (.cons Qnr (.nil))) Tryz.func143 Tryz.call143 (λargs rows=>Qas (Q0c.of (args.getD 0 .dead).cells) (argL .u32 args 1) (argI args 2) (argI args 3) (argI args 4)) [.sl (.recs .apiOutput) true] [] 2 (λ_ _ _=>by kernel_rfl) (λ_ _=>rfl) (λ_ _ h=>h) (λ_ X=>by kernel_rfl)
def Qfl(m:(List Int))(frame:Int):Tree Bool:=
.lv (Q0w m) λ(x0:Int)=> .lf (decide (wrap u64 frame<wrap u64 x0))
def Qay(m:(List Int))(frame:Int):Bool:=(Qfl m frame).m
def Zd5:Q0d:=mkR 126 [] true [.one (.ints .u32), .one (.int .u32)] [] (λargs rows=>Qay (argL .u32 args 0) (argI args 1)) (λX=> .bool X) (λX=>[])
theorem Qlu:Q07 Tryz.prog Zd5:=Q10 Q0j Q0k (.cons Q4r (.nil)) Tryz.func126 Tryz.call126 (λargs rows=>Qfl (argL .u32 args 0) (argI args 1)) [] [] 2 (λ_ _ _=>by kernel_rfl) (λ_ _=>rfl) (λ_ _=>Tree.free_ok (by kernel_rfl)) (λ_ X=>by kernel_rfl)
def Qb4(n:Q0o)(m:(List Int))(at0:Int):Tree (List Q03):=
.br (decide (n.E0<1)) (.lf ([])) (.br (decide (n.E0>128)) (.lf ([])) (.lv (Qay m n.B4) λ(x0:Bool)=> .br (!x0) (.lf ([])) (.an (Q6f m (wrap i64 n.B4)) (.lv (Q6b m (wrap i64 n.B4)) λ(x1:List UInt8×Bool)=> .cn (decide ((0:Int)≤(0:Int)∧0≤n.E0∧n.E0≤(x1.1.length:Int))) (.lf ([{B5:=2,At:=at0,C1:=0,C6:=List.take (Int.toNat n.E0-Int.toNat 0) (List.drop (Int.toNat 0) x1.1)}]))))))
def Z6k(n:Q0o)(m:(List Int))(at0:Int):(List Q03):=(Qb4 n m at0).m
abbrev Qfc(n:Q0o)(m:(List Int))(at0:Int):Prop:=(Qb4 n m at0).p
def Zlc:Q0d:=mkP 196 [] true [.agg Q0o.sig, .one (.ints .u32), .one (.int .u64)] [] (λargs rows=>Qfc (Q0o.of (args.getD 0 .dead).cells) (argL .u32 args 1) (argI args 2)) (λargs rows=>Z6k (Q0o.of (args.getD 0 .dead).cells) (argL .u32 args 1) (argI args 2)) (λX=> .sl 4 (.recs .apiOutput X) true) (λX=>[])
theorem Zez:Q07 Tryz.prog Zlc:=Q0p Q0j Q0k (.cons Qlu (.cons Qk (.nil))) Tryz.func196 Tryz.call196 (λargs rows=>Qb4 (Q0o.of (args.getD 0 .dead).cells) (argL .u32 args 1) (argI args 2)) [.sl (.recs .apiOutput) true] [] 2 (λ_ _ _=>by kernel_rfl) (λ_ _=>rfl) (λ_ _ h=>h) (λ_ X=>by kernel_rfl)
def Qdl(n:Q0o)(m:(List Int))(port:Int)(v:Int)(at0:Int):Tree (Q0o×(List Q03)):=
.br (port==7) (.lf ({B4:=v,E0:=n.E0,C7:=n.C7,B9:=n.B9,B8:=n.B8,F1:=n.F1},[])) (.br (port==8) (.lf ({B4:=n.B4,E0:=v,C7:=n.C7,B9:=n.B9,B8:=n.B8,F1:=n.F1},[])) (.br (port==9) (.br (v==1) (.an (Qfc n m at0) (.lv (Z6k n m at0) λ(x0:List Q03)=> .lf (n,x0))) (.br (v==2) (.lv (Qay m n.B4) λ(x1:Bool)=> .br x1 (.br (!n.C7) (.br (!n.B8) (.lf ({B4:=n.B4,E0:=n.E0,C7:=true,B9:=n.B4,B8:=n.B8,F1:=n.F1},[])) (.lf (n,[]))) (.lf (n,[]))) (.lf (n,[]))) (.br (v==0) (.lf ({B4:=n.B4,E0:=n.E0,C7:=n.C7,B9:=n.B9,B8:=false,F1:=0},[])) (.lf (n,[]))))) (.lf (n,[]))))
def Z7w(n:Q0o)(m:(List Int))(port:Int)(v:Int)(at0:Int):(Q0o×(List Q03)):=(Qdl n m port v at0).m
abbrev Qij(n:Q0o)(m:(List Int))(port:Int)(v:Int)(at0:Int):Prop:=(Qdl n m port v at0).p
def nic_Out_m:Q0d:=mkP 144 [] true [.agg Q0o.sig, .one (.ints .u32), .one (.int .i64), .one (.int .u32), .one (.int .u64)] [] (λargs rows=>Qij (Q0o.of (args.getD 0 .dead).cells) (argL .u32 args 1) (argI args 2) (argI args 3) (argI args 4)) (λargs rows=>Z7w (Q0o.of (args.getD 0 .dead).cells) (argL .u32 args 1) (argI args 2) (argI args 3) (argI args 4)) (λX=> .tup [.agg (Q0o.cells (X.1)), .sl 4 (.recs .apiOutput (X.2)) true]) (λX=>[])
theorem Zlg:Q07 Tryz.prog nic_Out_m:=Q0p Q0j Q0k (.cons Zez (.cons Qlu (.nil))) Tryz.func144 Tryz.call144 (λargs rows=>Qdl (Q0o.of (args.getD 0 .dead).cells) (argL .u32 args 1) (argI args 2) (argI args 3) (argI args 4)) [.sl (.recs .apiOutput) true] [] 2 (λ_ _ _=>by kernel_rfl) (λ_ _=>rfl) (λ_ _ h=>h) (λ_ X=>by kernel_rfl)
def Qbc(m:(List Int))(frame:Int)(s:(List UInt8))(z:(Int)×(List Int)):Nat:=(32-z.1).toNat
def Q2f(m:(List Int))(frame:Int)(s:(List UInt8)):Tree ((List Int)×Bool):=
.an (Q05 m) (.lv (Q02 m) λ(x0:List Int)=> .lv (Q5t m frame) λ(x1:Bool)=> .br (!x1) (.lf (x0,false)) (.br ((s.length:Int) !=(128:Int)) (.lf (x0,false)) (.lp inferInstance (Qbc m frame s (0,x0)+1) ((rE (s:List UInt8)∧True∧rE ((wrap i64 (frame*32)):Int)∧rE (0:Int)∧True)∧rE (x0:List Int)∧True) (0,x0) λ(v0:Int×List Int)=> .br (decide (v0.1<32)) (.cn (decide (0≤wrap i64 (4*v0.1)∧wrap i64 (4*v0.1)≤wrap i64 (wrap i64 (4*v0.1)+4)∧wrap i64 (wrap i64 (4*v0.1)+4)≤(s.length:Int))) (let E1:=List.take (Int.toNat (wrap i64 (wrap i64 (4*v0.1)+4))-Int.toNat (wrap i64 (4*v0.1))) (List.drop (Int.toNat (wrap i64 (4*v0.1))) s); .cn (decide ((0:Int)≤(0:Int)∧0<(↑(List.length E1):Int))) (.cn (decide ((0:Int)≤(1:Int)∧1<(↑(List.length E1):Int))) (.cn (decide ((0:Int)≤(2:Int)∧2<(↑(List.length E1):Int))) (.cn (decide ((0:Int)≤(3:Int)∧3<(↑(List.length E1):Int))) (.cn (Nat.beq 1 1&&Nat.blt 0 1&&decide (0≤wrap i64 (wrap i64 (frame*32)+v0.1)∧wrap i64 (wrap i64 (frame*32)+v0.1)<(v0.2.length:Int))) (.nx ((rE (s:List UInt8)∧True∧rE ((wrap i64 (frame*32)):Int)∧rE ((wrap i64 (v0.1+1)):Int)∧True)∧rE ((List.set v0.2 (Int.toNat (wrap i64 (wrap i64 (frame*32)+v0.1))) (ior u32 (ior u32 (ior u32 (wrap u32 (↑(UInt8.toNat (List.getD (List.take (Int.toNat (wrap i64 (wrap i64 (4*v0.1)+4))-Int.toNat (wrap i64 (4*v0.1))) (List.drop (Int.toNat (wrap i64 (4*v0.1))) s)) (Int.toNat 0) (0:UInt8))):Int)) (ishl u32 (wrap u32 (↑(UInt8.toNat (List.getD (List.take (Int.toNat (wrap i64 (wrap i64 (4*v0.1)+4))-Int.toNat (wrap i64 (4*v0.1))) (List.drop (Int.toNat (wrap i64 (4*v0.1))) s)) (Int.toNat 1) (0:UInt8))):Int)) 8)) (ishl u32 (wrap u32 (↑(UInt8.toNat (List.getD (List.take (Int.toNat (wrap i64 (wrap i64 (4*v0.1)+4))-Int.toNat (wrap i64 (4*v0.1))) (List.drop (Int.toNat (wrap i64 (4*v0.1))) s)) (Int.toNat 2) (0:UInt8))):Int)) 16)) (ishl u32 (wrap u32 (↑(UInt8.toNat (List.getD (List.take (Int.toNat (wrap i64 (wrap i64 (4*v0.1)+4))-Int.toNat (wrap i64 (4*v0.1))) (List.drop (Int.toNat (wrap i64 (4*v0.1))) s)) (Int.toNat 3) (0:UInt8))):Int)) 24))):List Int)∧True) (Sum.inl (wrap i64 (v0.1+1),List.set v0.2 (Int.toNat (wrap i64 (wrap i64 (frame*32)+v0.1))) (ior u32 (ior u32 (ior u32 (wrap u32 (↑(UInt8.toNat (List.getD E1 (Int.toNat 0) (0:UInt8))):Int)) (ishl u32 (wrap u32 (↑(UInt8.toNat (List.getD E1 (Int.toNat 1) (0:UInt8))):Int)) 8)) (ishl u32 (wrap u32 (↑(UInt8.toNat (List.getD E1 (Int.toNat 2) (0:UInt8))):Int)) 16)) (ishl u32 (wrap u32 (↑(UInt8.toNat (List.getD E1 (Int.toNat 3) (0:UInt8))):Int)) 24))))))))))) (.lf (Sum.inr (v0.2,true))))))
def Q36(m:(List Int))(frame:Int)(s:(List UInt8)):((List Int)×Bool):=(Q2f m frame s).m
abbrev Q3s(m:(List Int))(frame:Int)(s:(List UInt8)):Prop:=(Q2f m frame s).p
def Qv7:LInv:={
 α:=(Int)×(List Int)
 F:=λst a=>([(2,(lk st 2)),(8, .all 0),(9,(lk st 9)),(26, .int i64 a.1)],[⟨false,23,1, .ints u32 a.2⟩])
 a0:=λst=>((lk st 26).toInt,(Q8a st.rows (rN st 8)))
 ex0:=λst=>[]++[(Q0x (lk st 8) (st.rows.length+0))]
 next:=λst=>((lk st 26).toInt,(Q8a st.rows (rN st 8)))
 ex:=λst=>[]++[(Q0x (lk st 8) (st.rows.length+0))]}
def Qqd:List (Nat×LInv):=[(6,Qv7)]
def Qxm:Q0d:=mkP 125 [] true [.one (.ints .u32), .one (.int .i64), .one (.str)] [] (λargs rows=>Q3s (argL .u32 args 0) (argI args 1) (argS args 2)) (λargs rows=>Q36 (argL .u32 args 0) (argI args 1) (argS args 2)) (λX=> .tup [.all 0, .bool (X.2)]) (λX=>[⟨false,23,1, .ints .u32 (X.1)⟩])
theorem Qea:Q07 Tryz.prog Qxm:=Q0p Q0j Q0k (.cons Q0t (.cons Qkt (.nil))) Tryz.func125 Tryz.call125 (λargs rows=>Q2f (argL .u32 args 0) (argI args 1) (argS args 2)) [.row 23 1 (.ints .u32)] Qqd 3 (λ_ _ _=>by kernel_rfl) (λ_ _=>rfl) (λ_ _ h=>h) (λ_ X=>by kernel_rfl)
def strings_Repeat(s:(List UInt8))(count:Int):(List UInt8):=
Lib.repeatL s count.toNat
def Q34(s:(List UInt8))(count:Int):Prop:=
0≤count∧count≤9223372036854775807∧s.length*count.toNat≤140737488355328
def Qi3(s:(List UInt8))(count:Int):List D:=[.str s, .int .i64 count]
def Qim(s:(List UInt8))(count:Int):List Row:=[]
def Qcv(X:(List UInt8)):D:= .str X
def Qd5(X:(List UInt8)):List Row:=[]
def Qjb:List PT:=[.one (.str), .one (.int .i64)]
def Qhm:List RT:=[]
def Qsr(args:List D)(rows:List Row):(List UInt8):=strings_Repeat (argS args 0) (argI args 1)
def Qt(args:List D)(rows:List Row):Prop:=Q34 (argS args 0) (argI args 1)
def Qxx:Q0d:=mkP 197 [] true Qjb Qhm Qt Qsr Qcv Qd5
theorem Qpa(s:(List UInt8))(count:Int)(hw:Q34 s count):Q5g Tryz.prog 197 (Qi3 s count) (Qim s count) (Qcv (strings_Repeat s count)) (Qd5 (strings_Repeat s count)):=by
 exact repeat_of Tryz.strings_Repeat hw.1 hw.2.1 hw.2.2
set_option maxRecDepth 100000 in
theorem Qqo(args:List D)(rows:List Row):Qkb Qjb args 0=Qi3 (argS args 0) (argI args 1):=by kernel_rfl
set_option maxRecDepth 100000 in
theorem Qp6(args:List D)(rows:List Row):Q9i Qhm rows 0=Qim (argS args 0) (argI args 1):=by kernel_rfl
set_option maxRecDepth 100000 in
theorem Qvf(X:(List UInt8)):(ffB (Qcv X)&&ffBR (Qd5 X))=true:=by kernel_rfl
theorem Qu0:Q07 Tryz.prog Qxx:=Qyp Tryz.call197 (λargs rows hp=>by rw[Qqo args rows,Qp6 args rows];exact Qpa (argS args 0) (argI args 1) hp) (λ_ X=>Qvf X)
def Q2w(b:Q06)(m:(List Int))(port:Int)(v:Int):Tree (Q06×(List Int)):=
let T1:Tree ((Q06×(List Int))):= .an (Q05 m) (.lv (Q02 m) λ(x0:List Int)=> .lf (b,x0)); .br (decide (v≥32)) T1 (.cn (decide (0≤v)) (.br (port==10) (.lv (Q0w m) λ(x1:Int)=> .br (decide (wrap i64 v<x1)) (.br (iand u32 b.C3 (ishl u32 1 v)==0) (.an (Q34 [(0:UInt8)] 128) (.lv (strings_Repeat [(0:UInt8)] 128) λ(x2:List UInt8)=> .an (Q3s m (wrap i64 v) x2) (.lv (Q36 m (wrap i64 v) x2) λ(x3:List Int×Bool)=> .lf ({C9:=b.C9,C3:=ior u32 b.C3 (ishl u32 1 v)},x3.1)))) T1) T1) (.br (port==11) (.an (Q05 m) (.lv (Q02 m) λ(x6:List Int)=> .lf ({C9:=b.C9,C3:=Qgm u32 b.C3 (ishl u32 1 v)},x6))) T1)))
def Q8k(b:Q06)(m:(List Int))(port:Int)(v:Int):(Q06×(List Int)):=(Q2w b m port v).m
abbrev Qa1(b:Q06)(m:(List Int))(port:Int)(v:Int):Prop:=(Q2w b m port v).p
def Z8y:Q0d:=mkP 145 [] true [.agg Q06.sig, .one (.ints .u32), .one (.int .i64), .one (.int .u32)] [] (λargs rows=>Qa1 (Q06.of (args.getD 0 .dead).cells) (argL .u32 args 1) (argI args 2) (argI args 3)) (λargs rows=>Q8k (Q06.of (args.getD 0 .dead).cells) (argL .u32 args 1) (argI args 2) (argI args 3)) (λX=> .tup [.agg (Q06.cells (X.1)), .all 0]) (λX=>[⟨false,23,1, .ints .u32 (X.2)⟩])
theorem Z38:Q07 Tryz.prog Z8y:=Q0p Q0j Q0k (.cons Q0t (.cons Q4r (.cons Qea (.cons Qu0 (.nil))))) Tryz.func145 Tryz.call145 (λargs rows=>Q2w (Q06.of (args.getD 0 .dead).cells) (argL .u32 args 1) (argI args 2) (argI args 3)) [.row 23 1 (.ints .u32)] [] 2 (λ_ _ _=>by kernel_rfl) (λ_ _=>rfl) (λ_ _ h=>h) (λ_ X=>by kernel_rfl)
def Q2a(m:Q00)(port:Int)(v:Int)(at0:Int):Tree (Q00×(List Q03)):=
.br (port==0) (.lf (m,[{B5:=1,At:=at0,C1:=0,C6:=[(λ(n:Int)=>UInt8.ofNat n.toNat) (wrap u8 v)]}])) (.br (port==3) (.lv (Qkd m.B0 v) λ(x0:Q0g)=> .lf ({B2:=m.B2,Mem:=m.Mem,A6:=m.A6,B0:=x0,B1:=m.B1,C5:=m.C5,A2:=m.A2,A1:=m.A1,A7:=m.A7,A9:=m.A9},[])) (let T1:Tree ((Q00×(List Q03))):= .an (Qf9 m.B1 m.Mem port v at0) (.lv (Qy5 m.B1 m.Mem port v at0) λ(x1:Q0c×List Q03)=> .lf ({B2:=m.B2,Mem:=m.Mem,A6:=m.A6,B0:=m.B0,B1:=x1.1,C5:=m.C5,A2:=m.A2,A1:=m.A1,A7:=m.A7,A9:=m.A9},x1.2)); .br (port==4) T1 (.br (port==5) T1 (.br (port==6) T1 (let T2:Tree ((Q00×(List Q03))):= .an (Qij m.C5 m.Mem port v at0) (.lv (Z7w m.C5 m.Mem port v at0) λ(x4:Q0o×List Q03)=> .lf ({B2:=m.B2,Mem:=m.Mem,A6:=m.A6,B0:=m.B0,B1:=m.B1,C5:=x4.1,A2:=m.A2,A1:=m.A1,A7:=m.A7,A9:=m.A9},x4.2)); .br (port==7) T2 (.br (port==8) T2 (.br (port==9) T2 (let T3:Tree ((Q00×(List Q03))):= .an (Qa1 m.A2 m.Mem port v) (.lv (Q8k m.A2 m.Mem port v) λ(x7:Q06×List Int)=> .lf ({B2:=m.B2,Mem:=x7.2,A6:=m.A6,B0:=m.B0,B1:=m.B1,C5:=m.C5,A2:=x7.1,A1:=m.A1,A7:=m.A7,A9:=m.A9},[])); .br (port==10) T3 (.br (port==11) T3 (.lf (m,[])))))))))))
def Q2v(m:Q00)(port:Int)(v:Int)(at0:Int):(Q00×(List Q03)):=(Q2a m port v at0).m
abbrev Q4s(m:Q00)(port:Int)(v:Int)(at0:Int):Prop:=(Q2a m port v at0).p
def Qq6:Q0d:=Q0d.fz<|mkP 100 [] false [.agg Q00.sig, .one (.int .i64), .one (.int .u32), .one (.int .u64)] [] (λargs rows=>Q4s (Q00.of (args.getD 0 .dead).cells) (argI args 1) (argI args 2) (argI args 3)) (λargs rows=>Q2v (Q00.of (args.getD 0 .dead).cells) (argI args 1) (argI args 2) (argI args 3)) (λX=> .tup [.agg (Q00.cells (X.1)), .sl 4 (.recs .apiOutput (X.2)) true]) (λX=>[])
theorem Qp7:Q07 Tryz.prog Qq6:=Zjp<|Q0p Q0j Q0k (.cons Zdq (.cons Zgk (.cons Zlg (.cons Z38 (.nil))))) Tryz.func100 Tryz.call100 (λargs rows=>Q2a (Q00.of (args.getD 0 .dead).cells) (argI args 1) (argI args 2) (argI args 3)) [.sl (.ints .u32) false, .sl (.recs .apiOutput) true] [] 2 (λ_ _ _=>by kernel_rfl) (λ_ _=>rfl) (λ_ _ h=>h) (λh=>by cases h)
def Q2t(m:Q00)(clock:Int):Tree (Q00×(List Q03)):=
.an (Q05 m.Mem) (.lv (Q02 m.Mem) λ(x0:List Int)=>let E1:=({B2:=m.B2,Mem:=x0,A6:=m.A6,B0:=m.B0,B1:=m.B1,C5:=m.C5,A2:=m.A2,A1:=m.A1,A7:=m.A7,A9:=m.A9}:Q00); .an (Q6t E1) (.lv (Q2m E1) λ(x1:Bool)=> .br (!x1) (.lf (E1,[])) (.an (Q6 E1) (.lv (Q0r E1) λ(x2:Q00)=> .an (Qcm x2.B2 x2.Mem) (.lv (Q5p x2.B2 x2.Mem) λ(x3:Q04×List Int×Q13)=>let E2:=({B2:=x3.1,Mem:=x3.2.1,A6:=x2.A6,B0:=x2.B0,B1:=x2.B1,C5:=x2.C5,A2:=x2.A2,A1:=x2.A1,A7:=x2.A7,A9:=x2.A9}:Q00); .br (x3.2.2.B5==1) (.an (Q5f E2 x3.2.2.D1 clock) (.lv (Q12 E2 x3.2.2.D1 clock) λ(x4:Q00×Int)=> .br (x3.2.2.D9 !=0) (.cn (Nat.blt 0 1&&decide (0≤x3.2.2.D9∧x3.2.2.D9<(↑16:Int))) (.lf ({B2:={X:=A16.of 0 (List.set (A16.l x4.1.B2.X) x3.2.2.D9.toNat x4.2),Pc:=x4.1.B2.Pc,B6:=x4.1.B2.B6},Mem:=x4.1.Mem,A6:=x4.1.A6,B0:=x4.1.B0,B1:=x4.1.B1,C5:=x4.1.C5,A2:=x4.1.A2,A1:=wrap u64 (x4.1.A1+1),A7:=x4.1.A7,A9:=x4.1.A9},[]))) (.lf ({B2:=x4.1.B2,Mem:=x4.1.Mem,A6:=x4.1.A6,B0:=x4.1.B0,B1:=x4.1.B1,C5:=x4.1.C5,A2:=x4.1.A2,A1:=wrap u64 (x4.1.A1+1),A7:=x4.1.A7,A9:=x4.1.A9},[])))) (.br (x3.2.2.B5==2) (.an (Q4s E2 x3.2.2.D1 x3.2.2.Value m.A1) (.lv (Q2v E2 x3.2.2.D1 x3.2.2.Value m.A1) λ(x5:Q00×List Q03)=> .lf ({B2:=x5.1.B2,Mem:=x5.1.Mem,A6:=x5.1.A6,B0:=x5.1.B0,B1:=x5.1.B1,C5:=x5.1.C5,A2:=x5.1.A2,A1:=wrap u64 (x5.1.A1+1),A7:=x5.1.A7,A9:=x5.1.A9},x5.2))) (.br (x3.2.2.B5==3) (.lf ({B2:=x3.1,Mem:=x3.2.1,A6:=x2.A6,B0:=x2.B0,B1:=x2.B1,C5:=x2.C5,A2:=x2.A2,A1:=wrap u64 (x2.A1+1),A7:=true,A9:=x2.A9},[])) (.br (x3.2.2.B5==4) (.lf ({B2:=x3.1,Mem:=x3.2.1,A6:=x2.A6,B0:=x2.B0,B1:=x2.B1,C5:=x2.C5,A2:=x2.A2,A1:=wrap u64 (x2.A1+1),A7:=x2.A7,A9:=true},[])) (.lf ({B2:=x3.1,Mem:=x3.2.1,A6:=x2.A6,B0:=x2.B0,B1:=x2.B1,C5:=x2.C5,A2:=x2.A2,A1:=wrap u64 (x2.A1+1),A7:=x2.A7,A9:=x2.A9},[]))))))))))
def Q1t(m:Q00)(clock:Int):(Q00×(List Q03)):=(Q2t m clock).m
abbrev Q2c(m:Q00)(clock:Int):Prop:=(Q2t m clock).p
def Z3h:Q0d:=Q0d.fz<|mkP 58 [] false [.agg Q00.sig, .one (.int .u32)] [] (λargs rows=>Q2c (Q00.of (args.getD 0 .dead).cells) (argI args 1)) (λargs rows=>Q1t (Q00.of (args.getD 0 .dead).cells) (argI args 1)) (λX=> .tup [.agg (Q00.cells (X.1)), .sl 4 (.recs .apiOutput (X.2)) false]) (λX=>[])
theorem Qn7:Q07 Tryz.prog Z3h:=Zjp<|Q0p Q0j Q0k (.cons Q0t (.cons Qo2 (.cons Qm1 (.cons Qyh (.cons Qqi (.cons Qp7 (.nil))))))) Tryz.func58 Tryz.call58 (λargs rows=>Q2t (Q00.of (args.getD 0 .dead).cells) (argI args 1)) [.sl (.ints .u32) false, .sl (.recs .apiOutput) false] [] 2 (λ_ _ _=>by kernel_rfl) (λ_ _=>rfl) (λ_ _ h=>h) (λh=>by cases h)
end
end Go.Proofs.YtpcbkbalabgnlaaGreat

/-
  Functions of the program: models, and that its calls come to them (by a program: gen3.py).
-/
import Derived.Test.YtpcbkbalabgnlaaGreatRecordQueueBase
import Derived.Test.YtpcbkbalabgnlaaGreatRecordQueueHand
import Derived.Test.YtpcbkbalabgnlaaGreatRecordQueueYc
import Derived.Test.YtpcbkbalabgnlaaGreatRecordQueueYb
import Derived.Test.YtpcbkbalabgnlaaGreatRecordQueueYa
set_option linter.unusedVariables false
set_option linter.unusedSimpArgs false
namespace Go.Proofs.YtpcbkbalabgnlaaGreat
open Go Go.GD Go.IntKind
set_option maxRecDepth 100000
noncomputable section
def Q3a(m:Q00):Tree Bool:=
.an (Q5r m) (.lv (Q1c m) λ(x0:Bool)=> .br x0 (.br (!m.A6) (.an (Q2x m) (.lv (Q6e m) λ(x1:Bool)=> .br (!x1) (.lf (decide (m.A4<1152921504606846976))) (.lf false))) (.lf false)) (.lf false))
def Q2n(m:Q00):Bool:=(Q3a m).m
abbrev Q5y(m:Q00):Prop:=(Q3a m).p
def Qwj:Q0f:=mkP 96 [] true [.agg Q00.sig] [] (λargs rows=>Q5y (Q00.of (args.getD 0 .dead).cells)) (λargs rows=>Q2n (Q00.of (args.getD 0 .dead).cells)) (λX=> .bool X) (λX=>[])
theorem Qji:Q09 Tryz.prog Qwj:=Q0x Q0o Q0p (.cons Qgp (.cons Qj4 (.nil))) Tryz.func96 Tryz.call96 (λargs rows=>Q3a (Q00.of (args.getD 0 .dead).cells)) [] [] 2 (λ_ _ _=>by kernel_rfl) (λ_ _=>rfl) (λ_ _ h=>h) (λ_ X=>by kernel_rfl)
def Qan(m:Q00)(z:(Int)):Nat:=(5-z).toNat
def Q2c(m:Q00):Tree Q00:=
let E1:=({B4:=m.B4,Mem:=m.Mem,A2:=m.A2,A9:=m.A9,B2:=m.B2,C6:=m.C6,A1:=m.A1,A4:=m.A4,A3:=false,A6:=m.A6}:Q00); .br (iand u32 m.B4.B5.a0 (2:Int)==(0:Int)) (.lf (E1)) (.an (Q3u E1) (.lv (Q5l E1) λ(x0:Int)=> .lp inferInstance (Qan m 0+1) (((rE (0:Nat)∧rE (0:Nat))∧(rE (0:Nat)∧rE (0:Nat))∧rE (x0:Int)∧rE (0:Int)∧True)∧(rE m.B4.X.a0∧rE m.B4.X.a1∧rE m.B4.X.a2∧rE m.B4.X.a3∧rE m.B4.X.a4∧rE m.B4.X.a5∧rE m.B4.X.a6∧rE m.B4.X.a7∧rE m.B4.X.a8∧rE m.B4.X.a9∧rE m.B4.X.a10∧rE m.B4.X.a11∧rE m.B4.X.a12∧rE m.B4.X.a13∧rE m.B4.X.a14∧rE m.B4.X.a15∧rE m.B4.Pc∧rE m.B4.B5.a0∧rE m.B4.B5.a1∧rE m.B4.B5.a2∧rE m.B4.B5.a3∧rE m.B4.B5.a4∧rE m.B4.B5.a5∧rE m.B4.B5.a6∧rE m.B4.B5.a7∧((Els.Nil (Els.ints u32 m.Mem)∨rE (1:Nat))∧rE m.Mem)∧rE m.A2.D2∧rE m.A9.D6∧rE m.A9.C7∧rE m.A9.D5∧rE m.B2.Blocks∧rE m.B2.C1∧rE m.B2.B3∧rE m.B2.B9∧rE m.B2.D7∧rE m.B2.B6∧rE m.B2.B0∧rE m.B2.C3∧rE m.C6.B3∧rE m.C6.F0∧rE m.C6.C4∧rE m.C6.C0∧rE m.C6.B7∧rE m.C6.F2∧rE m.A1.C8∧rE m.A1.C2∧rE m.A4∧rE (false:Bool)∧rE m.A6∧True)∧(mE zM True True)∧True) 0 λ(v0:Int)=> .br (decide (v0<5)) (.cn (decide (0≤v0)) (.br (iand u32 x0 (ishl u32 1 v0) !=0) (.lv (Q4e m.B4 (wrap i64 (16+v0)) 0) λ(x1:Q03)=> .lf (Sum.inr {B4:=x1,Mem:=m.Mem,A2:=m.A2,A9:=m.A9,B2:=m.B2,C6:=m.C6,A1:=m.A1,A4:=m.A4,A3:=false,A6:=m.A6})) (.nx (((rE (0:Nat)∧rE (0:Nat))∧(rE (0:Nat)∧rE (0:Nat))∧rE (x0:Int)∧rE ((wrap i64 (v0+1)):Int)∧True)∧(rE m.B4.X.a0∧rE m.B4.X.a1∧rE m.B4.X.a2∧rE m.B4.X.a3∧rE m.B4.X.a4∧rE m.B4.X.a5∧rE m.B4.X.a6∧rE m.B4.X.a7∧rE m.B4.X.a8∧rE m.B4.X.a9∧rE m.B4.X.a10∧rE m.B4.X.a11∧rE m.B4.X.a12∧rE m.B4.X.a13∧rE m.B4.X.a14∧rE m.B4.X.a15∧rE m.B4.Pc∧rE m.B4.B5.a0∧rE m.B4.B5.a1∧rE m.B4.B5.a2∧rE m.B4.B5.a3∧rE m.B4.B5.a4∧rE m.B4.B5.a5∧rE m.B4.B5.a6∧rE m.B4.B5.a7∧((Els.Nil (Els.ints u32 m.Mem)∨rE (1:Nat))∧rE m.Mem)∧rE m.A2.D2∧rE m.A9.D6∧rE m.A9.C7∧rE m.A9.D5∧rE m.B2.Blocks∧rE m.B2.C1∧rE m.B2.B3∧rE m.B2.B9∧rE m.B2.D7∧rE m.B2.B6∧rE m.B2.B0∧rE m.B2.C3∧rE m.C6.B3∧rE m.C6.F0∧rE m.C6.C4∧rE m.C6.C0∧rE m.C6.B7∧rE m.C6.F2∧rE m.A1.C8∧rE m.A1.C2∧rE m.A4∧rE (false:Bool)∧rE m.A6∧True)∧(mE zM True True)∧True) (Sum.inl (wrap i64 (v0+1)))))) (.lf (Sum.inr E1))))
def Q0q(m:Q00):Q00:=(Q2c m).m
abbrev Q56(m:Q00):Prop:=(Q2c m).p
def Qrx:LInv:={
 α:=(Int)
 F:=λst a=>([(1, .ptr 0 0 0),(2, .ptr 1 0 0),(3,(lk st 3)),(15, .int i64 a)],[⟨true,41,49, .gen [[(cT st 1 0),(cT st 1 1),(cT st 1 2),(cT st 1 3),(cT st 1 4),(cT st 1 5),(cT st 1 6),(cT st 1 7),(cT st 1 8),(cT st 1 9),(cT st 1 10),(cT st 1 11),(cT st 1 12),(cT st 1 13),(cT st 1 14),(cT st 1 15),(cT st 1 16),(cT st 1 17),(cT st 1 18),(cT st 1 19),(cT st 1 20),(cT st 1 21),(cT st 1 22),(cT st 1 23),(cT st 1 24),(cT st 1 25),(cT st 1 26),(cT st 1 27),(cT st 1 28),(cT st 1 29),(cT st 1 30),(cT st 1 31),(cT st 1 32),(cT st 1 33),(cT st 1 34),(cT st 1 35),(cT st 1 36),(cT st 1 37),(cT st 1 38),(cT st 1 39),(cT st 1 40),(cT st 1 41),(cT st 1 42),(cT st 1 43),(cT st 1 44),(cT st 1 45),(cT st 1 46),(cT st 1 47),(cT st 1 48)]]⟩,⟨true,41,49, .gen [[(cT st 2 0),(cT st 2 1),(cT st 2 2),(cT st 2 3),(cT st 2 4),(cT st 2 5),(cT st 2 6),(cT st 2 7),(cT st 2 8),(cT st 2 9),(cT st 2 10),(cT st 2 11),(cT st 2 12),(cT st 2 13),(cT st 2 14),(cT st 2 15),(cT st 2 16),(cT st 2 17),(cT st 2 18),(cT st 2 19),(cT st 2 20),(cT st 2 21),(cT st 2 22),(cT st 2 23),(cT st 2 24),(cT st 2 25),(cT st 2 26),(cT st 2 27),(cT st 2 28),(cT st 2 29),(cT st 2 30),(cT st 2 31),(cT st 2 32),(cT st 2 33),(cT st 2 34),(cT st 2 35),(cT st 2 36),(cT st 2 37),(cT st 2 38),(cT st 2 39),(cT st 2 40),(cT st 2 41),(cT st 2 42),(cT st 2 43),(cT st 2 44),(cT st 2 45),(cT st 2 46),(cT st 2 47),(cT st 2 48)]]⟩])
 a0:=λst=>(lk st 15).toInt
 ex0:=λst=>[]++[(Q1l (lk st 1) (st.rows.length+0)),(Q1l (lk st 2) (st.rows.length+1))]
 next:=λst=>(lk st 15).toInt
 ex:=λst=>[]++[(Q1l (lk st 1) (st.rows.length+0)),(Q1l (lk st 2) (st.rows.length+1))]}
def Qo3:List (Nat×LInv):=[(6,Qrx)]
def Quw:Q0f:=Q0f.fz<|mkP 97 [] false [.agg Q00.sig] [] (λargs rows=>Q56 (Q00.of (args.getD 0 .dead).cells)) (λargs rows=>Q0q (Q00.of (args.getD 0 .dead).cells)) (λX=> .agg (Q00.cells X)) (λX=>[])
theorem Qij:Q09 Tryz.prog Quw:=fz_ok<|Q0x Q0o Q0p (.cons Qg6 (.cons Qeq (.nil))) Tryz.func97 Tryz.call97 (λargs rows=>Q2c (Q00.of (args.getD 0 .dead).cells)) [.sl (.ints .u32) false] Qo3 3 (λ_ _ _=>by kernel_rfl) (λ_ _=>rfl) (λ_ _ h=>h) (λh=>by cases h)
def Q8c(c:Q0c)(port:Int):Tree (Q0c×Int):=
.br (port==0) (.br (decide (c.D2=[])) (.lf (c,4294967295)) (.cn (decide ((0:Int)≤(0:Int)∧0<(c.D2.length:Int))) (.cn (decide ((0:Int)≤(1:Int)∧1≤(c.D2.length:Int)∧(c.D2.length:Int)≤(c.D2.length:Int))) (.lf ({D2:=List.take (Int.toNat (c.D2.length:Int)-Int.toNat 1) (List.drop (Int.toNat 1) c.D2)},wrap u32 (↑(UInt8.toNat (c.D2.getD (Int.toNat 0) (0:UInt8))):Int)))))) (.br (port==1) (.lf (c,wrap u32 (c.D2.length:Int))) (.lf (c,0)))
def Qka(c:Q0c)(port:Int):(Q0c×Int):=(Q8c c port).m
theorem Qxa(c:Q0c)(port:Int):(Q8c c port).p:=by
 unfold Tree.p Q8c
 repeat'(first|exact trivial|refine w_br (λ_=> ?_) (λ_=> ?_)|refine w_cn ?_ ?_|refine w_an ?_ ?_|refine w_lv (λ_ _=> ?_)|refine w_nx ?_|refine w_lf ?_|refine And.intro ?_ ?_)
 all_goals(((subst_vars;first|trivial|assumption|omega|((simp(config:={decide:=true,failIfUnchanged:=false}) only[Bool.and_eq_true,Bool.or_eq_true,Bool.and_eq_false_iff,Bool.or_eq_false_iff,Bool.not_eq_true',Bool.not_eq_false',Bool.not_eq_true,Bool.not_eq_false,decide_eq_true_eq,decide_eq_false_iff_not,Qhr,Qg8,Qif,Qgd,beq_iff_eq,beq_eq_false_iff_ne,bne_iff_ne,bne_eq_false_iff_eq,ne_eq,List.all_cons,List.all_nil,D.plain,List.length_cons,List.length_nil,List.length_append,List.length_set,List.length_replicate,IntKind.wrap_i64,IntKind.wrap_u64,IntKind.wrap_u32,IntKind.wrap_i32,IntKind.wrap_u8,true_and,and_true,or_false,false_or,or_true,true_or,not_true_eq_false,not_false_eq_true,Prod.fst,Prod.snd]at*);first|done|assumption|omega)|((simp(config:={decide:=true,failIfUnchanged:=false}) only[Bool.and_eq_true,Bool.or_eq_true,Bool.and_eq_false_iff,Bool.or_eq_false_iff,Bool.not_eq_true',Bool.not_eq_false',Bool.not_eq_true,Bool.not_eq_false,decide_eq_true_eq,decide_eq_false_iff_not,Qhr,Qg8,Qif,Qgd,beq_iff_eq,beq_eq_false_iff_ne,bne_iff_ne,bne_eq_false_iff_eq,ne_eq,List.all_cons,List.all_nil,D.plain,List.length_cons,List.length_nil,List.length_append,List.length_set,List.length_replicate,IntKind.wrap_i64,IntKind.wrap_u64,IntKind.wrap_u32,IntKind.wrap_i32,IntKind.wrap_u8,true_and,and_true,or_false,false_or,or_true,true_or,not_true_eq_false,not_false_eq_true,Prod.fst,Prod.snd]at*);simp only[←List.length_pos_iff]at*;omega)|(simp_all;done)|(have:= @Z0y;simp_all;try omega))))
def Z39:Q0f:=mkR 137 [] true [.agg Q0c.sig, .one (.int .i64)] [] (λargs rows=>Qka (Q0c.of (args.getD 0 .dead).cells) (argI args 1)) (λX=> .tup [.agg (Q0c.cells (X.1)), .int .u32 (X.2)]) (λX=>[])
theorem Z0o:Q09 Tryz.prog Z39:=Q27 Q0o Q0p (.nil) Tryz.func137 Tryz.call137 (λargs rows=>Q8c (Q0c.of (args.getD 0 .dead).cells) (argI args 1)) [] [] 2 (λ_ _ _=>by kernel_rfl) (λ_ _=>rfl) (λargs rows=>Qxa (Q0c.of (args.getD 0 .dead).cells) (argI args 1)) (λ_ X=>by kernel_rfl)
def Qkk(t:Q0h):Tree Int:=
.br t.D5 (.lf 1) (.lf 0)
def Qsd(t:Q0h):Int:=(Qkk t).m
def Zbr:Q0f:=mkR 138 [] true [.agg Q0h.sig] [] (λargs rows=>Qsd (Q0h.of (args.getD 0 .dead).cells)) (λX=> .int .u32 X) (λX=>[])
theorem Z6x:Q09 Tryz.prog Zbr:=Q27 Q0o Q0p (.nil) Tryz.func138 Tryz.call138 (λargs rows=>Qkk (Q0h.of (args.getD 0 .dead).cells)) [] [] 2 (λ_ _ _=>by kernel_rfl) (λ_ _=>rfl) (λ_ _=>Tree.free_ok (by kernel_rfl)) (λ_ X=>by kernel_rfl)
def Qnu(d0:Q0b)(port:Int):Tree Int:=
.br (port==4) (.lf d0.C1) (.br (port==5) (.lf d0.B3) (.br (port==6) (.lf (wrap u32 d0.B9)) (.lf 0)))
def Qpt(d0:Q0b)(port:Int):Int:=(Qnu d0 port).m
def disk_In_m:Q0f:=mkR 139 [] true [.agg Q0b.sig, .one (.int .i64)] [] (λargs rows=>Qpt (Q0b.of (args.getD 0 .dead).cells) (argI args 1)) (λX=> .int .u32 X) (λX=>[])
theorem Zb:Q09 Tryz.prog disk_In_m:=Q27 Q0o Q0p (.nil) Tryz.func139 Tryz.call139 (λargs rows=>Qnu (Q0b.of (args.getD 0 .dead).cells) (argI args 1)) [] [] 2 (λ_ _ _=>by kernel_rfl) (λ_ _=>rfl) (λ_ _=>Tree.free_ok (by kernel_rfl)) (λ_ X=>by kernel_rfl)
def Qo8(n:Q0k)(port:Int):Tree Int:=
.br (port==7) (.lf n.B3) (.br (port==8) (.lf n.F2) (.br (port==9) (.br n.C4 (.br n.B7 (.lf (wrap u32 (wrap u32 ((0:Int)+(1:Int))+2))) (.lf (wrap u32 ((0:Int)+(1:Int))))) (.br n.B7 (.lf (wrap u32 ((0:Int)+(2:Int)))) (.lf 0))) (.lf 0)))
def Qv6(n:Q0k)(port:Int):Int:=(Qo8 n port).m
def nic_In_m:Q0f:=mkR 140 [] true [.agg Q0k.sig, .one (.int .i64)] [] (λargs rows=>Qv6 (Q0k.of (args.getD 0 .dead).cells) (argI args 1)) (λX=> .int .u32 X) (λX=>[])
theorem nic_In_ok:Q09 Tryz.prog nic_In_m:=Q27 Q0o Q0p (.nil) Tryz.func140 Tryz.call140 (λargs rows=>Qo8 (Q0k.of (args.getD 0 .dead).cells) (argI args 1)) [] [] 2 (λ_ _ _=>by kernel_rfl) (λ_ _=>rfl) (λ_ _=>Tree.free_ok (by kernel_rfl)) (λ_ X=>by kernel_rfl)
def Q62(b:Q07)(port:Int):Tree Int:=
.br (port==10) (.lf b.C8) (.br (port==11) (.an (Q5a b) (.lv (Qb7 b) λ(x0:Int)=> .lf (wrap u32 x0))) (.lf 0))
def Qkl(b:Q07)(port:Int):Int:=(Q62 b port).m
abbrev Qa1(b:Q07)(port:Int):Prop:=(Q62 b port).p
def Z2j:Q0f:=mkP 141 [] true [.agg Q07.sig, .one (.int .i64)] [] (λargs rows=>Qa1 (Q07.of (args.getD 0 .dead).cells) (argI args 1)) (λargs rows=>Qkl (Q07.of (args.getD 0 .dead).cells) (argI args 1)) (λX=> .int .u32 X) (λX=>[])
theorem Z1d:Q09 Tryz.prog Z2j:=Q0x Q0o Q0p (.cons Qir (.nil)) Tryz.func141 Tryz.call141 (λargs rows=>Q62 (Q07.of (args.getD 0 .dead).cells) (argI args 1)) [] [] 2 (λ_ _ _=>by kernel_rfl) (λ_ _=>rfl) (λ_ _ h=>h) (λ_ X=>by kernel_rfl)
def Q26(m:Q00)(port:Int)(clock:Int):Tree (Q00×Int):=
let T1:Tree ((Q00×Int)):= .lv (Qka m.A2 port) λ(x0:Q0c×Int)=> .lf ({B4:=m.B4,Mem:=m.Mem,A2:=x0.1,A9:=m.A9,B2:=m.B2,C6:=m.C6,A1:=m.A1,A4:=m.A4,A3:=m.A3,A6:=m.A6},x0.2); .br (port==0) T1 (.br (port==1) T1 (.br (port==2) (.lf (m,clock)) (.br (port==3) (.lv (Qsd m.A9) λ(x2:Int)=> .lf (m,x2)) (.br (port==4) (.lv (Qpt m.B2 port) λ(x3:Int)=> .lf (m,x3)) (.br (port==5) (.lv (Qpt m.B2 port) λ(x4:Int)=> .lf (m,x4)) (.br (port==6) (.lv (Qpt m.B2 port) λ(x5:Int)=> .lf (m,x5)) (.br (port==7) (.lv (Qv6 m.C6 port) λ(x6:Int)=> .lf (m,x6)) (.br (port==8) (.lv (Qv6 m.C6 port) λ(x7:Int)=> .lf (m,x7)) (.br (port==9) (.lv (Qv6 m.C6 port) λ(x8:Int)=> .lf (m,x8)) (let T2:Tree ((Q00×Int)):= .an (Qa1 m.A1 port) (.lv (Qkl m.A1 port) λ(x9:Int)=> .lf (m,x9)); .br (port==10) T2 (.br (port==11) T2 (.lf (m,0)))))))))))))
def Q1b(m:Q00)(port:Int)(clock:Int):(Q00×Int):=(Q26 m port clock).m
abbrev Q4p(m:Q00)(port:Int)(clock:Int):Prop:=(Q26 m port clock).p
def Qnn:Q0f:=Q0f.fz<|mkP 99 [] false [.agg Q00.sig, .one (.int .i64), .one (.int .u32)] [] (λargs rows=>Q4p (Q00.of (args.getD 0 .dead).cells) (argI args 1) (argI args 2)) (λargs rows=>Q1b (Q00.of (args.getD 0 .dead).cells) (argI args 1) (argI args 2)) (λX=> .tup [.agg (Q00.cells (X.1)), .int .u32 (X.2)]) (λX=>[])
theorem Qlz:Q09 Tryz.prog Qnn:=fz_ok<|Q0x Q0o Q0p (.cons Z0o (.cons Z6x (.cons Zb (.cons nic_In_ok (.cons Z1d (.nil)))))) Tryz.func99 Tryz.call99 (λargs rows=>Q26 (Q00.of (args.getD 0 .dead).cells) (argI args 1) (argI args 2)) [.sl (.ints .u32) false] [] 2 (λ_ _ _=>by kernel_rfl) (λ_ _=>rfl) (λ_ _ h=>h) (λh=>by cases h)
def Qi2(t:Q0h)(deadline:Int):Tree Q0h:=
.lf ({D6:=deadline !=0,C7:=deadline,D5:=false})
def Qhf(t:Q0h)(deadline:Int):Q0h:=(Qi2 t deadline).m
def Z6j:Q0f:=mkR 142 [] true [.agg Q0h.sig, .one (.int .u32)] [] (λargs rows=>Qhf (Q0h.of (args.getD 0 .dead).cells) (argI args 1)) (λX=> .agg (Q0h.cells X)) (λX=>[])
theorem Z3n:Q09 Tryz.prog Z6j:=Q27 Q0o Q0p (.nil) Tryz.func142 Tryz.call142 (λargs rows=>Qi2 (Q0h.of (args.getD 0 .dead).cells) (argI args 1)) [] [] 2 (λ_ _ _=>by kernel_rfl) (λ_ _=>rfl) (λ_ _=>Tree.free_ok (by kernel_rfl)) (λ_ X=>by kernel_rfl)
def Qbk(m:(List Int))(frame:Int):Tree Bool:=
.lv (Q0n m) λ(x0:Int)=> .lf (decide (wrap u64 frame<wrap u64 x0))
def Q8t(m:(List Int))(frame:Int):Bool:=(Qbk m frame).m
def Z17:Q0f:=mkR 124 [] true [.one (.ints .u32), .one (.int .u32)] [] (λargs rows=>Q8t (argL .u32 args 0) (argI args 1)) (λX=> .bool X) (λX=>[])
theorem Qlr:Q09 Tryz.prog Z17:=Q27 Q0o Q0p (.cons Q49 (.nil)) Tryz.func124 Tryz.call124 (λargs rows=>Qbk (argL .u32 args 0) (argI args 1)) [] [] 2 (λ_ _ _=>by kernel_rfl) (λ_ _=>rfl) (λ_ _=>Tree.free_ok (by kernel_rfl)) (λ_ X=>by kernel_rfl)
def Q7s(m:(List Int))(frame:Int):Tree Bool:=
.br (decide (frame≥0)) (.lv (Q0n m) λ(x0:Int)=> .lf (decide (frame<x0))) (.lf false)
def Q51(m:(List Int))(frame:Int):Bool:=(Q7s m frame).m
def Qrt:Q0f:=mkR 173 [] true [.one (.ints .u32), .one (.int .i64)] [] (λargs rows=>Q51 (argL .u32 args 0) (argI args 1)) (λX=> .bool X) (λX=>[])
theorem Qgu:Q09 Tryz.prog Qrt:=Q27 Q0o Q0p (.cons Q49 (.nil)) Tryz.func173 Tryz.call173 (λargs rows=>Q7s (argL .u32 args 0) (argI args 1)) [] [] 2 (λ_ _ _=>by kernel_rfl) (λ_ _=>rfl) (λ_ _=>Tree.free_ok (by kernel_rfl)) (λ_ X=>by kernel_rfl)
def Qiv(words:(List Int))(z:(Int)×(List Int)):Prop:=0≤z.1∧z.1≤words.length∧(z.2.length:Int)=4*z.1
def Q70(words:(List Int))(z:(Int)×(List Int)):Nat:=(words.length-z.1).toNat
def Q4w(words:(List Int)):Tree (List UInt8):=
.cn (Nat.blt 0 1&&Nat.beq 1 1&&List.all [D.int u8 0] D.plain&&decide ((0:Int)≤(0:Int)∧0≤wrap i64 (4*(words.length:Int))∧wrap i64 (4*(words.length:Int))≤9223372036854775807∧(↑1:Int)*wrap i64 (4*(words.length:Int))≤140737488355328)) (.lp inferInstance (Q70 words (0,[])+1) ((True∧((Els.Nil (Els.ints u32 words)∨rE (1:Nat))∧rE (words:List Int))∧rE ((words.length:Int):Int)∧rE (0:Int)∧True)∧rE ([]:List Int)∧True) (0,[]) λ(v0:Int×List Int)=> .br (decide (v0.1<(words.length:Int))) (.cn (Nat.beq 1 1&&Nat.blt 0 1&&decide (0≤v0.1∧v0.1<(words.length:Int))) (.cn (decide (1*(v0.2.length+4)≤140737488355328)) (let E1:=words.getD v0.1.toNat 0; .nx ((True∧((Els.Nil (Els.ints u32 words)∨rE (1:Nat))∧rE (words:List Int))∧rE ((words.length:Int):Int)∧rE ((wrap i64 (v0.1+1)):Int)∧True)∧rE ((v0.2++[wrap u8 (words.getD v0.1.toNat 0),wrap u8 (ishr u32 (words.getD v0.1.toNat 0) 8),wrap u8 (ishr u32 (words.getD v0.1.toNat 0) 16),wrap u8 (ishr u32 (words.getD v0.1.toNat 0) 24)]):List Int)∧True) (Sum.inl (wrap i64 (v0.1+1),v0.2++[wrap u8 E1,wrap u8 (ishr u32 E1 8),wrap u8 (ishr u32 E1 16),wrap u8 (ishr u32 E1 24)]))))) (.lf (Sum.inr (bytesOf v0.2))))
def Quz(words:(List Int)):(List UInt8):=(Q4w words).m
def Q3d(words:(List Int)):Prop:=
words.length≤1000000000000
theorem Qub(words:(List Int))(hw:Q3d words):(Q4w words).p:=by
 simp only[Q3d]at hw
 unfold Tree.p Q4w
 repeat'(first|refine w_lp (inv:=Qiv words) (μ:=Q70 words) ?_ (Nat.lt_succ_self _) (λ_ _=> ?_)|exact trivial|refine w_br (λ_=> ?_) (λ_=> ?_)|refine w_cn ?_ ?_|refine w_an ?_ ?_|refine w_lv (λ_ _=> ?_)|refine w_nx ?_|refine w_lf ?_|refine And.intro ?_ ?_)
 all_goals((try simp only[Qiv,Q70]at*);((subst_vars;first|trivial|assumption|omega|((simp(config:={decide:=true,failIfUnchanged:=false}) only[Bool.and_eq_true,Bool.or_eq_true,Bool.and_eq_false_iff,Bool.or_eq_false_iff,Bool.not_eq_true',Bool.not_eq_false',Bool.not_eq_true,Bool.not_eq_false,decide_eq_true_eq,decide_eq_false_iff_not,Qhr,Qg8,Qif,Qgd,beq_iff_eq,beq_eq_false_iff_ne,bne_iff_ne,bne_eq_false_iff_eq,ne_eq,List.all_cons,List.all_nil,D.plain,List.length_cons,List.length_nil,List.length_append,List.length_set,List.length_replicate,IntKind.wrap_i64,IntKind.wrap_u64,IntKind.wrap_u32,IntKind.wrap_i32,IntKind.wrap_u8,true_and,and_true,or_false,false_or,or_true,true_or,not_true_eq_false,not_false_eq_true,Prod.fst,Prod.snd]at*);first|done|assumption|omega)|((simp(config:={decide:=true,failIfUnchanged:=false}) only[Bool.and_eq_true,Bool.or_eq_true,Bool.and_eq_false_iff,Bool.or_eq_false_iff,Bool.not_eq_true',Bool.not_eq_false',Bool.not_eq_true,Bool.not_eq_false,decide_eq_true_eq,decide_eq_false_iff_not,Qhr,Qg8,Qif,Qgd,beq_iff_eq,beq_eq_false_iff_ne,bne_iff_ne,bne_eq_false_iff_eq,ne_eq,List.all_cons,List.all_nil,D.plain,List.length_cons,List.length_nil,List.length_append,List.length_set,List.length_replicate,IntKind.wrap_i64,IntKind.wrap_u64,IntKind.wrap_u32,IntKind.wrap_i32,IntKind.wrap_u8,true_and,and_true,or_false,false_or,or_true,true_or,not_true_eq_false,not_false_eq_true,Prod.fst,Prod.snd]at*);simp only[←List.length_pos_iff]at*;omega)|(simp_all;done)|(have:= @Z0y;simp_all;try omega))))
def Qw2:LInv:={
 α:=(Int)×(List Int)
 F:=λst a=>([(3, .all 0),(10,(lk st 10)),(11,(lk st 11)),(12, .int i64 a.1)],[⟨false,5,1, .ints u8 a.2⟩])
 a0:=λst=>((lk st 12).toInt,(Qgb st.rows (rN st 3)))
 ex0:=λst=>[]++[(Q1l (lk st 3) (st.rows.length+0))]
 next:=λst=>((lk st 12).toInt,(Qgb st.rows (rN st 3)))
 ex:=λst=>[]++[(Q1l (lk st 3) (st.rows.length+0))]}
def Qrp:List (Nat×LInv):=[(3,Qw2)]
def Z0e:Q0f:=mkP 174 [] true [.one (.ints .u32)] [] (λargs rows=>Q3d (argL .u32 args 0)) (λargs rows=>Quz (argL .u32 args 0)) (λX=> .str X) (λX=>[])
theorem Qwe:Q09 Tryz.prog Z0e:=Q0x Q0o Q0p (.nil) Tryz.func174 Tryz.call174 (λargs rows=>Q4w (argL .u32 args 0)) [] Qrp 3 (λ_ _ _=>by kernel_rfl) (λ_ _=>rfl) (λargs rows h=>Qub (argL .u32 args 0) h) (λ_ X=>by kernel_rfl)
def Q3e(m:(List Int))(frame:Int):Tree ((List UInt8)×Bool):=
.lv (Q51 m frame) λ(x0:Bool)=> .br (!x0) (.lf ([],false)) (.cn (Nat.beq 1 1&&Nat.blt 0 1&&decide (0≤wrap i64 (frame*32)∧wrap i64 (frame*32)≤wrap i64 (wrap i64 (frame*32)+32)∧wrap i64 (wrap i64 (frame*32)+32)≤(m.length:Int))) (let E1:=List.take (Int.toNat (wrap i64 (wrap i64 (frame*32)+32))-Int.toNat (wrap i64 (frame*32))) (List.drop (Int.toNat (wrap i64 (frame*32))) m); .an (Q3d E1) (.lv (Quz E1) λ(x1:List UInt8)=> .lf (x1,true))))
def Q5d(m:(List Int))(frame:Int):((List UInt8)×Bool):=(Q3e m frame).m
abbrev Q5h(m:(List Int))(frame:Int):Prop:=(Q3e m frame).p
def Z15:Q0f:=mkP 127 [] true [.one (.ints .u32), .one (.int .i64)] [] (λargs rows=>Q5h (argL .u32 args 0) (argI args 1)) (λargs rows=>Q5d (argL .u32 args 0) (argI args 1)) (λX=> .tup [.str (X.1), .bool (X.2)]) (λX=>[])
theorem Qgh:Q09 Tryz.prog Z15:=Q0x Q0o Q0p (.cons Qgu (.cons Qwe (.nil))) Tryz.func127 Tryz.call127 (λargs rows=>Q3e (argL .u32 args 0) (argI args 1)) [] [] 2 (λ_ _ _=>by kernel_rfl) (λ_ _=>rfl) (λ_ _ h=>h) (λ_ X=>by kernel_rfl)
def Qll(d0:Q0b)(at0:Int):Tree (Q0a×Bool):=
.br (d0.B9 !=1) (.lf ({B8:=0,At:=0,C1:=0,C5:=[]},false)) (.br (d0.D7==1) (.lf ({B8:=3,At:=at0,C1:=d0.B6,C5:=[]},true)) (.br (d0.D7==2) (.lf ({B8:=4,At:=at0,C1:=d0.B6,C5:=d0.C3},true)) (.lf ({B8:=0,At:=0,C1:=0,C5:=[]},false))))
def Qg2(d0:Q0b)(at0:Int):(Q0a×Bool):=(Qll d0 at0).m
def Qwt:Q0f:=mkR 235 [] true [.agg Q0b.sig, .one (.int .u64)] [] (λargs rows=>Qg2 (Q0b.of (args.getD 0 .dead).cells) (argI args 1)) (λX=> .tup [.agg (Q0a.cells (X.1)), .bool (X.2)]) (λX=>[])
theorem Qtd:Q09 Tryz.prog Qwt:=Q27 Q0o Q0p (.nil) Tryz.func235 Tryz.call235 (λargs rows=>Qll (Q0b.of (args.getD 0 .dead).cells) (argI args 1)) [] [] 2 (λ_ _ _=>by kernel_rfl) (λ_ _=>rfl) (λ_ _=>Tree.free_ok (by kernel_rfl)) (λ_ X=>by kernel_rfl)
def Q64(d0:Q0b)(m:(List Int))(cmd:Int)(at0:Int):Tree (Q0b×(List Q0a)):=
.br (d0.B9 !=0) (.lf (d0,[])) (let T1:Tree ((Q0b×(List Q0a))):= .lf ({Blocks:=d0.Blocks,C1:=d0.C1,B3:=d0.B3,B9:=3,D7:=d0.D7,B6:=d0.B6,B0:=d0.B0,C3:=d0.C3},[]); .br (decide (d0.C1≥d0.Blocks)) T1 (.lv (Q8t m d0.B3) λ(x0:Bool)=> .br (!x0) T1 (.br (cmd==2) (.an (Q5h m (wrap i64 d0.B3)) (.lv (Q5d m (wrap i64 d0.B3)) λ(x1:List UInt8×Bool)=>let E2:=({Blocks:=d0.Blocks,C1:=d0.C1,B3:=d0.B3,B9:=1,D7:=cmd,B6:=d0.C1,B0:=d0.B3,C3:=x1.1}:Q0b); .lv (Qg2 E2 at0) λ(x2:Q0a×Bool)=> .lf (E2,[x2.1]))) (let E3:=({Blocks:=d0.Blocks,C1:=d0.C1,B3:=d0.B3,B9:=1,D7:=cmd,B6:=d0.C1,B0:=d0.B3,C3:=[]}:Q0b); .lv (Qg2 E3 at0) λ(x3:Q0a×Bool)=> .lf (E3,[x3.1])))))
def Qq9(d0:Q0b)(m:(List Int))(cmd:Int)(at0:Int):(Q0b×(List Q0a)):=(Q64 d0 m cmd at0).m
abbrev Qa8(d0:Q0b)(m:(List Int))(cmd:Int)(at0:Int):Prop:=(Q64 d0 m cmd at0).p
def Z54:Q0f:=mkP 195 [] true [.agg Q0b.sig, .one (.ints .u32), .one (.int .i64), .one (.int .u64)] [] (λargs rows=>Qa8 (Q0b.of (args.getD 0 .dead).cells) (argL .u32 args 1) (argI args 2) (argI args 3)) (λargs rows=>Qq9 (Q0b.of (args.getD 0 .dead).cells) (argL .u32 args 1) (argI args 2) (argI args 3)) (λX=> .tup [.agg (Q0b.cells (X.1)), .sl 4 (.recs .apiOutput (X.2)) true]) (λX=>[])
theorem Z0x:Q09 Tryz.prog Z54:=Q0x Q0o Q0p (.cons Qlr (.cons Qgh (.cons Qtd (.nil)))) Tryz.func195 Tryz.call195 (λargs rows=>Q64 (Q0b.of (args.getD 0 .dead).cells) (argL .u32 args 1) (argI args 2) (argI args 3)) [.sl (.recs .apiOutput) true] [] 2 (λ_ _ _=>by kernel_rfl) (λ_ _=>rfl) (λ_ _ h=>h) (λ_ X=>by kernel_rfl)
def Q8x(d0:Q0b)(m:(List Int))(port:Int)(v:Int)(at0:Int):Tree (Q0b×(List Q0a)):=
.br (port==4) (.lf ({Blocks:=d0.Blocks,C1:=v,B3:=d0.B3,B9:=d0.B9,D7:=d0.D7,B6:=d0.B6,B0:=d0.B0,C3:=d0.C3},[])) (.br (port==5) (.lf ({Blocks:=d0.Blocks,C1:=d0.C1,B3:=v,B9:=d0.B9,D7:=d0.D7,B6:=d0.B6,B0:=d0.B0,C3:=d0.C3},[])) (.br (port==6) (let T1:Tree ((Q0b×(List Q0a))):= .an (Qa8 d0 m (wrap i64 v) at0) (.lv (Qq9 d0 m (wrap i64 v) at0) λ(x0:Q0b×List Q0a)=> .lf (x0.1,x0.2)); .br (v==1) T1 (.br (v==2) T1 (.br (v==0) (.lv (Q8r d0) λ(x2:Bool)=> .br x2 (.lf ({Blocks:=d0.Blocks,C1:=d0.C1,B3:=d0.B3,B9:=0,D7:=d0.D7,B6:=d0.B6,B0:=d0.B0,C3:=d0.C3},[])) (.lf (d0,[]))) (.lf (d0,[]))))) (.lf (d0,[]))))
def Qst(d0:Q0b)(m:(List Int))(port:Int)(v:Int)(at0:Int):(Q0b×(List Q0a)):=(Q8x d0 m port v at0).m
abbrev Qdf(d0:Q0b)(m:(List Int))(port:Int)(v:Int)(at0:Int):Prop:=(Q8x d0 m port v at0).p
def Zb7:Q0f:=mkP 143 [] true [.agg Q0b.sig, .one (.ints .u32), .one (.int .i64), .one (.int .u32), .one (.int .u64)] [] (λargs rows=>Qdf (Q0b.of (args.getD 0 .dead).cells) (argL .u32 args 1) (argI args 2) (argI args 3) (argI args 4)) (λargs rows=>Qst (Q0b.of (args.getD 0 .dead).cells) (argL .u32 args 1) (argI args 2) (argI args 3) (argI args 4)) (λX=> .tup [.agg (Q0b.cells (X.1)), .sl 4 (.recs .apiOutput (X.2)) true]) (λX=>[])
theorem Z5u:Q09 Tryz.prog Zb7:=Q0x Q0o Q0p (.cons Z0x (.cons Qj0 (.nil))) Tryz.func143 Tryz.call143 (λargs rows=>Q8x (Q0b.of (args.getD 0 .dead).cells) (argL .u32 args 1) (argI args 2) (argI args 3) (argI args 4)) [.sl (.recs .apiOutput) true] [] 2 (λ_ _ _=>by kernel_rfl) (λ_ _=>rfl) (λ_ _ h=>h) (λ_ X=>by kernel_rfl)
def Qcx(m:(List Int))(frame:Int):Tree Bool:=
.lv (Q0n m) λ(x0:Int)=> .lf (decide (wrap u64 frame<wrap u64 x0))
def Q94(m:(List Int))(frame:Int):Bool:=(Qcx m frame).m
def Z4c:Q0f:=mkR 126 [] true [.one (.ints .u32), .one (.int .u32)] [] (λargs rows=>Q94 (argL .u32 args 0) (argI args 1)) (λX=> .bool X) (λX=>[])
theorem Qid:Q09 Tryz.prog Z4c:=Q27 Q0o Q0p (.cons Q49 (.nil)) Tryz.func126 Tryz.call126 (λargs rows=>Qcx (argL .u32 args 0) (argI args 1)) [] [] 2 (λ_ _ _=>by kernel_rfl) (λ_ _=>rfl) (λ_ _=>Tree.free_ok (by kernel_rfl)) (λ_ X=>by kernel_rfl)
def Q9b(n:Q0k)(m:(List Int))(at0:Int):Tree (List Q0a):=
.br (decide (n.F0<1)) (.lf ([])) (.br (decide (n.F0>128)) (.lf ([])) (.lv (Q94 m n.B3) λ(x0:Bool)=> .br (!x0) (.lf ([])) (.an (Q5h m (wrap i64 n.B3)) (.lv (Q5d m (wrap i64 n.B3)) λ(x1:List UInt8×Bool)=> .cn (decide ((0:Int)≤(0:Int)∧0≤n.F0∧n.F0≤(x1.1.length:Int))) (.lf ([{B8:=2,At:=at0,C1:=0,C5:=List.take (Int.toNat n.F0-Int.toNat 0) (List.drop (Int.toNat 0) x1.1)}]))))))
def Z04(n:Q0k)(m:(List Int))(at0:Int):(List Q0a):=(Q9b n m at0).m
abbrev Qd6(n:Q0k)(m:(List Int))(at0:Int):Prop:=(Q9b n m at0).p
def Zbc:Q0f:=mkP 196 [] true [.agg Q0k.sig, .one (.ints .u32), .one (.int .u64)] [] (λargs rows=>Qd6 (Q0k.of (args.getD 0 .dead).cells) (argL .u32 args 1) (argI args 2)) (λargs rows=>Z04 (Q0k.of (args.getD 0 .dead).cells) (argL .u32 args 1) (argI args 2)) (λX=> .sl 4 (.recs .apiOutput X) true) (λX=>[])
theorem Z6r:Q09 Tryz.prog Zbc:=Q0x Q0o Q0p (.cons Qid (.cons Qgh (.nil))) Tryz.func196 Tryz.call196 (λargs rows=>Q9b (Q0k.of (args.getD 0 .dead).cells) (argL .u32 args 1) (argI args 2)) [.sl (.recs .apiOutput) true] [] 2 (λ_ _ _=>by kernel_rfl) (λ_ _=>rfl) (λ_ _ h=>h) (λ_ X=>by kernel_rfl)
def Qbl(n:Q0k)(m:(List Int))(port:Int)(v:Int)(at0:Int):Tree (Q0k×(List Q0a)):=
.br (port==7) (.lf ({B3:=v,F0:=n.F0,C4:=n.C4,C0:=n.C0,B7:=n.B7,F2:=n.F2},[])) (.br (port==8) (.lf ({B3:=n.B3,F0:=v,C4:=n.C4,C0:=n.C0,B7:=n.B7,F2:=n.F2},[])) (.br (port==9) (.br (v==1) (.an (Qd6 n m at0) (.lv (Z04 n m at0) λ(x0:List Q0a)=> .lf (n,x0))) (.br (v==2) (.lv (Q94 m n.B3) λ(x1:Bool)=> .br x1 (.br (!n.C4) (.br (!n.B7) (.lf ({B3:=n.B3,F0:=n.F0,C4:=true,C0:=n.B3,B7:=n.B7,F2:=n.F2},[])) (.lf (n,[]))) (.lf (n,[]))) (.lf (n,[]))) (.br (v==0) (.lf ({B3:=n.B3,F0:=n.F0,C4:=n.C4,C0:=n.C0,B7:=false,F2:=0},[])) (.lf (n,[]))))) (.lf (n,[]))))
def Z01(n:Q0k)(m:(List Int))(port:Int)(v:Int)(at0:Int):(Q0k×(List Q0a)):=(Qbl n m port v at0).m
abbrev Qeo(n:Q0k)(m:(List Int))(port:Int)(v:Int)(at0:Int):Prop:=(Qbl n m port v at0).p
def nic_Out_m:Q0f:=mkP 144 [] true [.agg Q0k.sig, .one (.ints .u32), .one (.int .i64), .one (.int .u32), .one (.int .u64)] [] (λargs rows=>Qeo (Q0k.of (args.getD 0 .dead).cells) (argL .u32 args 1) (argI args 2) (argI args 3) (argI args 4)) (λargs rows=>Z01 (Q0k.of (args.getD 0 .dead).cells) (argL .u32 args 1) (argI args 2) (argI args 3) (argI args 4)) (λX=> .tup [.agg (Q0k.cells (X.1)), .sl 4 (.recs .apiOutput (X.2)) true]) (λX=>[])
theorem Zbj:Q09 Tryz.prog nic_Out_m:=Q0x Q0o Q0p (.cons Z6r (.cons Qid (.nil))) Tryz.func144 Tryz.call144 (λargs rows=>Qbl (Q0k.of (args.getD 0 .dead).cells) (argL .u32 args 1) (argI args 2) (argI args 3) (argI args 4)) [.sl (.recs .apiOutput) true] [] 2 (λ_ _ _=>by kernel_rfl) (λ_ _=>rfl) (λ_ _ h=>h) (λ_ X=>by kernel_rfl)
def Q9l(m:(List Int))(frame:Int)(s:(List UInt8))(z:(Int)×(List Int)):Nat:=(32-z.1).toNat
def Q2(m:(List Int))(frame:Int)(s:(List UInt8)):Tree ((List Int)×Bool):=
.an (Q04 m) (.lv (Q02 m) λ(x0:List Int)=> .lv (Q51 m frame) λ(x1:Bool)=> .br (!x1) (.lf (x0,false)) (.br ((s.length:Int) !=(128:Int)) (.lf (x0,false)) (.lp inferInstance (Q9l m frame s (0,x0)+1) ((rE (s:List UInt8)∧True∧rE ((wrap i64 (frame*32)):Int)∧rE (0:Int)∧True)∧rE (x0:List Int)∧True) (0,x0) λ(v0:Int×List Int)=> .br (decide (v0.1<32)) (.cn (decide (0≤wrap i64 (4*v0.1)∧wrap i64 (4*v0.1)≤wrap i64 (wrap i64 (4*v0.1)+4)∧wrap i64 (wrap i64 (4*v0.1)+4)≤(s.length:Int))) (let E1:=List.take (Int.toNat (wrap i64 (wrap i64 (4*v0.1)+4))-Int.toNat (wrap i64 (4*v0.1))) (List.drop (Int.toNat (wrap i64 (4*v0.1))) s); .cn (decide ((0:Int)≤(0:Int)∧0<(↑(List.length E1):Int))) (.cn (decide ((0:Int)≤(1:Int)∧1<(↑(List.length E1):Int))) (.cn (decide ((0:Int)≤(2:Int)∧2<(↑(List.length E1):Int))) (.cn (decide ((0:Int)≤(3:Int)∧3<(↑(List.length E1):Int))) (.cn (Nat.beq 1 1&&Nat.blt 0 1&&decide (0≤wrap i64 (wrap i64 (frame*32)+v0.1)∧wrap i64 (wrap i64 (frame*32)+v0.1)<(v0.2.length:Int))) (.nx ((rE (s:List UInt8)∧True∧rE ((wrap i64 (frame*32)):Int)∧rE ((wrap i64 (v0.1+1)):Int)∧True)∧rE ((List.set v0.2 (Int.toNat (wrap i64 (wrap i64 (frame*32)+v0.1))) (ior u32 (ior u32 (ior u32 (wrap u32 (↑(UInt8.toNat (List.getD (List.take (Int.toNat (wrap i64 (wrap i64 (4*v0.1)+4))-Int.toNat (wrap i64 (4*v0.1))) (List.drop (Int.toNat (wrap i64 (4*v0.1))) s)) (Int.toNat 0) (0:UInt8))):Int)) (ishl u32 (wrap u32 (↑(UInt8.toNat (List.getD (List.take (Int.toNat (wrap i64 (wrap i64 (4*v0.1)+4))-Int.toNat (wrap i64 (4*v0.1))) (List.drop (Int.toNat (wrap i64 (4*v0.1))) s)) (Int.toNat 1) (0:UInt8))):Int)) 8)) (ishl u32 (wrap u32 (↑(UInt8.toNat (List.getD (List.take (Int.toNat (wrap i64 (wrap i64 (4*v0.1)+4))-Int.toNat (wrap i64 (4*v0.1))) (List.drop (Int.toNat (wrap i64 (4*v0.1))) s)) (Int.toNat 2) (0:UInt8))):Int)) 16)) (ishl u32 (wrap u32 (↑(UInt8.toNat (List.getD (List.take (Int.toNat (wrap i64 (wrap i64 (4*v0.1)+4))-Int.toNat (wrap i64 (4*v0.1))) (List.drop (Int.toNat (wrap i64 (4*v0.1))) s)) (Int.toNat 3) (0:UInt8))):Int)) 24))):List Int)∧True) (Sum.inl (wrap i64 (v0.1+1),List.set v0.2 (Int.toNat (wrap i64 (wrap i64 (frame*32)+v0.1))) (ior u32 (ior u32 (ior u32 (wrap u32 (↑(UInt8.toNat (List.getD E1 (Int.toNat 0) (0:UInt8))):Int)) (ishl u32 (wrap u32 (↑(UInt8.toNat (List.getD E1 (Int.toNat 1) (0:UInt8))):Int)) 8)) (ishl u32 (wrap u32 (↑(UInt8.toNat (List.getD E1 (Int.toNat 2) (0:UInt8))):Int)) 16)) (ishl u32 (wrap u32 (↑(UInt8.toNat (List.getD E1 (Int.toNat 3) (0:UInt8))):Int)) 24))))))))))) (.lf (Sum.inr (v0.2,true))))))
def Q2r(m:(List Int))(frame:Int)(s:(List UInt8)):((List Int)×Bool):=(Q2 m frame s).m
abbrev Q3h(m:(List Int))(frame:Int)(s:(List UInt8)):Prop:=(Q2 m frame s).p
def Qpm:LInv:={
 α:=(Int)×(List Int)
 F:=λst a=>([(2,(lk st 2)),(8, .all 0),(9,(lk st 9)),(26, .int i64 a.1)],[⟨false,23,1, .ints u32 a.2⟩])
 a0:=λst=>((lk st 26).toInt,(Qgb st.rows (rN st 8)))
 ex0:=λst=>[]++[(Q1l (lk st 8) (st.rows.length+0))]
 next:=λst=>((lk st 26).toInt,(Qgb st.rows (rN st 8)))
 ex:=λst=>[]++[(Q1l (lk st 8) (st.rows.length+0))]}
def Qmh:List (Nat×LInv):=[(6,Qpm)]
def Qri:Q0f:=mkP 125 [] true [.one (.ints .u32), .one (.int .i64), .one (.str)] [] (λargs rows=>Q3h (argL .u32 args 0) (argI args 1) (argS args 2)) (λargs rows=>Q2r (argL .u32 args 0) (argI args 1) (argS args 2)) (λX=> .tup [.all 0, .bool (X.2)]) (λX=>[⟨false,23,1, .ints .u32 (X.1)⟩])
theorem Qc8:Q09 Tryz.prog Qri:=Q0x Q0o Q0p (.cons Q0m (.cons Qgu (.nil))) Tryz.func125 Tryz.call125 (λargs rows=>Q2 (argL .u32 args 0) (argI args 1) (argS args 2)) [.row 23 1 (.ints .u32)] Qmh 3 (λ_ _ _=>by kernel_rfl) (λ_ _=>rfl) (λ_ _ h=>h) (λ_ X=>by kernel_rfl)
def strings_Repeat(s:(List UInt8))(count:Int):(List UInt8):=
Lib.repeatL s count.toNat
def Q2o(s:(List UInt8))(count:Int):Prop:=
0≤count∧count≤9223372036854775807∧s.length*count.toNat≤140737488355328
def Qfb(s:(List UInt8))(count:Int):List D:=[.str s, .int .i64 count]
def Qfo(s:(List UInt8))(count:Int):List Row:=[]
def Qb5(X:(List UInt8)):D:= .str X
def Qb9(X:(List UInt8)):List Row:=[]
def Qg7:List PT:=[.one (.str), .one (.int .i64)]
def Qfl:List RT:=[]
def Qng(args:List D)(rows:List Row):(List UInt8):=strings_Repeat (argS args 0) (argI args 1)
def Qnq(args:List D)(rows:List Row):Prop:=Q2o (argS args 0) (argI args 1)
def Qs9:Q0f:=mkP 197 [] true Qg7 Qfl Qnq Qng Qb5 Qb9
theorem Ql9(s:(List UInt8))(count:Int)(hw:Q2o s count):Q4o Tryz.prog 197 (Qfb s count) (Qfo s count) (Qb5 (strings_Repeat s count)) (Qb9 (strings_Repeat s count)):=by
 exact repeat_of Tryz.strings_Repeat hw.1 hw.2.1 hw.2.2
set_option maxRecDepth 100000 in
theorem Qmb(args:List D)(rows:List Row):Qh7 Qg7 args 0=Qfb (argS args 0) (argI args 1):=by kernel_rfl
set_option maxRecDepth 100000 in
theorem Ql6(args:List D)(rows:List Row):Q83 Qfl rows 0=Qfo (argS args 0) (argI args 1):=by kernel_rfl
set_option maxRecDepth 100000 in
theorem Qp(X:(List UInt8)):(ffB (Qb5 X)&&ffBR (Qb9 X))=true:=by kernel_rfl
theorem Qon:Q09 Tryz.prog Qs9:=Quh Tryz.call197 (λargs rows hp=>by rw[Qmb args rows,Ql6 args rows];exact Ql9 (argS args 0) (argI args 1) hp) (λ_ X=>Qp X)
def Q2e(b:Q07)(m:(List Int))(port:Int)(v:Int):Tree (Q07×(List Int)):=
let T1:Tree ((Q07×(List Int))):= .an (Q04 m) (.lv (Q02 m) λ(x0:List Int)=> .lf (b,x0)); .br (decide (v≥32)) T1 (.cn (decide (0≤v)) (.br (port==10) (.lv (Q0n m) λ(x1:Int)=> .br (decide (wrap i64 v<x1)) (.br (iand u32 b.C2 (ishl u32 1 v)==0) (.an (Q2o [(0:UInt8)] 128) (.lv (strings_Repeat [(0:UInt8)] 128) λ(x2:List UInt8)=> .an (Q3h m (wrap i64 v) x2) (.lv (Q2r m (wrap i64 v) x2) λ(x3:List Int×Bool)=> .lf ({C8:=b.C8,C2:=ior u32 b.C2 (ishl u32 1 v)},x3.1)))) T1) T1) (.br (port==11) (.an (Q04 m) (.lv (Q02 m) λ(x6:List Int)=> .lf ({C8:=b.C8,C2:=Qe8 u32 b.C2 (ishl u32 1 v)},x6))) T1)))
def Q7d(b:Q07)(m:(List Int))(port:Int)(v:Int):(Q07×(List Int)):=(Q2e b m port v).m
abbrev Q8j(b:Q07)(m:(List Int))(port:Int)(v:Int):Prop:=(Q2e b m port v).p
def Z1m:Q0f:=mkP 145 [] true [.agg Q07.sig, .one (.ints .u32), .one (.int .i64), .one (.int .u32)] [] (λargs rows=>Q8j (Q07.of (args.getD 0 .dead).cells) (argL .u32 args 1) (argI args 2) (argI args 3)) (λargs rows=>Q7d (Q07.of (args.getD 0 .dead).cells) (argL .u32 args 1) (argI args 2) (argI args 3)) (λX=> .tup [.agg (Q07.cells (X.1)), .all 0]) (λX=>[⟨false,23,1, .ints .u32 (X.2)⟩])
theorem Qwd:Q09 Tryz.prog Z1m:=Q0x Q0o Q0p (.cons Q0m (.cons Q49 (.cons Qc8 (.cons Qon (.nil))))) Tryz.func145 Tryz.call145 (λargs rows=>Q2e (Q07.of (args.getD 0 .dead).cells) (argL .u32 args 1) (argI args 2) (argI args 3)) [.row 23 1 (.ints .u32)] [] 2 (λ_ _ _=>by kernel_rfl) (λ_ _=>rfl) (λ_ _ h=>h) (λ_ X=>by kernel_rfl)
def Q1x(m:Q00)(port:Int)(v:Int)(at0:Int):Tree (Q00×(List Q0a)):=
.br (port==0) (.lf (m,[{B8:=1,At:=at0,C1:=0,C5:=[(λ(n:Int)=>UInt8.ofNat n.toNat) (wrap u8 v)]}])) (.br (port==3) (.lv (Qhf m.A9 v) λ(x0:Q0h)=> .lf ({B4:=m.B4,Mem:=m.Mem,A2:=m.A2,A9:=x0,B2:=m.B2,C6:=m.C6,A1:=m.A1,A4:=m.A4,A3:=m.A3,A6:=m.A6},[])) (let T1:Tree ((Q00×(List Q0a))):= .an (Qdf m.B2 m.Mem port v at0) (.lv (Qst m.B2 m.Mem port v at0) λ(x1:Q0b×List Q0a)=> .lf ({B4:=m.B4,Mem:=m.Mem,A2:=m.A2,A9:=m.A9,B2:=x1.1,C6:=m.C6,A1:=m.A1,A4:=m.A4,A3:=m.A3,A6:=m.A6},x1.2)); .br (port==4) T1 (.br (port==5) T1 (.br (port==6) T1 (let T2:Tree ((Q00×(List Q0a))):= .an (Qeo m.C6 m.Mem port v at0) (.lv (Z01 m.C6 m.Mem port v at0) λ(x4:Q0k×List Q0a)=> .lf ({B4:=m.B4,Mem:=m.Mem,A2:=m.A2,A9:=m.A9,B2:=m.B2,C6:=x4.1,A1:=m.A1,A4:=m.A4,A3:=m.A3,A6:=m.A6},x4.2)); .br (port==7) T2 (.br (port==8) T2 (.br (port==9) T2 (let T3:Tree ((Q00×(List Q0a))):= .an (Q8j m.A1 m.Mem port v) (.lv (Q7d m.A1 m.Mem port v) λ(x7:Q07×List Int)=> .lf ({B4:=m.B4,Mem:=x7.2,A2:=m.A2,A9:=m.A9,B2:=m.B2,C6:=m.C6,A1:=x7.1,A4:=m.A4,A3:=m.A3,A6:=m.A6},[])); .br (port==10) T3 (.br (port==11) T3 (.lf (m,[])))))))))))
def Q2j(m:Q00)(port:Int)(v:Int)(at0:Int):(Q00×(List Q0a)):=(Q1x m port v at0).m
abbrev Q48(m:Q00)(port:Int)(v:Int)(at0:Int):Prop:=(Q1x m port v at0).p
def Qm1:Q0f:=Q0f.fz<|mkP 100 [] false [.agg Q00.sig, .one (.int .i64), .one (.int .u32), .one (.int .u64)] [] (λargs rows=>Q48 (Q00.of (args.getD 0 .dead).cells) (argI args 1) (argI args 2) (argI args 3)) (λargs rows=>Q2j (Q00.of (args.getD 0 .dead).cells) (argI args 1) (argI args 2) (argI args 3)) (λX=> .tup [.agg (Q00.cells (X.1)), .sl 4 (.recs .apiOutput (X.2)) true]) (λX=>[])
theorem Ql8:Q09 Tryz.prog Qm1:=fz_ok<|Q0x Q0o Q0p (.cons Z3n (.cons Z5u (.cons Zbj (.cons Qwd (.nil))))) Tryz.func100 Tryz.call100 (λargs rows=>Q1x (Q00.of (args.getD 0 .dead).cells) (argI args 1) (argI args 2) (argI args 3)) [.sl (.ints .u32) false, .sl (.recs .apiOutput) true] [] 2 (λ_ _ _=>by kernel_rfl) (λ_ _=>rfl) (λ_ _ h=>h) (λh=>by cases h)
def Q2v(m:Q00)(clock:Int):Tree (Q00×(List Q0a)):=
.an (Q04 m.Mem) (.lv (Q02 m.Mem) λ(x0:List Int)=>let E1:=({B4:=m.B4,Mem:=x0,A2:=m.A2,A9:=m.A9,B2:=m.B2,C6:=m.C6,A1:=m.A1,A4:=m.A4,A3:=m.A3,A6:=m.A6}:Q00); .an (Q5y E1) (.lv (Q2n E1) λ(x1:Bool)=> .br (!x1) (.lf (E1,[])) (.an (Q56 E1) (.lv (Q0q E1) λ(x2:Q00)=> .an (Qax x2.B4 x2.Mem) (.lv (Q7g x2.B4 x2.Mem) λ(x3:Q03×List Int×Q13)=>let E2:=({B4:=x3.1,Mem:=x3.2.1,A2:=x2.A2,A9:=x2.A9,B2:=x2.B2,C6:=x2.C6,A1:=x2.A1,A4:=x2.A4,A3:=x2.A3,A6:=x2.A6}:Q00); .br (x3.2.2.B8==1) (.an (Q4p E2 x3.2.2.C9 clock) (.lv (Q1b E2 x3.2.2.C9 clock) λ(x4:Q00×Int)=> .br (x3.2.2.D9 !=0) (.cn (Nat.blt 0 1&&decide (0≤x3.2.2.D9∧x3.2.2.D9<(↑16:Int))) (.lf ({B4:={X:=A16.of 0 (List.set (A16.l x4.1.B4.X) x3.2.2.D9.toNat x4.2),Pc:=x4.1.B4.Pc,B5:=x4.1.B4.B5},Mem:=x4.1.Mem,A2:=x4.1.A2,A9:=x4.1.A9,B2:=x4.1.B2,C6:=x4.1.C6,A1:=x4.1.A1,A4:=wrap u64 (x4.1.A4+1),A3:=x4.1.A3,A6:=x4.1.A6},[]))) (.lf ({B4:=x4.1.B4,Mem:=x4.1.Mem,A2:=x4.1.A2,A9:=x4.1.A9,B2:=x4.1.B2,C6:=x4.1.C6,A1:=x4.1.A1,A4:=wrap u64 (x4.1.A4+1),A3:=x4.1.A3,A6:=x4.1.A6},[])))) (.br (x3.2.2.B8==2) (.an (Q48 E2 x3.2.2.C9 x3.2.2.Value m.A4) (.lv (Q2j E2 x3.2.2.C9 x3.2.2.Value m.A4) λ(x5:Q00×List Q0a)=> .lf ({B4:=x5.1.B4,Mem:=x5.1.Mem,A2:=x5.1.A2,A9:=x5.1.A9,B2:=x5.1.B2,C6:=x5.1.C6,A1:=x5.1.A1,A4:=wrap u64 (x5.1.A4+1),A3:=x5.1.A3,A6:=x5.1.A6},x5.2))) (.br (x3.2.2.B8==3) (.lf ({B4:=x3.1,Mem:=x3.2.1,A2:=x2.A2,A9:=x2.A9,B2:=x2.B2,C6:=x2.C6,A1:=x2.A1,A4:=wrap u64 (x2.A4+1),A3:=true,A6:=x2.A6},[])) (.br (x3.2.2.B8==4) (.lf ({B4:=x3.1,Mem:=x3.2.1,A2:=x2.A2,A9:=x2.A9,B2:=x2.B2,C6:=x2.C6,A1:=x2.A1,A4:=wrap u64 (x2.A4+1),A3:=x2.A3,A6:=true},[])) (.lf ({B4:=x3.1,Mem:=x3.2.1,A2:=x2.A2,A9:=x2.A9,B2:=x2.B2,C6:=x2.C6,A1:=x2.A1,A4:=wrap u64 (x2.A4+1),A3:=x2.A3,A6:=x2.A6},[]))))))))))
def Q32(m:Q00)(clock:Int):(Q00×(List Q0a)):=(Q2v m clock).m
abbrev Q2z(m:Q00)(clock:Int):Prop:=(Q2v m clock).p
def Qwq:Q0f:=Q0f.fz<|mkP 58 [] false [.agg Q00.sig, .one (.int .u32)] [] (λargs rows=>Q2z (Q00.of (args.getD 0 .dead).cells) (argI args 1)) (λargs rows=>Q32 (Q00.of (args.getD 0 .dead).cells) (argI args 1)) (λX=> .tup [.agg (Q00.cells (X.1)), .sl 4 (.recs .apiOutput (X.2)) false]) (λX=>[])
theorem Qv9:Q09 Tryz.prog Qwq:=fz_ok<|Q0x Q0o Q0p (.cons Q0m (.cons Qji (.cons Qij (.cons Qv5 (.cons Qlz (.cons Ql8 (.nil))))))) Tryz.func58 Tryz.call58 (λargs rows=>Q2v (Q00.of (args.getD 0 .dead).cells) (argI args 1)) [.sl (.ints .u32) false, .sl (.recs .apiOutput) false] [] 2 (λ_ _ _=>by kernel_rfl) (λ_ _=>rfl) (λ_ _ h=>h) (λh=>by cases h)
end
end Go.Proofs.YtpcbkbalabgnlaaGreat

/-
  Functions of the program: models, and that its calls come to them (by a program: gen3.py).
-/
import Derived.Test.YtpcbkbalabgnlaaGreatRecordPiecesBase
import Derived.Test.YtpcbkbalabgnlaaGreatRecordPiecesHand
import Derived.Test.YtpcbkbalabgnlaaGreatRecordPiecesYc
import Derived.Test.YtpcbkbalabgnlaaGreatRecordPiecesYb
import Derived.Test.YtpcbkbalabgnlaaGreatRecordPiecesYa
set_option linter.unusedVariables false
set_option linter.unusedSimpArgs false
namespace Go.Proofs.YtpcbkbalabgnlaaGreat
open Go Go.GD Go.IntKind
set_option maxRecDepth 100000
noncomputable section
def Q3g(m:Q00):Tree Bool:=
.an (Q3s m) (.lv (Q1e m) λ(x0:Bool)=> .br x0 (.br (!m.A7) (.an (Q35 m) (.lv (Q6y m) λ(x1:Bool)=> .br (!x1) (.lf (decide (m.A4<1152921504606846976))) (.lf false))) (.lf false)) (.lf false))
def Q2w(m:Q00):Bool:=(Q3g m).m
abbrev Q6p(m:Q00):Prop:=(Q3g m).p
def Z2b:Q0c:=mkP 96 [] true [.agg Q00.sig] [] (λargs rows=>Q6p (Q00.of (args.getD 0 .dead).cells)) (λargs rows=>Q2w (Q00.of (args.getD 0 .dead).cells)) (λX=> .bool X) (λX=>[])
theorem Qnl:Q05 Tryz.prog Z2b:=Q0k Q0i Q0j (.cons Qjy (.cons Qnz (.nil))) Tryz.func96 Tryz.call96 (λargs rows=>Q3g (Q00.of (args.getD 0 .dead).cells)) [] [] 2 (λ_ _ _=>by kernel_rfl) (λ_ _=>rfl) (λ_ _ h=>h) (λ_ X=>by kernel_rfl)
def Qcf(m:Q00)(z:(Int)):Nat:=(5-z).toNat
def Q2i(m:Q00):Tree Q00:=
let E1:=({B2:=m.B2,Mem:=m.Mem,A3:=m.A3,B0:=m.B0,B1:=m.B1,C5:=m.C5,A1:=m.A1,A4:=m.A4,A6:=false,A7:=m.A7}:Q00); .br (iand u32 m.B2.B5.a0 (2:Int)==(0:Int)) (.lf (E1)) (.an (Q44 E1) (.lv (Q66 E1) λ(x0:Int)=> .lp inferInstance (Qcf m 0+1) (((rE (0:Nat)∧rE (0:Nat))∧(rE (0:Nat)∧rE (0:Nat))∧rE (x0:Int)∧rE (0:Int)∧True)∧(rE m.B2.X.a0∧rE m.B2.X.a1∧rE m.B2.X.a2∧rE m.B2.X.a3∧rE m.B2.X.a4∧rE m.B2.X.a5∧rE m.B2.X.a6∧rE m.B2.X.a7∧rE m.B2.X.a8∧rE m.B2.X.a9∧rE m.B2.X.a10∧rE m.B2.X.a11∧rE m.B2.X.a12∧rE m.B2.X.a13∧rE m.B2.X.a14∧rE m.B2.X.a15∧rE m.B2.Pc∧rE m.B2.B5.a0∧rE m.B2.B5.a1∧rE m.B2.B5.a2∧rE m.B2.B5.a3∧rE m.B2.B5.a4∧rE m.B2.B5.a5∧rE m.B2.B5.a6∧rE m.B2.B5.a7∧((Els.Nil (Els.ints u32 m.Mem)∨rE (1:Nat))∧rE m.Mem)∧rE m.A3.D1∧rE m.B0.D3∧rE m.B0.C8∧rE m.B0.D5∧rE m.B1.Blocks∧rE m.B1.B9∧rE m.B1.B4∧rE m.B1.C1∧rE m.B1.D7∧rE m.B1.B6∧rE m.B1.B3∧rE m.B1.C4∧rE m.C5.B4∧rE m.C5.E0∧rE m.C5.C6∧rE m.C5.C0∧rE m.C5.B8∧rE m.C5.F1∧rE m.A1.C9∧rE m.A1.C2∧rE m.A4∧rE (false:Bool)∧rE m.A7∧True)∧(mE zM True True)∧True) 0 λ(v0:Int)=> .br (decide (v0<5)) (.cn (decide (0≤v0)) (.br (iand u32 x0 (ishl u32 1 v0) !=0) (.lv (Q4v m.B2 (wrap i64 (16+v0)) 0) λ(x1:Q02)=> .lf (Sum.inr {B2:=x1,Mem:=m.Mem,A3:=m.A3,B0:=m.B0,B1:=m.B1,C5:=m.C5,A1:=m.A1,A4:=m.A4,A6:=false,A7:=m.A7})) (.nx (((rE (0:Nat)∧rE (0:Nat))∧(rE (0:Nat)∧rE (0:Nat))∧rE (x0:Int)∧rE ((wrap i64 (v0+1)):Int)∧True)∧(rE m.B2.X.a0∧rE m.B2.X.a1∧rE m.B2.X.a2∧rE m.B2.X.a3∧rE m.B2.X.a4∧rE m.B2.X.a5∧rE m.B2.X.a6∧rE m.B2.X.a7∧rE m.B2.X.a8∧rE m.B2.X.a9∧rE m.B2.X.a10∧rE m.B2.X.a11∧rE m.B2.X.a12∧rE m.B2.X.a13∧rE m.B2.X.a14∧rE m.B2.X.a15∧rE m.B2.Pc∧rE m.B2.B5.a0∧rE m.B2.B5.a1∧rE m.B2.B5.a2∧rE m.B2.B5.a3∧rE m.B2.B5.a4∧rE m.B2.B5.a5∧rE m.B2.B5.a6∧rE m.B2.B5.a7∧((Els.Nil (Els.ints u32 m.Mem)∨rE (1:Nat))∧rE m.Mem)∧rE m.A3.D1∧rE m.B0.D3∧rE m.B0.C8∧rE m.B0.D5∧rE m.B1.Blocks∧rE m.B1.B9∧rE m.B1.B4∧rE m.B1.C1∧rE m.B1.D7∧rE m.B1.B6∧rE m.B1.B3∧rE m.B1.C4∧rE m.C5.B4∧rE m.C5.E0∧rE m.C5.C6∧rE m.C5.C0∧rE m.C5.B8∧rE m.C5.F1∧rE m.A1.C9∧rE m.A1.C2∧rE m.A4∧rE (false:Bool)∧rE m.A7∧True)∧(mE zM True True)∧True) (Sum.inl (wrap i64 (v0+1)))))) (.lf (Sum.inr E1))))
def Q0v(m:Q00):Q00:=(Q2i m).m
abbrev Q5v(m:Q00):Prop:=(Q2i m).p
def Qx5:LInv:={
 α:=(Int)
 F:=λst a=>([(1, .ptr 0 0 0),(2, .ptr 1 0 0),(3,(lk st 3)),(15, .int i64 a)],[⟨true,41,49, .gen [[(cT st 1 0),(cT st 1 1),(cT st 1 2),(cT st 1 3),(cT st 1 4),(cT st 1 5),(cT st 1 6),(cT st 1 7),(cT st 1 8),(cT st 1 9),(cT st 1 10),(cT st 1 11),(cT st 1 12),(cT st 1 13),(cT st 1 14),(cT st 1 15),(cT st 1 16),(cT st 1 17),(cT st 1 18),(cT st 1 19),(cT st 1 20),(cT st 1 21),(cT st 1 22),(cT st 1 23),(cT st 1 24),(cT st 1 25),(cT st 1 26),(cT st 1 27),(cT st 1 28),(cT st 1 29),(cT st 1 30),(cT st 1 31),(cT st 1 32),(cT st 1 33),(cT st 1 34),(cT st 1 35),(cT st 1 36),(cT st 1 37),(cT st 1 38),(cT st 1 39),(cT st 1 40),(cT st 1 41),(cT st 1 42),(cT st 1 43),(cT st 1 44),(cT st 1 45),(cT st 1 46),(cT st 1 47),(cT st 1 48)]]⟩,⟨true,41,49, .gen [[(cT st 2 0),(cT st 2 1),(cT st 2 2),(cT st 2 3),(cT st 2 4),(cT st 2 5),(cT st 2 6),(cT st 2 7),(cT st 2 8),(cT st 2 9),(cT st 2 10),(cT st 2 11),(cT st 2 12),(cT st 2 13),(cT st 2 14),(cT st 2 15),(cT st 2 16),(cT st 2 17),(cT st 2 18),(cT st 2 19),(cT st 2 20),(cT st 2 21),(cT st 2 22),(cT st 2 23),(cT st 2 24),(cT st 2 25),(cT st 2 26),(cT st 2 27),(cT st 2 28),(cT st 2 29),(cT st 2 30),(cT st 2 31),(cT st 2 32),(cT st 2 33),(cT st 2 34),(cT st 2 35),(cT st 2 36),(cT st 2 37),(cT st 2 38),(cT st 2 39),(cT st 2 40),(cT st 2 41),(cT st 2 42),(cT st 2 43),(cT st 2 44),(cT st 2 45),(cT st 2 46),(cT st 2 47),(cT st 2 48)]]⟩])
 a0:=λst=>(lk st 15).toInt
 ex0:=λst=>[]++[(Q0o (lk st 1) (st.rows.length+0)),(Q0o (lk st 2) (st.rows.length+1))]
 next:=λst=>(lk st 15).toInt
 ex:=λst=>[]++[(Q0o (lk st 1) (st.rows.length+0)),(Q0o (lk st 2) (st.rows.length+1))]}
def Qr9:List (Nat×LInv):=[(6,Qx5)]
def Z0a:Q0c:=Q0c.fz<|mkP 97 [] false [.agg Q00.sig] [] (λargs rows=>Q5v (Q00.of (args.getD 0 .dead).cells)) (λargs rows=>Q0v (Q00.of (args.getD 0 .dead).cells)) (λX=> .agg (Q00.cells X)) (λX=>[])
theorem Qmd:Q05 Tryz.prog Z0a:=fz_ok<|Q0k Q0i Q0j (.cons Qj8 (.cons Qio (.nil))) Tryz.func97 Tryz.call97 (λargs rows=>Q2i (Q00.of (args.getD 0 .dead).cells)) [.sl (.ints .u32) false] Qr9 3 (λ_ _ _=>by kernel_rfl) (λ_ _=>rfl) (λ_ _ h=>h) (λh=>by cases h)
def Q9l(c:Q0b)(port:Int):Tree (Q0b×Int):=
.br (port==0) (.br (decide (c.D1=[])) (.lf (c,4294967295)) (.cn (decide ((0:Int)≤(0:Int)∧0<(c.D1.length:Int))) (.cn (decide ((0:Int)≤(1:Int)∧1≤(c.D1.length:Int)∧(c.D1.length:Int)≤(c.D1.length:Int))) (.lf ({D1:=List.take (Int.toNat (c.D1.length:Int)-Int.toNat 1) (List.drop (Int.toNat 1) c.D1)},wrap u32 (↑(UInt8.toNat (c.D1.getD (Int.toNat 0) (0:UInt8))):Int)))))) (.br (port==1) (.lf (c,wrap u32 (c.D1.length:Int))) (.lf (c,0)))
def Qof(c:Q0b)(port:Int):(Q0b×Int):=(Q9l c port).m
theorem Z3n(c:Q0b)(port:Int):(Q9l c port).p:=by
 unfold Tree.p Q9l
 repeat'(first|exact trivial|refine w_br (λ_=> ?_) (λ_=> ?_)|refine w_cn ?_ ?_|refine w_an ?_ ?_|refine w_lv (λ_ _=> ?_)|refine w_nx ?_|refine w_lf ?_|refine And.intro ?_ ?_)
 all_goals(((subst_vars;first|trivial|assumption|omega|((simp(config:={decide:=true,failIfUnchanged:=false}) only[Bool.and_eq_true,Bool.or_eq_true,Bool.and_eq_false_iff,Bool.or_eq_false_iff,Bool.not_eq_true',Bool.not_eq_false',Bool.not_eq_true,Bool.not_eq_false,decide_eq_true_eq,decide_eq_false_iff_not,Q6b,Q4,Q67,Q40,beq_iff_eq,beq_eq_false_iff_ne,bne_iff_ne,bne_eq_false_iff_eq,ne_eq,List.all_cons,List.all_nil,D.plain,List.length_cons,List.length_nil,List.length_append,List.length_set,List.length_replicate,IntKind.wrap_i64,IntKind.wrap_u64,IntKind.wrap_u32,IntKind.wrap_i32,IntKind.wrap_u8,true_and,and_true,or_false,false_or,or_true,true_or,not_true_eq_false,not_false_eq_true,Prod.fst,Prod.snd]at*);first|done|assumption|omega)|((simp(config:={decide:=true,failIfUnchanged:=false}) only[Bool.and_eq_true,Bool.or_eq_true,Bool.and_eq_false_iff,Bool.or_eq_false_iff,Bool.not_eq_true',Bool.not_eq_false',Bool.not_eq_true,Bool.not_eq_false,decide_eq_true_eq,decide_eq_false_iff_not,Q6b,Q4,Q67,Q40,beq_iff_eq,beq_eq_false_iff_ne,bne_iff_ne,bne_eq_false_iff_eq,ne_eq,List.all_cons,List.all_nil,D.plain,List.length_cons,List.length_nil,List.length_append,List.length_set,List.length_replicate,IntKind.wrap_i64,IntKind.wrap_u64,IntKind.wrap_u32,IntKind.wrap_i32,IntKind.wrap_u8,true_and,and_true,or_false,false_or,or_true,true_or,not_true_eq_false,not_false_eq_true,Prod.fst,Prod.snd]at*);simp only[←List.length_pos_iff]at*;omega)|(simp_all;done)|(have:= @Qhy;simp_all;try omega))))
def Zar:Q0c:=mkR 137 [] true [.agg Q0b.sig, .one (.int .i64)] [] (λargs rows=>Qof (Q0b.of (args.getD 0 .dead).cells) (argI args 1)) (λX=> .tup [.agg (Q0b.cells (X.1)), .int .u32 (X.2)]) (λX=>[])
theorem Z7x:Q05 Tryz.prog Zar:=Q0x Q0i Q0j (.nil) Tryz.func137 Tryz.call137 (λargs rows=>Q9l (Q0b.of (args.getD 0 .dead).cells) (argI args 1)) [] [] 2 (λ_ _ _=>by kernel_rfl) (λ_ _=>rfl) (λargs rows=>Z3n (Q0b.of (args.getD 0 .dead).cells) (argI args 1)) (λ_ X=>by kernel_rfl)
def Qon(t:Q0f):Tree Int:=
.br t.D5 (.lf 1) (.lf 0)
def Qyh(t:Q0f):Int:=(Qon t).m
def Zjo:Q0c:=mkR 138 [] true [.agg Q0f.sig] [] (λargs rows=>Qyh (Q0f.of (args.getD 0 .dead).cells)) (λX=> .int .u32 X) (λX=>[])
theorem Zed:Q05 Tryz.prog Zjo:=Q0x Q0i Q0j (.nil) Tryz.func138 Tryz.call138 (λargs rows=>Qon (Q0f.of (args.getD 0 .dead).cells)) [] [] 2 (λ_ _ _=>by kernel_rfl) (λ_ _=>rfl) (λ_ _=>Tree.free_ok (by kernel_rfl)) (λ_ X=>by kernel_rfl)
def Qsi(d0:Q0e)(port:Int):Tree Int:=
.br (port==4) (.lf d0.B9) (.br (port==5) (.lf d0.B4) (.br (port==6) (.lf (wrap u32 d0.C1)) (.lf 0)))
def Qv4(d0:Q0e)(port:Int):Int:=(Qsi d0 port).m
def disk_In_m:Q0c:=mkR 139 [] true [.agg Q0e.sig, .one (.int .i64)] [] (λargs rows=>Qv4 (Q0e.of (args.getD 0 .dead).cells) (argI args 1)) (λX=> .int .u32 X) (λX=>[])
theorem Zjv:Q05 Tryz.prog disk_In_m:=Q0x Q0i Q0j (.nil) Tryz.func139 Tryz.call139 (λargs rows=>Qsi (Q0e.of (args.getD 0 .dead).cells) (argI args 1)) [] [] 2 (λ_ _ _=>by kernel_rfl) (λ_ _=>rfl) (λ_ _=>Tree.free_ok (by kernel_rfl)) (λ_ X=>by kernel_rfl)
def Qta(n:Q0n)(port:Int):Tree Int:=
.br (port==7) (.lf n.B4) (.br (port==8) (.lf n.F1) (.br (port==9) (.br n.C6 (.br n.B8 (.lf (wrap u32 (wrap u32 ((0:Int)+(1:Int))+2))) (.lf (wrap u32 ((0:Int)+(1:Int))))) (.br n.B8 (.lf (wrap u32 ((0:Int)+(2:Int)))) (.lf 0))) (.lf 0)))
def Z12(n:Q0n)(port:Int):Int:=(Qta n port).m
def nic_In_m:Q0c:=mkR 140 [] true [.agg Q0n.sig, .one (.int .i64)] [] (λargs rows=>Z12 (Q0n.of (args.getD 0 .dead).cells) (argI args 1)) (λX=> .int .u32 X) (λX=>[])
theorem nic_In_ok:Q05 Tryz.prog nic_In_m:=Q0x Q0i Q0j (.nil) Tryz.func140 Tryz.call140 (λargs rows=>Qta (Q0n.of (args.getD 0 .dead).cells) (argI args 1)) [] [] 2 (λ_ _ _=>by kernel_rfl) (λ_ _=>rfl) (λ_ _=>Tree.free_ok (by kernel_rfl)) (λ_ X=>by kernel_rfl)
def Q6v(b:Q06)(port:Int):Tree Int:=
.br (port==10) (.lf b.C9) (.br (port==11) (.an (Q5y b) (.lv (Qdm b) λ(x0:Int)=> .lf (wrap u32 x0))) (.lf 0))
def Qod(b:Q06)(port:Int):Int:=(Q6v b port).m
abbrev Qbd(b:Q06)(port:Int):Prop:=(Q6v b port).p
def Zdm:Q0c:=mkP 141 [] true [.agg Q06.sig, .one (.int .i64)] [] (λargs rows=>Qbd (Q06.of (args.getD 0 .dead).cells) (argI args 1)) (λargs rows=>Qod (Q06.of (args.getD 0 .dead).cells) (argI args 1)) (λX=> .int .u32 X) (λX=>[])
theorem Z7b:Q05 Tryz.prog Zdm:=Q0k Q0i Q0j (.cons Qma (.nil)) Tryz.func141 Tryz.call141 (λargs rows=>Q6v (Q06.of (args.getD 0 .dead).cells) (argI args 1)) [] [] 2 (λ_ _ _=>by kernel_rfl) (λ_ _=>rfl) (λ_ _ h=>h) (λ_ X=>by kernel_rfl)
def Q2b(m:Q00)(port:Int)(clock:Int):Tree (Q00×Int):=
let T1:Tree ((Q00×Int)):= .lv (Qof m.A3 port) λ(x0:Q0b×Int)=> .lf ({B2:=m.B2,Mem:=m.Mem,A3:=x0.1,B0:=m.B0,B1:=m.B1,C5:=m.C5,A1:=m.A1,A4:=m.A4,A6:=m.A6,A7:=m.A7},x0.2); .br (port==0) T1 (.br (port==1) T1 (.br (port==2) (.lf (m,clock)) (.br (port==3) (.lv (Qyh m.B0) λ(x2:Int)=> .lf (m,x2)) (.br (port==4) (.lv (Qv4 m.B1 port) λ(x3:Int)=> .lf (m,x3)) (.br (port==5) (.lv (Qv4 m.B1 port) λ(x4:Int)=> .lf (m,x4)) (.br (port==6) (.lv (Qv4 m.B1 port) λ(x5:Int)=> .lf (m,x5)) (.br (port==7) (.lv (Z12 m.C5 port) λ(x6:Int)=> .lf (m,x6)) (.br (port==8) (.lv (Z12 m.C5 port) λ(x7:Int)=> .lf (m,x7)) (.br (port==9) (.lv (Z12 m.C5 port) λ(x8:Int)=> .lf (m,x8)) (let T2:Tree ((Q00×Int)):= .an (Qbd m.A1 port) (.lv (Qod m.A1 port) λ(x9:Int)=> .lf (m,x9)); .br (port==10) T2 (.br (port==11) T2 (.lf (m,0)))))))))))))
def Q1g(m:Q00)(port:Int)(clock:Int):(Q00×Int):=(Q2b m port clock).m
abbrev Q5b(m:Q00)(port:Int)(clock:Int):Prop:=(Q2b m port clock).p
def Qsp:Q0c:=Q0c.fz<|mkP 99 [] false [.agg Q00.sig, .one (.int .i64), .one (.int .u32)] [] (λargs rows=>Q5b (Q00.of (args.getD 0 .dead).cells) (argI args 1) (argI args 2)) (λargs rows=>Q1g (Q00.of (args.getD 0 .dead).cells) (argI args 1) (argI args 2)) (λX=> .tup [.agg (Q00.cells (X.1)), .int .u32 (X.2)]) (λX=>[])
theorem Qqu:Q05 Tryz.prog Qsp:=fz_ok<|Q0k Q0i Q0j (.cons Z7x (.cons Zed (.cons Zjv (.cons nic_In_ok (.cons Z7b (.nil)))))) Tryz.func99 Tryz.call99 (λargs rows=>Q2b (Q00.of (args.getD 0 .dead).cells) (argI args 1) (argI args 2)) [.sl (.ints .u32) false] [] 2 (λ_ _ _=>by kernel_rfl) (λ_ _=>rfl) (λ_ _ h=>h) (λh=>by cases h)
def Ql9(t:Q0f)(deadline:Int):Tree Q0f:=
.lf ({D3:=deadline !=0,C8:=deadline,D5:=false})
def Qkh(t:Q0f)(deadline:Int):Q0f:=(Ql9 t deadline).m
def Zg:Q0c:=mkR 142 [] true [.agg Q0f.sig, .one (.int .u32)] [] (λargs rows=>Qkh (Q0f.of (args.getD 0 .dead).cells) (argI args 1)) (λX=> .agg (Q0f.cells X)) (λX=>[])
theorem Z9p:Q05 Tryz.prog Zg:=Q0x Q0i Q0j (.nil) Tryz.func142 Tryz.call142 (λargs rows=>Ql9 (Q0f.of (args.getD 0 .dead).cells) (argI args 1)) [] [] 2 (λ_ _ _=>by kernel_rfl) (λ_ _=>rfl) (λ_ _=>Tree.free_ok (by kernel_rfl)) (λ_ X=>by kernel_rfl)
def Qdn(m:(List Int))(frame:Int):Tree Bool:=
.lv (Q0r m) λ(x0:Int)=> .lf (decide (wrap u64 frame<wrap u64 x0))
def Qab(m:(List Int))(frame:Int):Bool:=(Qdn m frame).m
def Z7f:Q0c:=mkR 124 [] true [.one (.ints .u32), .one (.int .u32)] [] (λargs rows=>Qab (argL .u32 args 0) (argI args 1)) (λX=> .bool X) (λX=>[])
theorem Qpb:Q05 Tryz.prog Z7f:=Q0x Q0i Q0j (.cons Q4t (.nil)) Tryz.func124 Tryz.call124 (λargs rows=>Qdn (argL .u32 args 0) (argI args 1)) [] [] 2 (λ_ _ _=>by kernel_rfl) (λ_ _=>rfl) (λ_ _=>Tree.free_ok (by kernel_rfl)) (λ_ X=>by kernel_rfl)
def Q8v(m:(List Int))(frame:Int):Tree Bool:=
.br (decide (frame≥0)) (.lv (Q0r m) λ(x0:Int)=> .lf (decide (frame<x0))) (.lf false)
def Q5o(m:(List Int))(frame:Int):Bool:=(Q8v m frame).m
def Qxj:Q0c:=mkR 173 [] true [.one (.ints .u32), .one (.int .i64)] [] (λargs rows=>Q5o (argL .u32 args 0) (argI args 1)) (λX=> .bool X) (λX=>[])
theorem Qkf:Q05 Tryz.prog Qxj:=Q0x Q0i Q0j (.cons Q4t (.nil)) Tryz.func173 Tryz.call173 (λargs rows=>Q8v (argL .u32 args 0) (argI args 1)) [] [] 2 (λ_ _ _=>by kernel_rfl) (λ_ _=>rfl) (λ_ _=>Tree.free_ok (by kernel_rfl)) (λ_ X=>by kernel_rfl)
def Qm4(words:(List Int))(z:(Int)×(List Int)):Prop:=0≤z.1∧z.1≤words.length∧(z.2.length:Int)=4*z.1
def Q87(words:(List Int))(z:(Int)×(List Int)):Nat:=(words.length-z.1).toNat
def Q5g(words:(List Int)):Tree (List UInt8):=
.cn (Nat.blt 0 1&&Nat.beq 1 1&&List.all [D.int u8 0] D.plain&&decide ((0:Int)≤(0:Int)∧0≤wrap i64 (4*(words.length:Int))∧wrap i64 (4*(words.length:Int))≤9223372036854775807∧(↑1:Int)*wrap i64 (4*(words.length:Int))≤140737488355328)) (.lp inferInstance (Q87 words (0,[])+1) ((True∧((Els.Nil (Els.ints u32 words)∨rE (1:Nat))∧rE (words:List Int))∧rE ((words.length:Int):Int)∧rE (0:Int)∧True)∧rE ([]:List Int)∧True) (0,[]) λ(v0:Int×List Int)=> .br (decide (v0.1<(words.length:Int))) (.cn (Nat.beq 1 1&&Nat.blt 0 1&&decide (0≤v0.1∧v0.1<(words.length:Int))) (.cn (decide (1*(v0.2.length+4)≤140737488355328)) (let E1:=words.getD v0.1.toNat 0; .nx ((True∧((Els.Nil (Els.ints u32 words)∨rE (1:Nat))∧rE (words:List Int))∧rE ((words.length:Int):Int)∧rE ((wrap i64 (v0.1+1)):Int)∧True)∧rE ((v0.2++[wrap u8 (words.getD v0.1.toNat 0),wrap u8 (ishr u32 (words.getD v0.1.toNat 0) 8),wrap u8 (ishr u32 (words.getD v0.1.toNat 0) 16),wrap u8 (ishr u32 (words.getD v0.1.toNat 0) 24)]):List Int)∧True) (Sum.inl (wrap i64 (v0.1+1),v0.2++[wrap u8 E1,wrap u8 (ishr u32 E1 8),wrap u8 (ishr u32 E1 16),wrap u8 (ishr u32 E1 24)]))))) (.lf (Sum.inr (bytesOf v0.2))))
def Z05(words:(List Int)):(List UInt8):=(Q5g words).m
def Q3i(words:(List Int)):Prop:=
words.length≤1000000000000
theorem Z04(words:(List Int))(hw:Q3i words):(Q5g words).p:=by
 simp only[Q3i]at hw
 unfold Tree.p Q5g
 repeat'(first|refine w_lp (inv:=Qm4 words) (μ:=Q87 words) ?_ (Nat.lt_succ_self _) (λ_ _=> ?_)|exact trivial|refine w_br (λ_=> ?_) (λ_=> ?_)|refine w_cn ?_ ?_|refine w_an ?_ ?_|refine w_lv (λ_ _=> ?_)|refine w_nx ?_|refine w_lf ?_|refine And.intro ?_ ?_)
 all_goals((try simp only[Qm4,Q87]at*);((subst_vars;first|trivial|assumption|omega|((simp(config:={decide:=true,failIfUnchanged:=false}) only[Bool.and_eq_true,Bool.or_eq_true,Bool.and_eq_false_iff,Bool.or_eq_false_iff,Bool.not_eq_true',Bool.not_eq_false',Bool.not_eq_true,Bool.not_eq_false,decide_eq_true_eq,decide_eq_false_iff_not,Q6b,Q4,Q67,Q40,beq_iff_eq,beq_eq_false_iff_ne,bne_iff_ne,bne_eq_false_iff_eq,ne_eq,List.all_cons,List.all_nil,D.plain,List.length_cons,List.length_nil,List.length_append,List.length_set,List.length_replicate,IntKind.wrap_i64,IntKind.wrap_u64,IntKind.wrap_u32,IntKind.wrap_i32,IntKind.wrap_u8,true_and,and_true,or_false,false_or,or_true,true_or,not_true_eq_false,not_false_eq_true,Prod.fst,Prod.snd]at*);first|done|assumption|omega)|((simp(config:={decide:=true,failIfUnchanged:=false}) only[Bool.and_eq_true,Bool.or_eq_true,Bool.and_eq_false_iff,Bool.or_eq_false_iff,Bool.not_eq_true',Bool.not_eq_false',Bool.not_eq_true,Bool.not_eq_false,decide_eq_true_eq,decide_eq_false_iff_not,Q6b,Q4,Q67,Q40,beq_iff_eq,beq_eq_false_iff_ne,bne_iff_ne,bne_eq_false_iff_eq,ne_eq,List.all_cons,List.all_nil,D.plain,List.length_cons,List.length_nil,List.length_append,List.length_set,List.length_replicate,IntKind.wrap_i64,IntKind.wrap_u64,IntKind.wrap_u32,IntKind.wrap_i32,IntKind.wrap_u8,true_and,and_true,or_false,false_or,or_true,true_or,not_true_eq_false,not_false_eq_true,Prod.fst,Prod.snd]at*);simp only[←List.length_pos_iff]at*;omega)|(simp_all;done)|(have:= @Qhy;simp_all;try omega))))
def Z2x:LInv:={
 α:=(Int)×(List Int)
 F:=λst a=>([(3, .all 0),(10,(lk st 10)),(11,(lk st 11)),(12, .int i64 a.1)],[⟨false,5,1, .ints u8 a.2⟩])
 a0:=λst=>((lk st 12).toInt,(Q5m st.rows (rN st 3)))
 ex0:=λst=>[]++[(Q0o (lk st 3) (st.rows.length+0))]
 next:=λst=>((lk st 12).toInt,(Q5m st.rows (rN st 3)))
 ex:=λst=>[]++[(Q0o (lk st 3) (st.rows.length+0))]}
def Qxw:List (Nat×LInv):=[(3,Z2x)]
def Z6m:Q0c:=mkP 174 [] true [.one (.ints .u32)] [] (λargs rows=>Q3i (argL .u32 args 0)) (λargs rows=>Z05 (argL .u32 args 0)) (λX=> .str X) (λX=>[])
theorem Z2m:Q05 Tryz.prog Z6m:=Q0k Q0i Q0j (.nil) Tryz.func174 Tryz.call174 (λargs rows=>Q5g (argL .u32 args 0)) [] Qxw 3 (λ_ _ _=>by kernel_rfl) (λ_ _=>rfl) (λargs rows h=>Z04 (argL .u32 args 0) h) (λ_ X=>by kernel_rfl)
def Q3l(m:(List Int))(frame:Int):Tree ((List UInt8)×Bool):=
.lv (Q5o m frame) λ(x0:Bool)=> .br (!x0) (.lf ([],false)) (.cn (Nat.beq 1 1&&Nat.blt 0 1&&decide (0≤wrap i64 (frame*32)∧wrap i64 (frame*32)≤wrap i64 (wrap i64 (frame*32)+32)∧wrap i64 (wrap i64 (frame*32)+32)≤(m.length:Int))) (let E1:=List.take (Int.toNat (wrap i64 (wrap i64 (frame*32)+32))-Int.toNat (wrap i64 (frame*32))) (List.drop (Int.toNat (wrap i64 (frame*32))) m); .an (Q3i E1) (.lv (Z05 E1) λ(x1:List UInt8)=> .lf (x1,true))))
def Q61(m:(List Int))(frame:Int):((List UInt8)×Bool):=(Q3l m frame).m
abbrev Q64(m:(List Int))(frame:Int):Prop:=(Q3l m frame).p
def Z6o:Q0c:=mkP 127 [] true [.one (.ints .u32), .one (.int .i64)] [] (λargs rows=>Q64 (argL .u32 args 0) (argI args 1)) (λargs rows=>Q61 (argL .u32 args 0) (argI args 1)) (λX=> .tup [.str (X.1), .bool (X.2)]) (λX=>[])
theorem Qjq:Q05 Tryz.prog Z6o:=Q0k Q0i Q0j (.cons Qkf (.cons Z2m (.nil))) Tryz.func127 Tryz.call127 (λargs rows=>Q3l (argL .u32 args 0) (argI args 1)) [] [] 2 (λ_ _ _=>by kernel_rfl) (λ_ _=>rfl) (λ_ _ h=>h) (λ_ X=>by kernel_rfl)
def Qpo(d0:Q0e)(at0:Int):Tree (Q04×Bool):=
.br (d0.C1 !=1) (.lf ({B7:=0,At:=0,B9:=0,C7:=[]},false)) (.br (d0.D7==1) (.lf ({B7:=3,At:=at0,B9:=d0.B6,C7:=[]},true)) (.br (d0.D7==2) (.lf ({B7:=4,At:=at0,B9:=d0.B6,C7:=d0.C4},true)) (.lf ({B7:=0,At:=0,B9:=0,C7:=[]},false))))
def Qjb(d0:Q0e)(at0:Int):(Q04×Bool):=(Qpo d0 at0).m
def Z2t:Q0c:=mkR 235 [] true [.agg Q0e.sig, .one (.int .u64)] [] (λargs rows=>Qjb (Q0e.of (args.getD 0 .dead).cells) (argI args 1)) (λX=> .tup [.agg (Q04.cells (X.1)), .bool (X.2)]) (λX=>[])
theorem Qz4:Q05 Tryz.prog Z2t:=Q0x Q0i Q0j (.nil) Tryz.func235 Tryz.call235 (λargs rows=>Qpo (Q0e.of (args.getD 0 .dead).cells) (argI args 1)) [] [] 2 (λ_ _ _=>by kernel_rfl) (λ_ _=>rfl) (λ_ _=>Tree.free_ok (by kernel_rfl)) (λ_ X=>by kernel_rfl)
def Q74(d0:Q0e)(m:(List Int))(cmd:Int)(at0:Int):Tree (Q0e×(List Q04)):=
.br (d0.C1 !=0) (.lf (d0,[])) (let T1:Tree ((Q0e×(List Q04))):= .lf ({Blocks:=d0.Blocks,B9:=d0.B9,B4:=d0.B4,C1:=3,D7:=d0.D7,B6:=d0.B6,B3:=d0.B3,C4:=d0.C4},[]); .br (decide (d0.B9≥d0.Blocks)) T1 (.lv (Qab m d0.B4) λ(x0:Bool)=> .br (!x0) T1 (.br (cmd==2) (.an (Q64 m (wrap i64 d0.B4)) (.lv (Q61 m (wrap i64 d0.B4)) λ(x1:List UInt8×Bool)=>let E2:=({Blocks:=d0.Blocks,B9:=d0.B9,B4:=d0.B4,C1:=1,D7:=cmd,B6:=d0.B9,B3:=d0.B4,C4:=x1.1}:Q0e); .lv (Qjb E2 at0) λ(x2:Q04×Bool)=> .lf (E2,[x2.1]))) (let E3:=({Blocks:=d0.Blocks,B9:=d0.B9,B4:=d0.B4,C1:=1,D7:=cmd,B6:=d0.B9,B3:=d0.B4,C4:=[]}:Q0e); .lv (Qjb E3 at0) λ(x3:Q04×Bool)=> .lf (E3,[x3.1])))))
def Qtq(d0:Q0e)(m:(List Int))(cmd:Int)(at0:Int):(Q0e×(List Q04)):=(Q74 d0 m cmd at0).m
abbrev Qbt(d0:Q0e)(m:(List Int))(cmd:Int)(at0:Int):Prop:=(Q74 d0 m cmd at0).p
def Zag:Q0c:=mkP 195 [] true [.agg Q0e.sig, .one (.ints .u32), .one (.int .i64), .one (.int .u64)] [] (λargs rows=>Qbt (Q0e.of (args.getD 0 .dead).cells) (argL .u32 args 1) (argI args 2) (argI args 3)) (λargs rows=>Qtq (Q0e.of (args.getD 0 .dead).cells) (argL .u32 args 1) (argI args 2) (argI args 3)) (λX=> .tup [.agg (Q0e.cells (X.1)), .sl 4 (.recs .apiOutput (X.2)) true]) (λX=>[])
theorem Z98:Q05 Tryz.prog Zag:=Q0k Q0i Q0j (.cons Qpb (.cons Qjq (.cons Qz4 (.nil)))) Tryz.func195 Tryz.call195 (λargs rows=>Q74 (Q0e.of (args.getD 0 .dead).cells) (argL .u32 args 1) (argI args 2) (argI args 3)) [.sl (.recs .apiOutput) true] [] 2 (λ_ _ _=>by kernel_rfl) (λ_ _=>rfl) (λ_ _ h=>h) (λ_ X=>by kernel_rfl)
def Qay(d0:Q0e)(m:(List Int))(port:Int)(v:Int)(at0:Int):Tree (Q0e×(List Q04)):=
.br (port==4) (.lf ({Blocks:=d0.Blocks,B9:=v,B4:=d0.B4,C1:=d0.C1,D7:=d0.D7,B6:=d0.B6,B3:=d0.B3,C4:=d0.C4},[])) (.br (port==5) (.lf ({Blocks:=d0.Blocks,B9:=d0.B9,B4:=v,C1:=d0.C1,D7:=d0.D7,B6:=d0.B6,B3:=d0.B3,C4:=d0.C4},[])) (.br (port==6) (let T1:Tree ((Q0e×(List Q04))):= .an (Qbt d0 m (wrap i64 v) at0) (.lv (Qtq d0 m (wrap i64 v) at0) λ(x0:Q0e×List Q04)=> .lf (x0.1,x0.2)); .br (v==1) T1 (.br (v==2) T1 (.br (v==0) (.lv (Qa6 d0) λ(x2:Bool)=> .br x2 (.lf ({Blocks:=d0.Blocks,B9:=d0.B9,B4:=d0.B4,C1:=0,D7:=d0.D7,B6:=d0.B6,B3:=d0.B3,C4:=d0.C4},[])) (.lf (d0,[]))) (.lf (d0,[]))))) (.lf (d0,[]))))
def Qyk(d0:Q0e)(m:(List Int))(port:Int)(v:Int)(at0:Int):(Q0e×(List Q04)):=(Qay d0 m port v at0).m
abbrev Qg2(d0:Q0e)(m:(List Int))(port:Int)(v:Int)(at0:Int):Prop:=(Qay d0 m port v at0).p
def Zk1:Q0c:=mkP 143 [] true [.agg Q0e.sig, .one (.ints .u32), .one (.int .i64), .one (.int .u32), .one (.int .u64)] [] (λargs rows=>Qg2 (Q0e.of (args.getD 0 .dead).cells) (argL .u32 args 1) (argI args 2) (argI args 3) (argI args 4)) (λargs rows=>Qyk (Q0e.of (args.getD 0 .dead).cells) (argL .u32 args 1) (argI args 2) (argI args 3) (argI args 4)) (λX=> .tup [.agg (Q0e.cells (X.1)), .sl 4 (.recs .apiOutput (X.2)) true]) (λX=>[])
theorem Zgl:Q05 Tryz.prog Zk1:=Q0k Q0i Q0j (.cons Z98 (.cons Qn2 (.nil))) Tryz.func143 Tryz.call143 (λargs rows=>Qay (Q0e.of (args.getD 0 .dead).cells) (argL .u32 args 1) (argI args 2) (argI args 3) (argI args 4)) [.sl (.recs .apiOutput) true] [] 2 (λ_ _ _=>by kernel_rfl) (λ_ _=>rfl) (λ_ _ h=>h) (λ_ X=>by kernel_rfl)
def Qfq(m:(List Int))(frame:Int):Tree Bool:=
.lv (Q0r m) λ(x0:Int)=> .lf (decide (wrap u64 frame<wrap u64 x0))
def Qaq(m:(List Int))(frame:Int):Bool:=(Qfq m frame).m
def Zcp:Q0c:=mkR 126 [] true [.one (.ints .u32), .one (.int .u32)] [] (λargs rows=>Qaq (argL .u32 args 0) (argI args 1)) (λX=> .bool X) (λX=>[])
theorem Qlq:Q05 Tryz.prog Zcp:=Q0x Q0i Q0j (.cons Q4t (.nil)) Tryz.func126 Tryz.call126 (λargs rows=>Qfq (argL .u32 args 0) (argI args 1)) [] [] 2 (λ_ _ _=>by kernel_rfl) (λ_ _=>rfl) (λ_ _=>Tree.free_ok (by kernel_rfl)) (λ_ X=>by kernel_rfl)
def Qar(n:Q0n)(m:(List Int))(at0:Int):Tree (List Q04):=
.br (decide (n.E0<1)) (.lf ([])) (.br (decide (n.E0>128)) (.lf ([])) (.lv (Qaq m n.B4) λ(x0:Bool)=> .br (!x0) (.lf ([])) (.an (Q64 m (wrap i64 n.B4)) (.lv (Q61 m (wrap i64 n.B4)) λ(x1:List UInt8×Bool)=> .cn (decide ((0:Int)≤(0:Int)∧0≤n.E0∧n.E0≤(x1.1.length:Int))) (.lf ([{B7:=2,At:=at0,B9:=0,C7:=List.take (Int.toNat n.E0-Int.toNat 0) (List.drop (Int.toNat 0) x1.1)}]))))))
def Z7j(n:Q0n)(m:(List Int))(at0:Int):(List Q04):=(Qar n m at0).m
abbrev Qfu(n:Q0n)(m:(List Int))(at0:Int):Prop:=(Qar n m at0).p
def Zjg:Q0c:=mkP 196 [] true [.agg Q0n.sig, .one (.ints .u32), .one (.int .u64)] [] (λargs rows=>Qfu (Q0n.of (args.getD 0 .dead).cells) (argL .u32 args 1) (argI args 2)) (λargs rows=>Z7j (Q0n.of (args.getD 0 .dead).cells) (argL .u32 args 1) (argI args 2)) (λX=> .sl 4 (.recs .apiOutput X) true) (λX=>[])
theorem Zg4:Q05 Tryz.prog Zjg:=Q0k Q0i Q0j (.cons Qlq (.cons Qjq (.nil))) Tryz.func196 Tryz.call196 (λargs rows=>Qar (Q0n.of (args.getD 0 .dead).cells) (argL .u32 args 1) (argI args 2)) [.sl (.recs .apiOutput) true] [] 2 (λ_ _ _=>by kernel_rfl) (λ_ _=>rfl) (λ_ _ h=>h) (λ_ X=>by kernel_rfl)
def Qdg(n:Q0n)(m:(List Int))(port:Int)(v:Int)(at0:Int):Tree (Q0n×(List Q04)):=
.br (port==7) (.lf ({B4:=v,E0:=n.E0,C6:=n.C6,C0:=n.C0,B8:=n.B8,F1:=n.F1},[])) (.br (port==8) (.lf ({B4:=n.B4,E0:=v,C6:=n.C6,C0:=n.C0,B8:=n.B8,F1:=n.F1},[])) (.br (port==9) (.br (v==1) (.an (Qfu n m at0) (.lv (Z7j n m at0) λ(x0:List Q04)=> .lf (n,x0))) (.br (v==2) (.lv (Qaq m n.B4) λ(x1:Bool)=> .br x1 (.br (!n.C6) (.br (!n.B8) (.lf ({B4:=n.B4,E0:=n.E0,C6:=true,C0:=n.B4,B8:=n.B8,F1:=n.F1},[])) (.lf (n,[]))) (.lf (n,[]))) (.lf (n,[]))) (.br (v==0) (.lf ({B4:=n.B4,E0:=n.E0,C6:=n.C6,C0:=n.C0,B8:=false,F1:=0},[])) (.lf (n,[]))))) (.lf (n,[]))))
def Z85(n:Q0n)(m:(List Int))(port:Int)(v:Int)(at0:Int):(Q0n×(List Q04)):=(Qdg n m port v at0).m
abbrev Qi8(n:Q0n)(m:(List Int))(port:Int)(v:Int)(at0:Int):Prop:=(Qdg n m port v at0).p
def nic_Out_m:Q0c:=mkP 144 [] true [.agg Q0n.sig, .one (.ints .u32), .one (.int .i64), .one (.int .u32), .one (.int .u64)] [] (λargs rows=>Qi8 (Q0n.of (args.getD 0 .dead).cells) (argL .u32 args 1) (argI args 2) (argI args 3) (argI args 4)) (λargs rows=>Z85 (Q0n.of (args.getD 0 .dead).cells) (argL .u32 args 1) (argI args 2) (argI args 3) (argI args 4)) (λX=> .tup [.agg (Q0n.cells (X.1)), .sl 4 (.recs .apiOutput (X.2)) true]) (λX=>[])
theorem Zka:Q05 Tryz.prog nic_Out_m:=Q0k Q0i Q0j (.cons Zg4 (.cons Qlq (.nil))) Tryz.func144 Tryz.call144 (λargs rows=>Qdg (Q0n.of (args.getD 0 .dead).cells) (argL .u32 args 1) (argI args 2) (argI args 3) (argI args 4)) [.sl (.recs .apiOutput) true] [] 2 (λ_ _ _=>by kernel_rfl) (λ_ _=>rfl) (λ_ _ h=>h) (λ_ X=>by kernel_rfl)
def Qb2(m:(List Int))(frame:Int)(s:(List UInt8))(z:(Int)×(List Int)):Nat:=(32-z.1).toNat
def Q25(m:(List Int))(frame:Int)(s:(List UInt8)):Tree ((List Int)×Bool):=
.an (Q07 m) (.lv (Q03 m) λ(x0:List Int)=> .lv (Q5o m frame) λ(x1:Bool)=> .br (!x1) (.lf (x0,false)) (.br ((s.length:Int) !=(128:Int)) (.lf (x0,false)) (.lp inferInstance (Qb2 m frame s (0,x0)+1) ((rE (s:List UInt8)∧True∧rE ((wrap i64 (frame*32)):Int)∧rE (0:Int)∧True)∧rE (x0:List Int)∧True) (0,x0) λ(v0:Int×List Int)=> .br (decide (v0.1<32)) (.cn (decide (0≤wrap i64 (4*v0.1)∧wrap i64 (4*v0.1)≤wrap i64 (wrap i64 (4*v0.1)+4)∧wrap i64 (wrap i64 (4*v0.1)+4)≤(s.length:Int))) (let E1:=List.take (Int.toNat (wrap i64 (wrap i64 (4*v0.1)+4))-Int.toNat (wrap i64 (4*v0.1))) (List.drop (Int.toNat (wrap i64 (4*v0.1))) s); .cn (decide ((0:Int)≤(0:Int)∧0<(↑(List.length E1):Int))) (.cn (decide ((0:Int)≤(1:Int)∧1<(↑(List.length E1):Int))) (.cn (decide ((0:Int)≤(2:Int)∧2<(↑(List.length E1):Int))) (.cn (decide ((0:Int)≤(3:Int)∧3<(↑(List.length E1):Int))) (.cn (Nat.beq 1 1&&Nat.blt 0 1&&decide (0≤wrap i64 (wrap i64 (frame*32)+v0.1)∧wrap i64 (wrap i64 (frame*32)+v0.1)<(v0.2.length:Int))) (.nx ((rE (s:List UInt8)∧True∧rE ((wrap i64 (frame*32)):Int)∧rE ((wrap i64 (v0.1+1)):Int)∧True)∧rE ((List.set v0.2 (Int.toNat (wrap i64 (wrap i64 (frame*32)+v0.1))) (ior u32 (ior u32 (ior u32 (wrap u32 (↑(UInt8.toNat (List.getD (List.take (Int.toNat (wrap i64 (wrap i64 (4*v0.1)+4))-Int.toNat (wrap i64 (4*v0.1))) (List.drop (Int.toNat (wrap i64 (4*v0.1))) s)) (Int.toNat 0) (0:UInt8))):Int)) (ishl u32 (wrap u32 (↑(UInt8.toNat (List.getD (List.take (Int.toNat (wrap i64 (wrap i64 (4*v0.1)+4))-Int.toNat (wrap i64 (4*v0.1))) (List.drop (Int.toNat (wrap i64 (4*v0.1))) s)) (Int.toNat 1) (0:UInt8))):Int)) 8)) (ishl u32 (wrap u32 (↑(UInt8.toNat (List.getD (List.take (Int.toNat (wrap i64 (wrap i64 (4*v0.1)+4))-Int.toNat (wrap i64 (4*v0.1))) (List.drop (Int.toNat (wrap i64 (4*v0.1))) s)) (Int.toNat 2) (0:UInt8))):Int)) 16)) (ishl u32 (wrap u32 (↑(UInt8.toNat (List.getD (List.take (Int.toNat (wrap i64 (wrap i64 (4*v0.1)+4))-Int.toNat (wrap i64 (4*v0.1))) (List.drop (Int.toNat (wrap i64 (4*v0.1))) s)) (Int.toNat 3) (0:UInt8))):Int)) 24))):List Int)∧True) (Sum.inl (wrap i64 (v0.1+1),List.set v0.2 (Int.toNat (wrap i64 (wrap i64 (frame*32)+v0.1))) (ior u32 (ior u32 (ior u32 (wrap u32 (↑(UInt8.toNat (List.getD E1 (Int.toNat 0) (0:UInt8))):Int)) (ishl u32 (wrap u32 (↑(UInt8.toNat (List.getD E1 (Int.toNat 1) (0:UInt8))):Int)) 8)) (ishl u32 (wrap u32 (↑(UInt8.toNat (List.getD E1 (Int.toNat 2) (0:UInt8))):Int)) 16)) (ishl u32 (wrap u32 (↑(UInt8.toNat (List.getD E1 (Int.toNat 3) (0:UInt8))):Int)) 24))))))))))) (.lf (Sum.inr (v0.2,true))))))
def Q2z(m:(List Int))(frame:Int)(s:(List UInt8)):((List Int)×Bool):=(Q25 m frame s).m
abbrev Q3q(m:(List Int))(frame:Int)(s:(List UInt8)):Prop:=(Q25 m frame s).p
def Qtn:LInv:={
 α:=(Int)×(List Int)
 F:=λst a=>([(2,(lk st 2)),(8, .all 0),(9,(lk st 9)),(26, .int i64 a.1)],[⟨false,23,1, .ints u32 a.2⟩])
 a0:=λst=>((lk st 26).toInt,(Q5m st.rows (rN st 8)))
 ex0:=λst=>[]++[(Q0o (lk st 8) (st.rows.length+0))]
 next:=λst=>((lk st 26).toInt,(Q5m st.rows (rN st 8)))
 ex:=λst=>[]++[(Q0o (lk st 8) (st.rows.length+0))]}
def Qqo:List (Nat×LInv):=[(6,Qtn)]
def Qxz:Q0c:=mkP 125 [] true [.one (.ints .u32), .one (.int .i64), .one (.str)] [] (λargs rows=>Q3q (argL .u32 args 0) (argI args 1) (argS args 2)) (λargs rows=>Q2z (argL .u32 args 0) (argI args 1) (argS args 2)) (λX=> .tup [.all 0, .bool (X.2)]) (λX=>[⟨false,23,1, .ints .u32 (X.1)⟩])
theorem Qe7:Q05 Tryz.prog Qxz:=Q0k Q0i Q0j (.cons Q0t (.cons Qkf (.nil))) Tryz.func125 Tryz.call125 (λargs rows=>Q25 (argL .u32 args 0) (argI args 1) (argS args 2)) [.row 23 1 (.ints .u32)] Qqo 3 (λ_ _ _=>by kernel_rfl) (λ_ _=>rfl) (λ_ _ h=>h) (λ_ X=>by kernel_rfl)
def strings_Repeat(s:(List UInt8))(count:Int):(List UInt8):=
Lib.repeatL s count.toNat
def Q2v(s:(List UInt8))(count:Int):Prop:=
0≤count∧count≤9223372036854775807∧s.length*count.toNat≤140737488355328
def Qij(s:(List UInt8))(count:Int):List D:=[.str s, .int .i64 count]
def Qj(s:(List UInt8))(count:Int):List Row:=[]
def Qd4(X:(List UInt8)):D:= .str X
def Qd5(X:(List UInt8)):List Row:=[]
def Qjf:List PT:=[.one (.str), .one (.int .i64)]
def Qhj:List RT:=[]
def Qs3(args:List D)(rows:List Row):(List UInt8):=strings_Repeat (argS args 0) (argI args 1)
def Qsv(args:List D)(rows:List Row):Prop:=Q2v (argS args 0) (argI args 1)
def Qxe:Q0c:=mkP 197 [] true Qjf Qhj Qsv Qs3 Qd4 Qd5
theorem Qow(s:(List UInt8))(count:Int)(hw:Q2v s count):Q5a Tryz.prog 197 (Qij s count) (Qj s count) (Qd4 (strings_Repeat s count)) (Qd5 (strings_Repeat s count)):=by
 exact repeat_of Tryz.strings_Repeat hw.1 hw.2.1 hw.2.2
set_option maxRecDepth 100000 in
theorem Qq7(args:List D)(rows:List Row):Qk2 Qjf args 0=Qij (argS args 0) (argI args 1):=by kernel_rfl
set_option maxRecDepth 100000 in
theorem Qp5(args:List D)(rows:List Row):Q9e Qhj rows 0=Qj (argS args 0) (argI args 1):=by kernel_rfl
set_option maxRecDepth 100000 in
theorem Qut(X:(List UInt8)):(ffB (Qd4 X)&&ffBR (Qd5 X))=true:=by kernel_rfl
theorem Qtx:Q05 Tryz.prog Qxe:=Qyr Tryz.call197 (λargs rows hp=>by rw[Qq7 args rows,Qp5 args rows];exact Qow (argS args 0) (argI args 1) hp) (λ_ X=>Qut X)
def Q2p(b:Q06)(m:(List Int))(port:Int)(v:Int):Tree (Q06×(List Int)):=
let T1:Tree ((Q06×(List Int))):= .an (Q07 m) (.lv (Q03 m) λ(x0:List Int)=> .lf (b,x0)); .br (decide (v≥32)) T1 (.cn (decide (0≤v)) (.br (port==10) (.lv (Q0r m) λ(x1:Int)=> .br (decide (wrap i64 v<x1)) (.br (iand u32 b.C2 (ishl u32 1 v)==0) (.an (Q2v [(0:UInt8)] 128) (.lv (strings_Repeat [(0:UInt8)] 128) λ(x2:List UInt8)=> .an (Q3q m (wrap i64 v) x2) (.lv (Q2z m (wrap i64 v) x2) λ(x3:List Int×Bool)=> .lf ({C9:=b.C9,C2:=ior u32 b.C2 (ishl u32 1 v)},x3.1)))) T1) T1) (.br (port==11) (.an (Q07 m) (.lv (Q03 m) λ(x6:List Int)=> .lf ({C9:=b.C9,C2:=Qgn u32 b.C2 (ishl u32 1 v)},x6))) T1)))
def Q8n(b:Q06)(m:(List Int))(port:Int)(v:Int):(Q06×(List Int)):=(Q2p b m port v).m
abbrev Qa3(b:Q06)(m:(List Int))(port:Int)(v:Int):Prop:=(Q2p b m port v).p
def Z71:Q0c:=mkP 145 [] true [.agg Q06.sig, .one (.ints .u32), .one (.int .i64), .one (.int .u32)] [] (λargs rows=>Qa3 (Q06.of (args.getD 0 .dead).cells) (argL .u32 args 1) (argI args 2) (argI args 3)) (λargs rows=>Q8n (Q06.of (args.getD 0 .dead).cells) (argL .u32 args 1) (argI args 2) (argI args 3)) (λX=> .tup [.agg (Q06.cells (X.1)), .all 0]) (λX=>[⟨false,23,1, .ints .u32 (X.2)⟩])
theorem Z25:Q05 Tryz.prog Z71:=Q0k Q0i Q0j (.cons Q0t (.cons Q4t (.cons Qe7 (.cons Qtx (.nil))))) Tryz.func145 Tryz.call145 (λargs rows=>Q2p (Q06.of (args.getD 0 .dead).cells) (argL .u32 args 1) (argI args 2) (argI args 3)) [.row 23 1 (.ints .u32)] [] 2 (λ_ _ _=>by kernel_rfl) (λ_ _=>rfl) (λ_ _ h=>h) (λ_ X=>by kernel_rfl)
def Q20(m:Q00)(port:Int)(v:Int)(at0:Int):Tree (Q00×(List Q04)):=
.br (port==0) (.lf (m,[{B7:=1,At:=at0,B9:=0,C7:=[(λ(n:Int)=>UInt8.ofNat n.toNat) (wrap u8 v)]}])) (.br (port==3) (.lv (Qkh m.B0 v) λ(x0:Q0f)=> .lf ({B2:=m.B2,Mem:=m.Mem,A3:=m.A3,B0:=x0,B1:=m.B1,C5:=m.C5,A1:=m.A1,A4:=m.A4,A6:=m.A6,A7:=m.A7},[])) (let T1:Tree ((Q00×(List Q04))):= .an (Qg2 m.B1 m.Mem port v at0) (.lv (Qyk m.B1 m.Mem port v at0) λ(x1:Q0e×List Q04)=> .lf ({B2:=m.B2,Mem:=m.Mem,A3:=m.A3,B0:=m.B0,B1:=x1.1,C5:=m.C5,A1:=m.A1,A4:=m.A4,A6:=m.A6,A7:=m.A7},x1.2)); .br (port==4) T1 (.br (port==5) T1 (.br (port==6) T1 (let T2:Tree ((Q00×(List Q04))):= .an (Qi8 m.C5 m.Mem port v at0) (.lv (Z85 m.C5 m.Mem port v at0) λ(x4:Q0n×List Q04)=> .lf ({B2:=m.B2,Mem:=m.Mem,A3:=m.A3,B0:=m.B0,B1:=m.B1,C5:=x4.1,A1:=m.A1,A4:=m.A4,A6:=m.A6,A7:=m.A7},x4.2)); .br (port==7) T2 (.br (port==8) T2 (.br (port==9) T2 (let T3:Tree ((Q00×(List Q04))):= .an (Qa3 m.A1 m.Mem port v) (.lv (Q8n m.A1 m.Mem port v) λ(x7:Q06×List Int)=> .lf ({B2:=m.B2,Mem:=x7.2,A3:=m.A3,B0:=m.B0,B1:=m.B1,C5:=m.C5,A1:=x7.1,A4:=m.A4,A6:=m.A6,A7:=m.A7},[])); .br (port==10) T3 (.br (port==11) T3 (.lf (m,[])))))))))))
def Q2o(m:Q00)(port:Int)(v:Int)(at0:Int):(Q00×(List Q04)):=(Q20 m port v at0).m
abbrev Q4q(m:Q00)(port:Int)(v:Int)(at0:Int):Prop:=(Q20 m port v at0).p
def Qqy:Q0c:=Q0c.fz<|mkP 100 [] false [.agg Q00.sig, .one (.int .i64), .one (.int .u32), .one (.int .u64)] [] (λargs rows=>Q4q (Q00.of (args.getD 0 .dead).cells) (argI args 1) (argI args 2) (argI args 3)) (λargs rows=>Q2o (Q00.of (args.getD 0 .dead).cells) (argI args 1) (argI args 2) (argI args 3)) (λX=> .tup [.agg (Q00.cells (X.1)), .sl 4 (.recs .apiOutput (X.2)) true]) (λX=>[])
theorem Qp9:Q05 Tryz.prog Qqy:=fz_ok<|Q0k Q0i Q0j (.cons Z9p (.cons Zgl (.cons Zka (.cons Z25 (.nil))))) Tryz.func100 Tryz.call100 (λargs rows=>Q20 (Q00.of (args.getD 0 .dead).cells) (argI args 1) (argI args 2) (argI args 3)) [.sl (.ints .u32) false, .sl (.recs .apiOutput) true] [] 2 (λ_ _ _=>by kernel_rfl) (λ_ _=>rfl) (λ_ _ h=>h) (λh=>by cases h)
def Q31(m:Q00)(clock:Int):Tree (Q00×(List Q04)):=
.an (Q07 m.Mem) (.lv (Q03 m.Mem) λ(x0:List Int)=>let E1:=({B2:=m.B2,Mem:=x0,A3:=m.A3,B0:=m.B0,B1:=m.B1,C5:=m.C5,A1:=m.A1,A4:=m.A4,A6:=m.A6,A7:=m.A7}:Q00); .an (Q6p E1) (.lv (Q2w E1) λ(x1:Bool)=> .br (!x1) (.lf (E1,[])) (.an (Q5v E1) (.lv (Q0v E1) λ(x2:Q00)=> .an (Qch x2.B2 x2.Mem) (.lv (Q8k x2.B2 x2.Mem) λ(x3:Q02×List Int×Q10)=>let E2:=({B2:=x3.1,Mem:=x3.2.1,A3:=x2.A3,B0:=x2.B0,B1:=x2.B1,C5:=x2.C5,A1:=x2.A1,A4:=x2.A4,A6:=x2.A6,A7:=x2.A7}:Q00); .br (x3.2.2.B7==1) (.an (Q5b E2 x3.2.2.D0 clock) (.lv (Q1g E2 x3.2.2.D0 clock) λ(x4:Q00×Int)=> .br (x3.2.2.D9 !=0) (.cn (Nat.blt 0 1&&decide (0≤x3.2.2.D9∧x3.2.2.D9<(↑16:Int))) (.lf ({B2:={X:=A16.of 0 (List.set (A16.l x4.1.B2.X) x3.2.2.D9.toNat x4.2),Pc:=x4.1.B2.Pc,B5:=x4.1.B2.B5},Mem:=x4.1.Mem,A3:=x4.1.A3,B0:=x4.1.B0,B1:=x4.1.B1,C5:=x4.1.C5,A1:=x4.1.A1,A4:=wrap u64 (x4.1.A4+1),A6:=x4.1.A6,A7:=x4.1.A7},[]))) (.lf ({B2:=x4.1.B2,Mem:=x4.1.Mem,A3:=x4.1.A3,B0:=x4.1.B0,B1:=x4.1.B1,C5:=x4.1.C5,A1:=x4.1.A1,A4:=wrap u64 (x4.1.A4+1),A6:=x4.1.A6,A7:=x4.1.A7},[])))) (.br (x3.2.2.B7==2) (.an (Q4q E2 x3.2.2.D0 x3.2.2.Value m.A4) (.lv (Q2o E2 x3.2.2.D0 x3.2.2.Value m.A4) λ(x5:Q00×List Q04)=> .lf ({B2:=x5.1.B2,Mem:=x5.1.Mem,A3:=x5.1.A3,B0:=x5.1.B0,B1:=x5.1.B1,C5:=x5.1.C5,A1:=x5.1.A1,A4:=wrap u64 (x5.1.A4+1),A6:=x5.1.A6,A7:=x5.1.A7},x5.2))) (.br (x3.2.2.B7==3) (.lf ({B2:=x3.1,Mem:=x3.2.1,A3:=x2.A3,B0:=x2.B0,B1:=x2.B1,C5:=x2.C5,A1:=x2.A1,A4:=wrap u64 (x2.A4+1),A6:=true,A7:=x2.A7},[])) (.br (x3.2.2.B7==4) (.lf ({B2:=x3.1,Mem:=x3.2.1,A3:=x2.A3,B0:=x2.B0,B1:=x2.B1,C5:=x2.C5,A1:=x2.A1,A4:=wrap u64 (x2.A4+1),A6:=x2.A6,A7:=true},[])) (.lf ({B2:=x3.1,Mem:=x3.2.1,A3:=x2.A3,B0:=x2.B0,B1:=x2.B1,C5:=x2.C5,A1:=x2.A1,A4:=wrap u64 (x2.A4+1),A6:=x2.A6,A7:=x2.A7},[]))))))))))
def Q3a(m:Q00)(clock:Int):(Q00×(List Q04)):=(Q31 m clock).m
abbrev Q34(m:Q00)(clock:Int):Prop:=(Q31 m clock).p
def Z2e:Q0c:=Q0c.fz<|mkP 58 [] false [.agg Q00.sig, .one (.int .u32)] [] (λargs rows=>Q34 (Q00.of (args.getD 0 .dead).cells) (argI args 1)) (λargs rows=>Q3a (Q00.of (args.getD 0 .dead).cells) (argI args 1)) (λX=> .tup [.agg (Q00.cells (X.1)), .sl 4 (.recs .apiOutput (X.2)) false]) (λX=>[])
theorem Z02:Q05 Tryz.prog Z2e:=fz_ok<|Q0k Q0i Q0j (.cons Q0t (.cons Qnl (.cons Qmd (.cons Z0m (.cons Qqu (.cons Qp9 (.nil))))))) Tryz.func58 Tryz.call58 (λargs rows=>Q31 (Q00.of (args.getD 0 .dead).cells) (argI args 1)) [.sl (.ints .u32) false, .sl (.recs .apiOutput) false] [] 2 (λ_ _ _=>by kernel_rfl) (λ_ _=>rfl) (λ_ _ h=>h) (λh=>by cases h)
end
end Go.Proofs.YtpcbkbalabgnlaaGreat

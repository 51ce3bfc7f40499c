/-
  Functions of the program: models, and that its calls come to them (by a program: gen3.py).
-/
import Derived.Test.YtpcbkbalabgnlaaGreatRecordOrderedBase
import Derived.Test.YtpcbkbalabgnlaaGreatRecordOrderedHand
import Derived.Test.YtpcbkbalabgnlaaGreatRecordOrderedYc
import Derived.Test.YtpcbkbalabgnlaaGreatRecordOrderedYb
import Derived.Test.YtpcbkbalabgnlaaGreatRecordOrderedYa
set_option linter.unusedVariables false
set_option linter.unusedSimpArgs false
namespace Go.Proofs.YtpcbkbalabgnlaaGreat
open Go Go.GD Go.IntKind
set_option maxRecDepth 100000
noncomputable section
def Q3i(m:Q00):Tree Bool:=
.an (Q3j m) (.lv (Q1e m) λ(x0:Bool)=> .br x0 (.br (!m.A9) (.an (Q34 m) (.lv (Q6r m) λ(x1:Bool)=> .br (!x1) (.lf (decide (m.A2<1152921504606846976))) (.lf false))) (.lf false)) (.lf false))
def Q2x(m:Q00):Bool:=(Q3i m).m
abbrev Q6c(m:Q00):Prop:=(Q3i m).p
def Z0v:Q0d:=mkP 96 [] true [.agg Q00.sig] [] (λargs rows=>Q6c (Q00.of (args.getD 0 .dead).cells)) (λargs rows=>Q2x (Q00.of (args.getD 0 .dead).cells)) (λX=> .bool X) (λX=>[])
theorem Qm0:Q05 Tryz.prog Z0v:=Q0n Q0i Q0j (.cons Qjd (.cons Qmc (.nil))) Tryz.func96 Tryz.call96 (λargs rows=>Q3i (Q00.of (args.getD 0 .dead).cells)) [] [] 2 (λ_ _ _=>by kernel_rfl) (λ_ _=>rfl) (λ_ _ h=>h) (λ_ X=>by kernel_rfl)
def Qbv(m:Q00)(z:(Int)):Nat:=(5-z).toNat
def Q2h(m:Q00):Tree Q00:=
let E1:=({B3:=m.B3,Mem:=m.Mem,A3:=m.A3,B0:=m.B0,B1:=m.B1,C5:=m.C5,A1:=m.A1,A2:=m.A2,A6:=false,A9:=m.A9}:Q00); .br (iand u32 m.B3.B6.a0 (2:Int)==(0:Int)) (.lf (E1)) (.an (Q48 E1) (.lv (Q63 E1) λ(x0:Int)=> .lp inferInstance (Qbv m 0+1) (((rE (0:Nat)∧rE (0:Nat))∧(rE (0:Nat)∧rE (0:Nat))∧rE (x0:Int)∧rE (0:Int)∧True)∧(rE m.B3.X.a0∧rE m.B3.X.a1∧rE m.B3.X.a2∧rE m.B3.X.a3∧rE m.B3.X.a4∧rE m.B3.X.a5∧rE m.B3.X.a6∧rE m.B3.X.a7∧rE m.B3.X.a8∧rE m.B3.X.a9∧rE m.B3.X.a10∧rE m.B3.X.a11∧rE m.B3.X.a12∧rE m.B3.X.a13∧rE m.B3.X.a14∧rE m.B3.X.a15∧rE m.B3.Pc∧rE m.B3.B6.a0∧rE m.B3.B6.a1∧rE m.B3.B6.a2∧rE m.B3.B6.a3∧rE m.B3.B6.a4∧rE m.B3.B6.a5∧rE m.B3.B6.a6∧rE m.B3.B6.a7∧((Els.Nil (Els.ints u32 m.Mem)∨rE (1:Nat))∧rE m.Mem)∧rE m.A3.D1∧rE m.B0.D7∧rE m.B0.C8∧rE m.B0.D6∧rE m.B1.Blocks∧rE m.B1.C2∧rE m.B1.B4∧rE m.B1.B9∧rE m.B1.D8∧rE m.B1.B7∧rE m.B1.B2∧rE m.B1.C3∧rE m.C5.B4∧rE m.C5.F0∧rE m.C5.C7∧rE m.C5.C0∧rE m.C5.B8∧rE m.C5.F2∧rE m.A1.C9∧rE m.A1.C1∧rE m.A2∧rE (false:Bool)∧rE m.A9∧True)∧(mE zM True True)∧True) 0 λ(v0:Int)=> .br (decide (v0<5)) (.cn (decide (0≤v0)) (.br (iand u32 x0 (ishl u32 1 v0) !=0) (.lv (Q4w m.B3 (wrap i64 (16+v0)) 0) λ(x1:Q03)=> .lf (Sum.inr {B3:=x1,Mem:=m.Mem,A3:=m.A3,B0:=m.B0,B1:=m.B1,C5:=m.C5,A1:=m.A1,A2:=m.A2,A6:=false,A9:=m.A9})) (.nx (((rE (0:Nat)∧rE (0:Nat))∧(rE (0:Nat)∧rE (0:Nat))∧rE (x0:Int)∧rE ((wrap i64 (v0+1)):Int)∧True)∧(rE m.B3.X.a0∧rE m.B3.X.a1∧rE m.B3.X.a2∧rE m.B3.X.a3∧rE m.B3.X.a4∧rE m.B3.X.a5∧rE m.B3.X.a6∧rE m.B3.X.a7∧rE m.B3.X.a8∧rE m.B3.X.a9∧rE m.B3.X.a10∧rE m.B3.X.a11∧rE m.B3.X.a12∧rE m.B3.X.a13∧rE m.B3.X.a14∧rE m.B3.X.a15∧rE m.B3.Pc∧rE m.B3.B6.a0∧rE m.B3.B6.a1∧rE m.B3.B6.a2∧rE m.B3.B6.a3∧rE m.B3.B6.a4∧rE m.B3.B6.a5∧rE m.B3.B6.a6∧rE m.B3.B6.a7∧((Els.Nil (Els.ints u32 m.Mem)∨rE (1:Nat))∧rE m.Mem)∧rE m.A3.D1∧rE m.B0.D7∧rE m.B0.C8∧rE m.B0.D6∧rE m.B1.Blocks∧rE m.B1.C2∧rE m.B1.B4∧rE m.B1.B9∧rE m.B1.D8∧rE m.B1.B7∧rE m.B1.B2∧rE m.B1.C3∧rE m.C5.B4∧rE m.C5.F0∧rE m.C5.C7∧rE m.C5.C0∧rE m.C5.B8∧rE m.C5.F2∧rE m.A1.C9∧rE m.A1.C1∧rE m.A2∧rE (false:Bool)∧rE m.A9∧True)∧(mE zM True True)∧True) (Sum.inl (wrap i64 (v0+1)))))) (.lf (Sum.inr E1))))
def Q0t(m:Q00):Q00:=(Q2h m).m
abbrev Q5u(m:Q00):Prop:=(Q2h m).p
def Qwc:LInv:={
 α:=(Int)
 F:=λst a=>([(1, .ptr 0 0 0),(2, .ptr 1 0 0),(3,(lk st 3)),(15, .int i64 a)],[⟨true,41,49, .gen [[(cT st 1 0),(cT st 1 1),(cT st 1 2),(cT st 1 3),(cT st 1 4),(cT st 1 5),(cT st 1 6),(cT st 1 7),(cT st 1 8),(cT st 1 9),(cT st 1 10),(cT st 1 11),(cT st 1 12),(cT st 1 13),(cT st 1 14),(cT st 1 15),(cT st 1 16),(cT st 1 17),(cT st 1 18),(cT st 1 19),(cT st 1 20),(cT st 1 21),(cT st 1 22),(cT st 1 23),(cT st 1 24),(cT st 1 25),(cT st 1 26),(cT st 1 27),(cT st 1 28),(cT st 1 29),(cT st 1 30),(cT st 1 31),(cT st 1 32),(cT st 1 33),(cT st 1 34),(cT st 1 35),(cT st 1 36),(cT st 1 37),(cT st 1 38),(cT st 1 39),(cT st 1 40),(cT st 1 41),(cT st 1 42),(cT st 1 43),(cT st 1 44),(cT st 1 45),(cT st 1 46),(cT st 1 47),(cT st 1 48)]]⟩,⟨true,41,49, .gen [[(cT st 2 0),(cT st 2 1),(cT st 2 2),(cT st 2 3),(cT st 2 4),(cT st 2 5),(cT st 2 6),(cT st 2 7),(cT st 2 8),(cT st 2 9),(cT st 2 10),(cT st 2 11),(cT st 2 12),(cT st 2 13),(cT st 2 14),(cT st 2 15),(cT st 2 16),(cT st 2 17),(cT st 2 18),(cT st 2 19),(cT st 2 20),(cT st 2 21),(cT st 2 22),(cT st 2 23),(cT st 2 24),(cT st 2 25),(cT st 2 26),(cT st 2 27),(cT st 2 28),(cT st 2 29),(cT st 2 30),(cT st 2 31),(cT st 2 32),(cT st 2 33),(cT st 2 34),(cT st 2 35),(cT st 2 36),(cT st 2 37),(cT st 2 38),(cT st 2 39),(cT st 2 40),(cT st 2 41),(cT st 2 42),(cT st 2 43),(cT st 2 44),(cT st 2 45),(cT st 2 46),(cT st 2 47),(cT st 2 48)]]⟩])
 a0:=λst=>(lk st 15).toInt
 ex0:=λst=>[]++[(Q1 (lk st 1) (st.rows.length+0)),(Q1 (lk st 2) (st.rows.length+1))]
 next:=λst=>(lk st 15).toInt
 ex:=λst=>[]++[(Q1 (lk st 1) (st.rows.length+0)),(Q1 (lk st 2) (st.rows.length+1))]}
def Qre:List (Nat×LInv):=[(6,Qwc)]
def Qzw:Q0d:=Q0d.fz<|mkP 97 [] false [.agg Q00.sig] [] (λargs rows=>Q5u (Q00.of (args.getD 0 .dead).cells)) (λargs rows=>Q0t (Q00.of (args.getD 0 .dead).cells)) (λX=> .agg (Q00.cells X)) (λX=>[])
theorem Qlu:Q05 Tryz.prog Qzw:=Zk6<|Q0n Q0i Q0j (.cons Qis (.cons Qhl (.nil))) Tryz.func97 Tryz.call97 (λargs rows=>Q2h (Q00.of (args.getD 0 .dead).cells)) [.sl (.ints .u32) false] Qre 3 (λ_ _ _=>by kernel_rfl) (λ_ _=>rfl) (λ_ _ h=>h) (λh=>by cases h)
def Q9e(c:Q0b)(port:Int):Tree (Q0b×Int):=
.br (port==0) (.br (decide (c.D1=[])) (.lf (c,4294967295)) (.cn (decide ((0:Int)≤(0:Int)∧0<(c.D1.length:Int))) (.cn (decide ((0:Int)≤(1:Int)∧1≤(c.D1.length:Int)∧(c.D1.length:Int)≤(c.D1.length:Int))) (.lf ({D1:=List.take (Int.toNat (c.D1.length:Int)-Int.toNat 1) (List.drop (Int.toNat 1) c.D1)},wrap u32 (↑(UInt8.toNat (c.D1.getD (Int.toNat 0) (0:UInt8))):Int)))))) (.br (port==1) (.lf (c,wrap u32 (c.D1.length:Int))) (.lf (c,0)))
def Qo8(c:Q0b)(port:Int):(Q0b×Int):=(Q9e c port).m
theorem Z18(c:Q0b)(port:Int):(Q9e c port).p:=by
 unfold Tree.p Q9e
 repeat'(first|exact trivial|refine w_br (λ_=> ?_) (λ_=> ?_)|refine w_cn ?_ ?_|refine w_an ?_ ?_|refine w_lv (λ_ _=> ?_)|refine w_nx ?_|refine w_lf ?_|refine And.intro ?_ ?_)
 all_goals(((subst_vars;first|trivial|assumption|omega|((simp(config:={decide:=true,failIfUnchanged:=false}) only[Bool.and_eq_true,Bool.or_eq_true,Bool.and_eq_false_iff,Bool.or_eq_false_iff,Bool.not_eq_true',Bool.not_eq_false',Bool.not_eq_true,Bool.not_eq_false,decide_eq_true_eq,decide_eq_false_iff_not,Q74,Q4y,Q77,Q4u,beq_iff_eq,beq_eq_false_iff_ne,bne_iff_ne,bne_eq_false_iff_eq,ne_eq,List.all_cons,List.all_nil,D.plain,List.length_cons,List.length_nil,List.length_append,List.length_set,List.length_replicate,IntKind.wrap_i64,IntKind.wrap_u64,IntKind.wrap_u32,IntKind.wrap_i32,IntKind.wrap_u8,true_and,and_true,or_false,false_or,or_true,true_or,not_true_eq_false,not_false_eq_true,Prod.fst,Prod.snd]at*);first|done|assumption|omega)|((simp(config:={decide:=true,failIfUnchanged:=false}) only[Bool.and_eq_true,Bool.or_eq_true,Bool.and_eq_false_iff,Bool.or_eq_false_iff,Bool.not_eq_true',Bool.not_eq_false',Bool.not_eq_true,Bool.not_eq_false,decide_eq_true_eq,decide_eq_false_iff_not,Q74,Q4y,Q77,Q4u,beq_iff_eq,beq_eq_false_iff_ne,bne_iff_ne,bne_eq_false_iff_eq,ne_eq,List.all_cons,List.all_nil,D.plain,List.length_cons,List.length_nil,List.length_append,List.length_set,List.length_replicate,IntKind.wrap_i64,IntKind.wrap_u64,IntKind.wrap_u32,IntKind.wrap_i32,IntKind.wrap_u8,true_and,and_true,or_false,false_or,or_true,true_or,not_true_eq_false,not_false_eq_true,Prod.fst,Prod.snd]at*);simp only[←List.length_pos_iff]at*;omega)|(simp_all;done)|(have:= @Qje;simp_all;try omega))))
def Z9d:Q0d:=mkR 137 [] true [.agg Q0b.sig, .one (.int .i64)] [] (λargs rows=>Qo8 (Q0b.of (args.getD 0 .dead).cells) (argI args 1)) (λX=> .tup [.agg (Q0b.cells (X.1)), .int .u32 (X.2)]) (λX=>[])
theorem Z5u:Q05 Tryz.prog Z9d:=Q0z Q0i Q0j (.nil) Tryz.func137 Tryz.call137 (λargs rows=>Q9e (Q0b.of (args.getD 0 .dead).cells) (argI args 1)) [] [] 2 (λ_ _ _=>by kernel_rfl) (λ_ _=>rfl) (λargs rows=>Z18 (Q0b.of (args.getD 0 .dead).cells) (argI args 1)) (λ_ X=>by kernel_rfl)
def Qnp(t:Q0h):Tree Int:=
.br t.D6 (.lf 1) (.lf 0)
def Qwz(t:Q0h):Int:=(Qnp t).m
def Zie:Q0d:=mkR 138 [] true [.agg Q0h.sig] [] (λargs rows=>Qwz (Q0h.of (args.getD 0 .dead).cells)) (λX=> .int .u32 X) (λX=>[])
theorem Ze6:Q05 Tryz.prog Zie:=Q0z Q0i Q0j (.nil) Tryz.func138 Tryz.call138 (λargs rows=>Qnp (Q0h.of (args.getD 0 .dead).cells)) [] [] 2 (λ_ _ _=>by kernel_rfl) (λ_ _=>rfl) (λ_ _=>Tree.free_ok (by kernel_rfl)) (λ_ X=>by kernel_rfl)
def Qs1(d0:Q0c)(port:Int):Tree Int:=
.br (port==4) (.lf d0.C2) (.br (port==5) (.lf d0.B4) (.br (port==6) (.lf (wrap u32 d0.B9)) (.lf 0)))
def Qu0(d0:Q0c)(port:Int):Int:=(Qs1 d0 port).m
def disk_In_m:Q0d:=mkR 139 [] true [.agg Q0c.sig, .one (.int .i64)] [] (λargs rows=>Qu0 (Q0c.of (args.getD 0 .dead).cells) (argI args 1)) (λX=> .int .u32 X) (λX=>[])
theorem Zkc:Q05 Tryz.prog disk_In_m:=Q0z Q0i Q0j (.nil) Tryz.func139 Tryz.call139 (λargs rows=>Qs1 (Q0c.of (args.getD 0 .dead).cells) (argI args 1)) [] [] 2 (λ_ _ _=>by kernel_rfl) (λ_ _=>rfl) (λ_ _=>Tree.free_ok (by kernel_rfl)) (λ_ X=>by kernel_rfl)
def Qr0(n:Q0m)(port:Int):Tree Int:=
.br (port==7) (.lf n.B4) (.br (port==8) (.lf n.F2) (.br (port==9) (.br n.C7 (.br n.B8 (.lf (wrap u32 (wrap u32 ((0:Int)+(1:Int))+2))) (.lf (wrap u32 ((0:Int)+(1:Int))))) (.br n.B8 (.lf (wrap u32 ((0:Int)+(2:Int)))) (.lf 0))) (.lf 0)))
def Z0f(n:Q0m)(port:Int):Int:=(Qr0 n port).m
def nic_In_m:Q0d:=mkR 140 [] true [.agg Q0m.sig, .one (.int .i64)] [] (λargs rows=>Z0f (Q0m.of (args.getD 0 .dead).cells) (argI args 1)) (λX=> .int .u32 X) (λX=>[])
theorem nic_In_ok:Q05 Tryz.prog nic_In_m:=Q0z Q0i Q0j (.nil) Tryz.func140 Tryz.call140 (λargs rows=>Qr0 (Q0m.of (args.getD 0 .dead).cells) (argI args 1)) [] [] 2 (λ_ _ _=>by kernel_rfl) (λ_ _=>rfl) (λ_ _=>Tree.free_ok (by kernel_rfl)) (λ_ X=>by kernel_rfl)
def Q6x(b:Q06)(port:Int):Tree Int:=
.br (port==10) (.lf b.C9) (.br (port==11) (.an (Q5p b) (.lv (Qd0 b) λ(x0:Int)=> .lf (wrap u32 x0))) (.lf 0))
def Qnw(b:Q06)(port:Int):Int:=(Q6x b port).m
abbrev Qb2(b:Q06)(port:Int):Prop:=(Q6x b port).p
def Z86:Q0d:=mkP 141 [] true [.agg Q06.sig, .one (.int .i64)] [] (λargs rows=>Qb2 (Q06.of (args.getD 0 .dead).cells) (argI args 1)) (λargs rows=>Qnw (Q06.of (args.getD 0 .dead).cells) (argI args 1)) (λX=> .int .u32 X) (λX=>[])
theorem Z4w:Q05 Tryz.prog Z86:=Q0n Q0i Q0j (.cons Qlg (.nil)) Tryz.func141 Tryz.call141 (λargs rows=>Q6x (Q06.of (args.getD 0 .dead).cells) (argI args 1)) [] [] 2 (λ_ _ _=>by kernel_rfl) (λ_ _=>rfl) (λ_ _ h=>h) (λ_ X=>by kernel_rfl)
def Q2b(m:Q00)(port:Int)(clock:Int):Tree (Q00×Int):=
let T1:Tree ((Q00×Int)):= .lv (Qo8 m.A3 port) λ(x0:Q0b×Int)=> .lf ({B3:=m.B3,Mem:=m.Mem,A3:=x0.1,B0:=m.B0,B1:=m.B1,C5:=m.C5,A1:=m.A1,A2:=m.A2,A6:=m.A6,A9:=m.A9},x0.2); .br (port==0) T1 (.br (port==1) T1 (.br (port==2) (.lf (m,clock)) (.br (port==3) (.lv (Qwz m.B0) λ(x2:Int)=> .lf (m,x2)) (.br (port==4) (.lv (Qu0 m.B1 port) λ(x3:Int)=> .lf (m,x3)) (.br (port==5) (.lv (Qu0 m.B1 port) λ(x4:Int)=> .lf (m,x4)) (.br (port==6) (.lv (Qu0 m.B1 port) λ(x5:Int)=> .lf (m,x5)) (.br (port==7) (.lv (Z0f m.C5 port) λ(x6:Int)=> .lf (m,x6)) (.br (port==8) (.lv (Z0f m.C5 port) λ(x7:Int)=> .lf (m,x7)) (.br (port==9) (.lv (Z0f m.C5 port) λ(x8:Int)=> .lf (m,x8)) (let T2:Tree ((Q00×Int)):= .an (Qb2 m.A1 port) (.lv (Qnw m.A1 port) λ(x9:Int)=> .lf (m,x9)); .br (port==10) T2 (.br (port==11) T2 (.lf (m,0)))))))))))))
def Q1g(m:Q00)(port:Int)(clock:Int):(Q00×Int):=(Q2b m port clock).m
abbrev Q57(m:Q00)(port:Int)(clock:Int):Prop:=(Q2b m port clock).p
def Qrq:Q0d:=Q0d.fz<|mkP 99 [] false [.agg Q00.sig, .one (.int .i64), .one (.int .u32)] [] (λargs rows=>Q57 (Q00.of (args.getD 0 .dead).cells) (argI args 1) (argI args 2)) (λargs rows=>Q1g (Q00.of (args.getD 0 .dead).cells) (argI args 1) (argI args 2)) (λX=> .tup [.agg (Q00.cells (X.1)), .int .u32 (X.2)]) (λX=>[])
theorem Qpc:Q05 Tryz.prog Qrq:=Zk6<|Q0n Q0i Q0j (.cons Z5u (.cons Ze6 (.cons Zkc (.cons nic_In_ok (.cons Z4w (.nil)))))) Tryz.func99 Tryz.call99 (λargs rows=>Q2b (Q00.of (args.getD 0 .dead).cells) (argI args 1) (argI args 2)) [.sl (.ints .u32) false] [] 2 (λ_ _ _=>by kernel_rfl) (λ_ _=>rfl) (λ_ _ h=>h) (λh=>by cases h)
def Qkp(t:Q0h)(deadline:Int):Tree Q0h:=
.lf ({D7:=deadline !=0,C8:=deadline,D6:=false})
def Qk5(t:Q0h)(deadline:Int):Q0h:=(Qkp t deadline).m
def Zf8:Q0d:=mkR 142 [] true [.agg Q0h.sig, .one (.int .u32)] [] (λargs rows=>Qk5 (Q0h.of (args.getD 0 .dead).cells) (argI args 1)) (λX=> .agg (Q0h.cells X)) (λX=>[])
theorem Z9g:Q05 Tryz.prog Zf8:=Q0z Q0i Q0j (.nil) Tryz.func142 Tryz.call142 (λargs rows=>Qkp (Q0h.of (args.getD 0 .dead).cells) (argI args 1)) [] [] 2 (λ_ _ _=>by kernel_rfl) (λ_ _=>rfl) (λ_ _=>Tree.free_ok (by kernel_rfl)) (λ_ X=>by kernel_rfl)
def Qd4(m:(List Int))(frame:Int):Tree Bool:=
.lv (Q0r m) λ(x0:Int)=> .lf (decide (wrap u64 frame<wrap u64 x0))
def Q9c(m:(List Int))(frame:Int):Bool:=(Qd4 m frame).m
def Z6k:Q0d:=mkR 124 [] true [.one (.ints .u32), .one (.int .u32)] [] (λargs rows=>Q9c (argL .u32 args 0) (argI args 1)) (λX=> .bool X) (λX=>[])
theorem Qon:Q05 Tryz.prog Z6k:=Q0z Q0i Q0j (.cons Q4l (.nil)) Tryz.func124 Tryz.call124 (λargs rows=>Qd4 (argL .u32 args 0) (argI args 1)) [] [] 2 (λ_ _ _=>by kernel_rfl) (λ_ _=>rfl) (λ_ _=>Tree.free_ok (by kernel_rfl)) (λ_ X=>by kernel_rfl)
def Q8j(m:(List Int))(frame:Int):Tree Bool:=
.br (decide (frame≥0)) (.lv (Q0r m) λ(x0:Int)=> .lf (decide (frame<x0))) (.lf false)
def Q5m(m:(List Int))(frame:Int):Bool:=(Q8j m frame).m
def Qvy:Q0d:=mkR 173 [] true [.one (.ints .u32), .one (.int .i64)] [] (λargs rows=>Q5m (argL .u32 args 0) (argI args 1)) (λX=> .bool X) (λX=>[])
theorem Qjz:Q05 Tryz.prog Qvy:=Q0z Q0i Q0j (.cons Q4l (.nil)) Tryz.func173 Tryz.call173 (λargs rows=>Q8j (argL .u32 args 0) (argI args 1)) [] [] 2 (λ_ _ _=>by kernel_rfl) (λ_ _=>rfl) (λ_ _=>Tree.free_ok (by kernel_rfl)) (λ_ X=>by kernel_rfl)
def Qlk(words:(List Int))(z:(Int)×(List Int)):Prop:=0≤z.1∧z.1≤words.length∧(z.2.length:Int)=4*z.1
def Q7u(words:(List Int))(z:(Int)×(List Int)):Nat:=(words.length-z.1).toNat
def Q5d(words:(List Int)):Tree (List UInt8):=
.cn (Nat.blt 0 1&&Nat.beq 1 1&&List.all [D.int u8 0] D.plain&&decide ((0:Int)≤(0:Int)∧0≤wrap i64 (4*(words.length:Int))∧wrap i64 (4*(words.length:Int))≤9223372036854775807∧(↑1:Int)*wrap i64 (4*(words.length:Int))≤140737488355328)) (.lp inferInstance (Q7u words (0,[])+1) ((True∧((Els.Nil (Els.ints u32 words)∨rE (1:Nat))∧rE (words:List Int))∧rE ((words.length:Int):Int)∧rE (0:Int)∧True)∧rE ([]:List Int)∧True) (0,[]) λ(v0:Int×List Int)=> .br (decide (v0.1<(words.length:Int))) (.cn (Nat.beq 1 1&&Nat.blt 0 1&&decide (0≤v0.1∧v0.1<(words.length:Int))) (.cn (decide (1*(v0.2.length+4)≤140737488355328)) (let E1:=words.getD v0.1.toNat 0; .nx ((True∧((Els.Nil (Els.ints u32 words)∨rE (1:Nat))∧rE (words:List Int))∧rE ((words.length:Int):Int)∧rE ((wrap i64 (v0.1+1)):Int)∧True)∧rE ((v0.2++[wrap u8 (words.getD v0.1.toNat 0),wrap u8 (ishr u32 (words.getD v0.1.toNat 0) 8),wrap u8 (ishr u32 (words.getD v0.1.toNat 0) 16),wrap u8 (ishr u32 (words.getD v0.1.toNat 0) 24)]):List Int)∧True) (Sum.inl (wrap i64 (v0.1+1),v0.2++[wrap u8 E1,wrap u8 (ishr u32 E1 8),wrap u8 (ishr u32 E1 16),wrap u8 (ishr u32 E1 24)]))))) (.lf (Sum.inr (bytesOf v0.2))))
def Qxv(words:(List Int)):(List UInt8):=(Q5d words).m
def Q3p(words:(List Int)):Prop:=
words.length≤1000000000000
theorem Qxw(words:(List Int))(hw:Q3p words):(Q5d words).p:=by
 simp only[Q3p]at hw
 unfold Tree.p Q5d
 repeat'(first|refine w_lp (inv:=Qlk words) (μ:=Q7u words) ?_ (Nat.lt_succ_self _) (λ_ _=> ?_)|exact trivial|refine w_br (λ_=> ?_) (λ_=> ?_)|refine w_cn ?_ ?_|refine w_an ?_ ?_|refine w_lv (λ_ _=> ?_)|refine w_nx ?_|refine w_lf ?_|refine And.intro ?_ ?_)
 all_goals((try simp only[Qlk,Q7u]at*);((subst_vars;first|trivial|assumption|omega|((simp(config:={decide:=true,failIfUnchanged:=false}) only[Bool.and_eq_true,Bool.or_eq_true,Bool.and_eq_false_iff,Bool.or_eq_false_iff,Bool.not_eq_true',Bool.not_eq_false',Bool.not_eq_true,Bool.not_eq_false,decide_eq_true_eq,decide_eq_false_iff_not,Q74,Q4y,Q77,Q4u,beq_iff_eq,beq_eq_false_iff_ne,bne_iff_ne,bne_eq_false_iff_eq,ne_eq,List.all_cons,List.all_nil,D.plain,List.length_cons,List.length_nil,List.length_append,List.length_set,List.length_replicate,IntKind.wrap_i64,IntKind.wrap_u64,IntKind.wrap_u32,IntKind.wrap_i32,IntKind.wrap_u8,true_and,and_true,or_false,false_or,or_true,true_or,not_true_eq_false,not_false_eq_true,Prod.fst,Prod.snd]at*);first|done|assumption|omega)|((simp(config:={decide:=true,failIfUnchanged:=false}) only[Bool.and_eq_true,Bool.or_eq_true,Bool.and_eq_false_iff,Bool.or_eq_false_iff,Bool.not_eq_true',Bool.not_eq_false',Bool.not_eq_true,Bool.not_eq_false,decide_eq_true_eq,decide_eq_false_iff_not,Q74,Q4y,Q77,Q4u,beq_iff_eq,beq_eq_false_iff_ne,bne_iff_ne,bne_eq_false_iff_eq,ne_eq,List.all_cons,List.all_nil,D.plain,List.length_cons,List.length_nil,List.length_append,List.length_set,List.length_replicate,IntKind.wrap_i64,IntKind.wrap_u64,IntKind.wrap_u32,IntKind.wrap_i32,IntKind.wrap_u8,true_and,and_true,or_false,false_or,or_true,true_or,not_true_eq_false,not_false_eq_true,Prod.fst,Prod.snd]at*);simp only[←List.length_pos_iff]at*;omega)|(simp_all;done)|(have:= @Qje;simp_all;try omega))))
def Z17:LInv:={
 α:=(Int)×(List Int)
 F:=λst a=>([(3, .all 0),(10,(lk st 10)),(11,(lk st 11)),(12, .int i64 a.1)],[⟨false,5,1, .ints u8 a.2⟩])
 a0:=λst=>((lk st 12).toInt,(Q8 st.rows (rN st 3)))
 ex0:=λst=>[]++[(Q1 (lk st 3) (st.rows.length+0))]
 next:=λst=>((lk st 12).toInt,(Q8 st.rows (rN st 3)))
 ex:=λst=>[]++[(Q1 (lk st 3) (st.rows.length+0))]}
def Qwf:List (Nat×LInv):=[(3,Z17)]
def Z5y:Q0d:=mkP 174 [] true [.one (.ints .u32)] [] (λargs rows=>Q3p (argL .u32 args 0)) (λargs rows=>Qxv (argL .u32 args 0)) (λX=> .str X) (λX=>[])
theorem Z1j:Q05 Tryz.prog Z5y:=Q0n Q0i Q0j (.nil) Tryz.func174 Tryz.call174 (λargs rows=>Q5d (argL .u32 args 0)) [] Qwf 3 (λ_ _ _=>by kernel_rfl) (λ_ _=>rfl) (λargs rows h=>Qxw (argL .u32 args 0) h) (λ_ X=>by kernel_rfl)
def Q3m(m:(List Int))(frame:Int):Tree ((List UInt8)×Bool):=
.lv (Q5m m frame) λ(x0:Bool)=> .br (!x0) (.lf ([],false)) (.cn (Nat.beq 1 1&&Nat.blt 0 1&&decide (0≤wrap i64 (frame*32)∧wrap i64 (frame*32)≤wrap i64 (wrap i64 (frame*32)+32)∧wrap i64 (wrap i64 (frame*32)+32)≤(m.length:Int))) (let E1:=List.take (Int.toNat (wrap i64 (wrap i64 (frame*32)+32))-Int.toNat (wrap i64 (frame*32))) (List.drop (Int.toNat (wrap i64 (frame*32))) m); .an (Q3p E1) (.lv (Qxv E1) λ(x1:List UInt8)=> .lf (x1,true))))
def Q64(m:(List Int))(frame:Int):((List UInt8)×Bool):=(Q3m m frame).m
abbrev Q60(m:(List Int))(frame:Int):Prop:=(Q3m m frame).p
def Z5q:Q0d:=mkP 127 [] true [.one (.ints .u32), .one (.int .i64)] [] (λargs rows=>Q60 (argL .u32 args 0) (argI args 1)) (λargs rows=>Q64 (argL .u32 args 0) (argI args 1)) (λX=> .tup [.str (X.1), .bool (X.2)]) (λX=>[])
theorem Qj5:Q05 Tryz.prog Z5q:=Q0n Q0i Q0j (.cons Qjz (.cons Z1j (.nil))) Tryz.func127 Tryz.call127 (λargs rows=>Q3m (argL .u32 args 0) (argI args 1)) [] [] 2 (λ_ _ _=>by kernel_rfl) (λ_ _=>rfl) (λ_ _ h=>h) (λ_ X=>by kernel_rfl)
def Qp2(d0:Q0c)(at0:Int):Tree (Q07×Bool):=
.br (d0.B9 !=1) (.lf ({B5:=0,At:=0,C2:=0,C6:=[]},false)) (.br (d0.D8==1) (.lf ({B5:=3,At:=at0,C2:=d0.B7,C6:=[]},true)) (.br (d0.D8==2) (.lf ({B5:=4,At:=at0,C2:=d0.B7,C6:=d0.C3},true)) (.lf ({B5:=0,At:=0,C2:=0,C6:=[]},false))))
def Qik(d0:Q0c)(at0:Int):(Q07×Bool):=(Qp2 d0 at0).m
def Z1e:Q0d:=mkR 235 [] true [.agg Q0c.sig, .one (.int .u64)] [] (λargs rows=>Qik (Q0c.of (args.getD 0 .dead).cells) (argI args 1)) (λX=> .tup [.agg (Q07.cells (X.1)), .bool (X.2)]) (λX=>[])
theorem Qxt:Q05 Tryz.prog Z1e:=Q0z Q0i Q0j (.nil) Tryz.func235 Tryz.call235 (λargs rows=>Qp2 (Q0c.of (args.getD 0 .dead).cells) (argI args 1)) [] [] 2 (λ_ _ _=>by kernel_rfl) (λ_ _=>rfl) (λ_ _=>Tree.free_ok (by kernel_rfl)) (λ_ X=>by kernel_rfl)
def Q6s(d0:Q0c)(m:(List Int))(cmd:Int)(at0:Int):Tree (Q0c×(List Q07)):=
.br (d0.B9 !=0) (.lf (d0,[])) (let T1:Tree ((Q0c×(List Q07))):= .lf ({Blocks:=d0.Blocks,C2:=d0.C2,B4:=d0.B4,B9:=3,D8:=d0.D8,B7:=d0.B7,B2:=d0.B2,C3:=d0.C3},[]); .br (decide (d0.C2≥d0.Blocks)) T1 (.lv (Q9c m d0.B4) λ(x0:Bool)=> .br (!x0) T1 (.br (cmd==2) (.an (Q60 m (wrap i64 d0.B4)) (.lv (Q64 m (wrap i64 d0.B4)) λ(x1:List UInt8×Bool)=>let E2:=({Blocks:=d0.Blocks,C2:=d0.C2,B4:=d0.B4,B9:=1,D8:=cmd,B7:=d0.C2,B2:=d0.B4,C3:=x1.1}:Q0c); .lv (Qik E2 at0) λ(x2:Q07×Bool)=> .lf (E2,[x2.1]))) (let E3:=({Blocks:=d0.Blocks,C2:=d0.C2,B4:=d0.B4,B9:=1,D8:=cmd,B7:=d0.C2,B2:=d0.B4,C3:=[]}:Q0c); .lv (Qik E3 at0) λ(x3:Q07×Bool)=> .lf (E3,[x3.1])))))
def Qt3(d0:Q0c)(m:(List Int))(cmd:Int)(at0:Int):(Q0c×(List Q07)):=(Q6s d0 m cmd at0).m
abbrev Qb6(d0:Q0c)(m:(List Int))(cmd:Int)(at0:Int):Prop:=(Q6s d0 m cmd at0).p
def Z8p:Q0d:=mkP 195 [] true [.agg Q0c.sig, .one (.ints .u32), .one (.int .i64), .one (.int .u64)] [] (λargs rows=>Qb6 (Q0c.of (args.getD 0 .dead).cells) (argL .u32 args 1) (argI args 2) (argI args 3)) (λargs rows=>Qt3 (Q0c.of (args.getD 0 .dead).cells) (argL .u32 args 1) (argI args 2) (argI args 3)) (λX=> .tup [.agg (Q0c.cells (X.1)), .sl 4 (.recs .apiOutput (X.2)) true]) (λX=>[])
theorem Z7l:Q05 Tryz.prog Z8p:=Q0n Q0i Q0j (.cons Qon (.cons Qj5 (.cons Qxt (.nil)))) Tryz.func195 Tryz.call195 (λargs rows=>Q6s (Q0c.of (args.getD 0 .dead).cells) (argL .u32 args 1) (argI args 2) (argI args 3)) [.sl (.recs .apiOutput) true] [] 2 (λ_ _ _=>by kernel_rfl) (λ_ _=>rfl) (λ_ _ h=>h) (λ_ X=>by kernel_rfl)
def Qa9(d0:Q0c)(m:(List Int))(port:Int)(v:Int)(at0:Int):Tree (Q0c×(List Q07)):=
.br (port==4) (.lf ({Blocks:=d0.Blocks,C2:=v,B4:=d0.B4,B9:=d0.B9,D8:=d0.D8,B7:=d0.B7,B2:=d0.B2,C3:=d0.C3},[])) (.br (port==5) (.lf ({Blocks:=d0.Blocks,C2:=d0.C2,B4:=v,B9:=d0.B9,D8:=d0.D8,B7:=d0.B7,B2:=d0.B2,C3:=d0.C3},[])) (.br (port==6) (let T1:Tree ((Q0c×(List Q07))):= .an (Qb6 d0 m (wrap i64 v) at0) (.lv (Qt3 d0 m (wrap i64 v) at0) λ(x0:Q0c×List Q07)=> .lf (x0.1,x0.2)); .br (v==1) T1 (.br (v==2) T1 (.br (v==0) (.lv (Q99 d0) λ(x2:Bool)=> .br x2 (.lf ({Blocks:=d0.Blocks,C2:=d0.C2,B4:=d0.B4,B9:=0,D8:=d0.D8,B7:=d0.B7,B2:=d0.B2,C3:=d0.C3},[])) (.lf (d0,[]))) (.lf (d0,[]))))) (.lf (d0,[]))))
def Qwn(d0:Q0c)(m:(List Int))(port:Int)(v:Int)(at0:Int):(Q0c×(List Q07)):=(Qa9 d0 m port v at0).m
abbrev Qf(d0:Q0c)(m:(List Int))(port:Int)(v:Int)(at0:Int):Prop:=(Qa9 d0 m port v at0).p
def Zj7:Q0d:=mkP 143 [] true [.agg Q0c.sig, .one (.ints .u32), .one (.int .i64), .one (.int .u32), .one (.int .u64)] [] (λargs rows=>Qf (Q0c.of (args.getD 0 .dead).cells) (argL .u32 args 1) (argI args 2) (argI args 3) (argI args 4)) (λargs rows=>Qwn (Q0c.of (args.getD 0 .dead).cells) (argL .u32 args 1) (argI args 2) (argI args 3) (argI args 4)) (λX=> .tup [.agg (Q0c.cells (X.1)), .sl 4 (.recs .apiOutput (X.2)) true]) (λX=>[])
theorem Zfe:Q05 Tryz.prog Zj7:=Q0n Q0i Q0j (.cons Z7l (.cons Qmf (.nil))) Tryz.func143 Tryz.call143 (λargs rows=>Qa9 (Q0c.of (args.getD 0 .dead).cells) (argL .u32 args 1) (argI args 2) (argI args 3) (argI args 4)) [.sl (.recs .apiOutput) true] [] 2 (λ_ _ _=>by kernel_rfl) (λ_ _=>rfl) (λ_ _ h=>h) (λ_ X=>by kernel_rfl)
def Qeh(m:(List Int))(frame:Int):Tree Bool:=
.lv (Q0r m) λ(x0:Int)=> .lf (decide (wrap u64 frame<wrap u64 x0))
def Qal(m:(List Int))(frame:Int):Bool:=(Qeh m frame).m
def Z8r:Q0d:=mkR 126 [] true [.one (.ints .u32), .one (.int .u32)] [] (λargs rows=>Qal (argL .u32 args 0) (argI args 1)) (λX=> .bool X) (λX=>[])
theorem Qkz:Q05 Tryz.prog Z8r:=Q0z Q0i Q0j (.cons Q4l (.nil)) Tryz.func126 Tryz.call126 (λargs rows=>Qeh (argL .u32 args 0) (argI args 1)) [] [] 2 (λ_ _ _=>by kernel_rfl) (λ_ _=>rfl) (λ_ _=>Tree.free_ok (by kernel_rfl)) (λ_ X=>by kernel_rfl)
def Qa7(n:Q0m)(m:(List Int))(at0:Int):Tree (List Q07):=
.br (decide (n.F0<1)) (.lf ([])) (.br (decide (n.F0>128)) (.lf ([])) (.lv (Qal m n.B4) λ(x0:Bool)=> .br (!x0) (.lf ([])) (.an (Q60 m (wrap i64 n.B4)) (.lv (Q64 m (wrap i64 n.B4)) λ(x1:List UInt8×Bool)=> .cn (decide ((0:Int)≤(0:Int)∧0≤n.F0∧n.F0≤(x1.1.length:Int))) (.lf ([{B5:=2,At:=at0,C2:=0,C6:=List.take (Int.toNat n.F0-Int.toNat 0) (List.drop (Int.toNat 0) x1.1)}]))))))
def Z5l(n:Q0m)(m:(List Int))(at0:Int):(List Q07):=(Qa7 n m at0).m
abbrev Qf1(n:Q0m)(m:(List Int))(at0:Int):Prop:=(Qa7 n m at0).p
def Zja:Q0d:=mkP 196 [] true [.agg Q0m.sig, .one (.ints .u32), .one (.int .u64)] [] (λargs rows=>Qf1 (Q0m.of (args.getD 0 .dead).cells) (argL .u32 args 1) (argI args 2)) (λargs rows=>Z5l (Q0m.of (args.getD 0 .dead).cells) (argL .u32 args 1) (argI args 2)) (λX=> .sl 4 (.recs .apiOutput X) true) (λX=>[])
theorem Ze9:Q05 Tryz.prog Zja:=Q0n Q0i Q0j (.cons Qkz (.cons Qj5 (.nil))) Tryz.func196 Tryz.call196 (λargs rows=>Qa7 (Q0m.of (args.getD 0 .dead).cells) (argL .u32 args 1) (argI args 2)) [.sl (.recs .apiOutput) true] [] 2 (λ_ _ _=>by kernel_rfl) (λ_ _=>rfl) (λ_ _ h=>h) (λ_ X=>by kernel_rfl)
def Qd5(n:Q0m)(m:(List Int))(port:Int)(v:Int)(at0:Int):Tree (Q0m×(List Q07)):=
.br (port==7) (.lf ({B4:=v,F0:=n.F0,C7:=n.C7,C0:=n.C0,B8:=n.B8,F2:=n.F2},[])) (.br (port==8) (.lf ({B4:=n.B4,F0:=v,C7:=n.C7,C0:=n.C0,B8:=n.B8,F2:=n.F2},[])) (.br (port==9) (.br (v==1) (.an (Qf1 n m at0) (.lv (Z5l n m at0) λ(x0:List Q07)=> .lf (n,x0))) (.br (v==2) (.lv (Qal m n.B4) λ(x1:Bool)=> .br x1 (.br (!n.C7) (.br (!n.B8) (.lf ({B4:=n.B4,F0:=n.F0,C7:=true,C0:=n.B4,B8:=n.B8,F2:=n.F2},[])) (.lf (n,[]))) (.lf (n,[]))) (.lf (n,[]))) (.br (v==0) (.lf ({B4:=n.B4,F0:=n.F0,C7:=n.C7,C0:=n.C0,B8:=false,F2:=0},[])) (.lf (n,[]))))) (.lf (n,[]))))
def Z5e(n:Q0m)(m:(List Int))(port:Int)(v:Int)(at0:Int):(Q0m×(List Q07)):=(Qd5 n m port v at0).m
abbrev Qib(n:Q0m)(m:(List Int))(port:Int)(v:Int)(at0:Int):Prop:=(Qd5 n m port v at0).p
def nic_Out_m:Q0d:=mkP 144 [] true [.agg Q0m.sig, .one (.ints .u32), .one (.int .i64), .one (.int .u32), .one (.int .u64)] [] (λargs rows=>Qib (Q0m.of (args.getD 0 .dead).cells) (argL .u32 args 1) (argI args 2) (argI args 3) (argI args 4)) (λargs rows=>Z5e (Q0m.of (args.getD 0 .dead).cells) (argL .u32 args 1) (argI args 2) (argI args 3) (argI args 4)) (λX=> .tup [.agg (Q0m.cells (X.1)), .sl 4 (.recs .apiOutput (X.2)) true]) (λX=>[])
theorem Zjg:Q05 Tryz.prog nic_Out_m:=Q0n Q0i Q0j (.cons Ze9 (.cons Qkz (.nil))) Tryz.func144 Tryz.call144 (λargs rows=>Qd5 (Q0m.of (args.getD 0 .dead).cells) (argL .u32 args 1) (argI args 2) (argI args 3) (argI args 4)) [.sl (.recs .apiOutput) true] [] 2 (λ_ _ _=>by kernel_rfl) (λ_ _=>rfl) (λ_ _ h=>h) (λ_ X=>by kernel_rfl)
def Qay(m:(List Int))(frame:Int)(s:(List UInt8))(z:(Int)×(List Int)):Nat:=(32-z.1).toNat
def Q26(m:(List Int))(frame:Int)(s:(List UInt8)):Tree ((List Int)×Bool):=
.an (Q04 m) (.lv (Q02 m) λ(x0:List Int)=> .lv (Q5m m frame) λ(x1:Bool)=> .br (!x1) (.lf (x0,false)) (.br ((s.length:Int) !=(128:Int)) (.lf (x0,false)) (.lp inferInstance (Qay m frame s (0,x0)+1) ((rE (s:List UInt8)∧True∧rE ((wrap i64 (frame*32)):Int)∧rE (0:Int)∧True)∧rE (x0:List Int)∧True) (0,x0) λ(v0:Int×List Int)=> .br (decide (v0.1<32)) (.cn (decide (0≤wrap i64 (4*v0.1)∧wrap i64 (4*v0.1)≤wrap i64 (wrap i64 (4*v0.1)+4)∧wrap i64 (wrap i64 (4*v0.1)+4)≤(s.length:Int))) (let E1:=List.take (Int.toNat (wrap i64 (wrap i64 (4*v0.1)+4))-Int.toNat (wrap i64 (4*v0.1))) (List.drop (Int.toNat (wrap i64 (4*v0.1))) s); .cn (decide ((0:Int)≤(0:Int)∧0<(↑(List.length E1):Int))) (.cn (decide ((0:Int)≤(1:Int)∧1<(↑(List.length E1):Int))) (.cn (decide ((0:Int)≤(2:Int)∧2<(↑(List.length E1):Int))) (.cn (decide ((0:Int)≤(3:Int)∧3<(↑(List.length E1):Int))) (.cn (Nat.beq 1 1&&Nat.blt 0 1&&decide (0≤wrap i64 (wrap i64 (frame*32)+v0.1)∧wrap i64 (wrap i64 (frame*32)+v0.1)<(v0.2.length:Int))) (.nx ((rE (s:List UInt8)∧True∧rE ((wrap i64 (frame*32)):Int)∧rE ((wrap i64 (v0.1+1)):Int)∧True)∧rE ((List.set v0.2 (Int.toNat (wrap i64 (wrap i64 (frame*32)+v0.1))) (ior u32 (ior u32 (ior u32 (wrap u32 (↑(UInt8.toNat (List.getD (List.take (Int.toNat (wrap i64 (wrap i64 (4*v0.1)+4))-Int.toNat (wrap i64 (4*v0.1))) (List.drop (Int.toNat (wrap i64 (4*v0.1))) s)) (Int.toNat 0) (0:UInt8))):Int)) (ishl u32 (wrap u32 (↑(UInt8.toNat (List.getD (List.take (Int.toNat (wrap i64 (wrap i64 (4*v0.1)+4))-Int.toNat (wrap i64 (4*v0.1))) (List.drop (Int.toNat (wrap i64 (4*v0.1))) s)) (Int.toNat 1) (0:UInt8))):Int)) 8)) (ishl u32 (wrap u32 (↑(UInt8.toNat (List.getD (List.take (Int.toNat (wrap i64 (wrap i64 (4*v0.1)+4))-Int.toNat (wrap i64 (4*v0.1))) (List.drop (Int.toNat (wrap i64 (4*v0.1))) s)) (Int.toNat 2) (0:UInt8))):Int)) 16)) (ishl u32 (wrap u32 (↑(UInt8.toNat (List.getD (List.take (Int.toNat (wrap i64 (wrap i64 (4*v0.1)+4))-Int.toNat (wrap i64 (4*v0.1))) (List.drop (Int.toNat (wrap i64 (4*v0.1))) s)) (Int.toNat 3) (0:UInt8))):Int)) 24))):List Int)∧True) (Sum.inl (wrap i64 (v0.1+1),List.set v0.2 (Int.toNat (wrap i64 (wrap i64 (frame*32)+v0.1))) (ior u32 (ior u32 (ior u32 (wrap u32 (↑(UInt8.toNat (List.getD E1 (Int.toNat 0) (0:UInt8))):Int)) (ishl u32 (wrap u32 (↑(UInt8.toNat (List.getD E1 (Int.toNat 1) (0:UInt8))):Int)) 8)) (ishl u32 (wrap u32 (↑(UInt8.toNat (List.getD E1 (Int.toNat 2) (0:UInt8))):Int)) 16)) (ishl u32 (wrap u32 (↑(UInt8.toNat (List.getD E1 (Int.toNat 3) (0:UInt8))):Int)) 24))))))))))) (.lf (Sum.inr (v0.2,true))))))
def Q2y(m:(List Int))(frame:Int)(s:(List UInt8)):((List Int)×Bool):=(Q26 m frame s).m
abbrev Q3r(m:(List Int))(frame:Int)(s:(List UInt8)):Prop:=(Q26 m frame s).p
def Qts:LInv:={
 α:=(Int)×(List Int)
 F:=λst a=>([(2,(lk st 2)),(8, .all 0),(9,(lk st 9)),(26, .int i64 a.1)],[⟨false,23,1, .ints u32 a.2⟩])
 a0:=λst=>((lk st 26).toInt,(Q8 st.rows (rN st 8)))
 ex0:=λst=>[]++[(Q1 (lk st 8) (st.rows.length+0))]
 next:=λst=>((lk st 26).toInt,(Q8 st.rows (rN st 8)))
 ex:=λst=>[]++[(Q1 (lk st 8) (st.rows.length+0))]}
def Qpt:List (Nat×LInv):=[(6,Qts)]
def Qvk:Q0d:=mkP 125 [] true [.one (.ints .u32), .one (.int .i64), .one (.str)] [] (λargs rows=>Q3r (argL .u32 args 0) (argI args 1) (argS args 2)) (λargs rows=>Q2y (argL .u32 args 0) (argI args 1) (argS args 2)) (λX=> .tup [.all 0, .bool (X.2)]) (λX=>[⟨false,23,1, .ints .u32 (X.1)⟩])
theorem Qe6:Q05 Tryz.prog Qvk:=Q0n Q0i Q0j (.cons Q0s (.cons Qjz (.nil))) Tryz.func125 Tryz.call125 (λargs rows=>Q26 (argL .u32 args 0) (argI args 1) (argS args 2)) [.row 23 1 (.ints .u32)] Qpt 3 (λ_ _ _=>by kernel_rfl) (λ_ _=>rfl) (λ_ _ h=>h) (λ_ X=>by kernel_rfl)
def strings_Repeat(s:(List UInt8))(count:Int):(List UInt8):=
Lib.repeatL s count.toNat
def Q2v(s:(List UInt8))(count:Int):Prop:=
0≤count∧count≤9223372036854775807∧s.length*count.toNat≤140737488355328
def Qic(s:(List UInt8))(count:Int):List D:=[.str s, .int .i64 count]
def Qhn(s:(List UInt8))(count:Int):List Row:=[]
def Qdb(X:(List UInt8)):D:= .str X
def Qd(X:(List UInt8)):List Row:=[]
def Qit:List PT:=[.one (.str), .one (.int .i64)]
def Qh2:List RT:=[]
def Qrv(args:List D)(rows:List Row):(List UInt8):=strings_Repeat (argS args 0) (argI args 1)
def Qr2(args:List D)(rows:List Row):Prop:=Q2v (argS args 0) (argI args 1)
def Qvm:Q0d:=mkP 197 [] true Qit Qh2 Qr2 Qrv Qdb Qd
theorem Qoh(s:(List UInt8))(count:Int)(hw:Q2v s count):Q55 Tryz.prog 197 (Qic s count) (Qhn s count) (Qdb (strings_Repeat s count)) (Qd (strings_Repeat s count)):=by
 exact repeat_of Tryz.strings_Repeat hw.1 hw.2.1 hw.2.2
set_option maxRecDepth 100000 in
theorem Qpw(args:List D)(rows:List Row):Qju Qit args 0=Qic (argS args 0) (argI args 1):=by kernel_rfl
set_option maxRecDepth 100000 in
theorem Qoi(args:List D)(rows:List Row):Q92 Qh2 rows 0=Qhn (argS args 0) (argI args 1):=by kernel_rfl
set_option maxRecDepth 100000 in
theorem Qt2(X:(List UInt8)):(ffB (Qdb X)&&ffBR (Qd X))=true:=by kernel_rfl
theorem Qsh:Q05 Tryz.prog Qvm:=Z0c Tryz.call197 (λargs rows hp=>by rw[Qpw args rows,Qoi args rows];exact Qoh (argS args 0) (argI args 1) hp) (λ_ X=>Qt2 X)
def Q2n(b:Q06)(m:(List Int))(port:Int)(v:Int):Tree (Q06×(List Int)):=
let T1:Tree ((Q06×(List Int))):= .an (Q04 m) (.lv (Q02 m) λ(x0:List Int)=> .lf (b,x0)); .br (decide (v≥32)) T1 (.cn (decide (0≤v)) (.br (port==10) (.lv (Q0r m) λ(x1:Int)=> .br (decide (wrap i64 v<x1)) (.br (iand u32 b.C1 (ishl u32 1 v)==0) (.an (Q2v [(0:UInt8)] 128) (.lv (strings_Repeat [(0:UInt8)] 128) λ(x2:List UInt8)=> .an (Q3r m (wrap i64 v) x2) (.lv (Q2y m (wrap i64 v) x2) λ(x3:List Int×Bool)=> .lf ({C9:=b.C9,C1:=ior u32 b.C1 (ishl u32 1 v)},x3.1)))) T1) T1) (.br (port==11) (.an (Q04 m) (.lv (Q02 m) λ(x6:List Int)=> .lf ({C9:=b.C9,C1:=Qg u32 b.C1 (ishl u32 1 v)},x6))) T1)))
def Q8b(b:Q06)(m:(List Int))(port:Int)(v:Int):(Q06×(List Int)):=(Q2n b m port v).m
abbrev Q9l(b:Q06)(m:(List Int))(port:Int)(v:Int):Prop:=(Q2n b m port v).p
def Z60:Q0d:=mkP 145 [] true [.agg Q06.sig, .one (.ints .u32), .one (.int .i64), .one (.int .u32)] [] (λargs rows=>Q9l (Q06.of (args.getD 0 .dead).cells) (argL .u32 args 1) (argI args 2) (argI args 3)) (λargs rows=>Q8b (Q06.of (args.getD 0 .dead).cells) (argL .u32 args 1) (argI args 2) (argI args 3)) (λX=> .tup [.agg (Q06.cells (X.1)), .all 0]) (λX=>[⟨false,23,1, .ints .u32 (X.2)⟩])
theorem Z0o:Q05 Tryz.prog Z60:=Q0n Q0i Q0j (.cons Q0s (.cons Q4l (.cons Qe6 (.cons Qsh (.nil))))) Tryz.func145 Tryz.call145 (λargs rows=>Q2n (Q06.of (args.getD 0 .dead).cells) (argL .u32 args 1) (argI args 2) (argI args 3)) [.row 23 1 (.ints .u32)] [] 2 (λ_ _ _=>by kernel_rfl) (λ_ _=>rfl) (λ_ _ h=>h) (λ_ X=>by kernel_rfl)
def Q22(m:Q00)(port:Int)(v:Int)(at0:Int):Tree (Q00×(List Q07)):=
.br (port==0) (.lf (m,[{B5:=1,At:=at0,C2:=0,C6:=[(λ(n:Int)=>UInt8.ofNat n.toNat) (wrap u8 v)]}])) (.br (port==3) (.lv (Qk5 m.B0 v) λ(x0:Q0h)=> .lf ({B3:=m.B3,Mem:=m.Mem,A3:=m.A3,B0:=x0,B1:=m.B1,C5:=m.C5,A1:=m.A1,A2:=m.A2,A6:=m.A6,A9:=m.A9},[])) (let T1:Tree ((Q00×(List Q07))):= .an (Qf m.B1 m.Mem port v at0) (.lv (Qwn m.B1 m.Mem port v at0) λ(x1:Q0c×List Q07)=> .lf ({B3:=m.B3,Mem:=m.Mem,A3:=m.A3,B0:=m.B0,B1:=x1.1,C5:=m.C5,A1:=m.A1,A2:=m.A2,A6:=m.A6,A9:=m.A9},x1.2)); .br (port==4) T1 (.br (port==5) T1 (.br (port==6) T1 (let T2:Tree ((Q00×(List Q07))):= .an (Qib m.C5 m.Mem port v at0) (.lv (Z5e m.C5 m.Mem port v at0) λ(x4:Q0m×List Q07)=> .lf ({B3:=m.B3,Mem:=m.Mem,A3:=m.A3,B0:=m.B0,B1:=m.B1,C5:=x4.1,A1:=m.A1,A2:=m.A2,A6:=m.A6,A9:=m.A9},x4.2)); .br (port==7) T2 (.br (port==8) T2 (.br (port==9) T2 (let T3:Tree ((Q00×(List Q07))):= .an (Q9l m.A1 m.Mem port v) (.lv (Q8b m.A1 m.Mem port v) λ(x7:Q06×List Int)=> .lf ({B3:=m.B3,Mem:=x7.2,A3:=m.A3,B0:=m.B0,B1:=m.B1,C5:=m.C5,A1:=x7.1,A2:=m.A2,A6:=m.A6,A9:=m.A9},[])); .br (port==10) T3 (.br (port==11) T3 (.lf (m,[])))))))))))
def Q2m(m:Q00)(port:Int)(v:Int)(at0:Int):(Q00×(List Q07)):=(Q22 m port v at0).m
abbrev Q4m(m:Q00)(port:Int)(v:Int)(at0:Int):Prop:=(Q22 m port v at0).p
def Qpo:Q0d:=Q0d.fz<|mkP 100 [] false [.agg Q00.sig, .one (.int .i64), .one (.int .u32), .one (.int .u64)] [] (λargs rows=>Q4m (Q00.of (args.getD 0 .dead).cells) (argI args 1) (argI args 2) (argI args 3)) (λargs rows=>Q2m (Q00.of (args.getD 0 .dead).cells) (argI args 1) (argI args 2) (argI args 3)) (λX=> .tup [.agg (Q00.cells (X.1)), .sl 4 (.recs .apiOutput (X.2)) true]) (λX=>[])
theorem Qod:Q05 Tryz.prog Qpo:=Zk6<|Q0n Q0i Q0j (.cons Z9g (.cons Zfe (.cons Zjg (.cons Z0o (.nil))))) Tryz.func100 Tryz.call100 (λargs rows=>Q22 (Q00.of (args.getD 0 .dead).cells) (argI args 1) (argI args 2) (argI args 3)) [.sl (.ints .u32) false, .sl (.recs .apiOutput) true] [] 2 (λ_ _ _=>by kernel_rfl) (λ_ _=>rfl) (λ_ _ h=>h) (λh=>by cases h)
def Q31(m:Q00)(clock:Int):Tree (Q00×(List Q07)):=
.an (Q04 m.Mem) (.lv (Q02 m.Mem) λ(x0:List Int)=>let E1:=({B3:=m.B3,Mem:=x0,A3:=m.A3,B0:=m.B0,B1:=m.B1,C5:=m.C5,A1:=m.A1,A2:=m.A2,A6:=m.A6,A9:=m.A9}:Q00); .an (Q6c E1) (.lv (Q2x E1) λ(x1:Bool)=> .br (!x1) (.lf (E1,[])) (.an (Q5u E1) (.lv (Q0t E1) λ(x2:Q00)=> .an (Qc3 x2.B3 x2.Mem) (.lv (Q84 x2.B3 x2.Mem) λ(x3:Q03×List Int×Q11)=>let E2:=({B3:=x3.1,Mem:=x3.2.1,A3:=x2.A3,B0:=x2.B0,B1:=x2.B1,C5:=x2.C5,A1:=x2.A1,A2:=x2.A2,A6:=x2.A6,A9:=x2.A9}:Q00); .br (x3.2.2.B5==1) (.an (Q57 E2 x3.2.2.D0 clock) (.lv (Q1g E2 x3.2.2.D0 clock) λ(x4:Q00×Int)=> .br (x3.2.2.D9 !=0) (.cn (Nat.blt 0 1&&decide (0≤x3.2.2.D9∧x3.2.2.D9<(↑16:Int))) (.lf ({B3:={X:=A16.of 0 (List.set (A16.l x4.1.B3.X) x3.2.2.D9.toNat x4.2),Pc:=x4.1.B3.Pc,B6:=x4.1.B3.B6},Mem:=x4.1.Mem,A3:=x4.1.A3,B0:=x4.1.B0,B1:=x4.1.B1,C5:=x4.1.C5,A1:=x4.1.A1,A2:=wrap u64 (x4.1.A2+1),A6:=x4.1.A6,A9:=x4.1.A9},[]))) (.lf ({B3:=x4.1.B3,Mem:=x4.1.Mem,A3:=x4.1.A3,B0:=x4.1.B0,B1:=x4.1.B1,C5:=x4.1.C5,A1:=x4.1.A1,A2:=wrap u64 (x4.1.A2+1),A6:=x4.1.A6,A9:=x4.1.A9},[])))) (.br (x3.2.2.B5==2) (.an (Q4m E2 x3.2.2.D0 x3.2.2.Value m.A2) (.lv (Q2m E2 x3.2.2.D0 x3.2.2.Value m.A2) λ(x5:Q00×List Q07)=> .lf ({B3:=x5.1.B3,Mem:=x5.1.Mem,A3:=x5.1.A3,B0:=x5.1.B0,B1:=x5.1.B1,C5:=x5.1.C5,A1:=x5.1.A1,A2:=wrap u64 (x5.1.A2+1),A6:=x5.1.A6,A9:=x5.1.A9},x5.2))) (.br (x3.2.2.B5==3) (.lf ({B3:=x3.1,Mem:=x3.2.1,A3:=x2.A3,B0:=x2.B0,B1:=x2.B1,C5:=x2.C5,A1:=x2.A1,A2:=wrap u64 (x2.A2+1),A6:=true,A9:=x2.A9},[])) (.br (x3.2.2.B5==4) (.lf ({B3:=x3.1,Mem:=x3.2.1,A3:=x2.A3,B0:=x2.B0,B1:=x2.B1,C5:=x2.C5,A1:=x2.A1,A2:=wrap u64 (x2.A2+1),A6:=x2.A6,A9:=true},[])) (.lf ({B3:=x3.1,Mem:=x3.2.1,A3:=x2.A3,B0:=x2.B0,B1:=x2.B1,C5:=x2.C5,A1:=x2.A1,A2:=wrap u64 (x2.A2+1),A6:=x2.A6,A9:=x2.A9},[]))))))))))
def Q3b(m:Q00)(clock:Int):(Q00×(List Q07)):=(Q31 m clock).m
abbrev Q35(m:Q00)(clock:Int):Prop:=(Q31 m clock).p
def Z1p:Q0d:=Q0d.fz<|mkP 58 [] false [.agg Q00.sig, .one (.int .u32)] [] (λargs rows=>Q35 (Q00.of (args.getD 0 .dead).cells) (argI args 1)) (λargs rows=>Q3b (Q00.of (args.getD 0 .dead).cells) (argI args 1)) (λX=> .tup [.agg (Q00.cells (X.1)), .sl 4 (.recs .apiOutput (X.2)) false]) (λX=>[])
theorem Qz1:Q05 Tryz.prog Z1p:=Zk6<|Q0n Q0i Q0j (.cons Q0s (.cons Qm0 (.cons Qlu (.cons Qxy (.cons Qpc (.cons Qod (.nil))))))) Tryz.func58 Tryz.call58 (λargs rows=>Q31 (Q00.of (args.getD 0 .dead).cells) (argI args 1)) [.sl (.ints .u32) false, .sl (.recs .apiOutput) false] [] 2 (λ_ _ _=>by kernel_rfl) (λ_ _=>rfl) (λ_ _ h=>h) (λh=>by cases h)
end
end Go.Proofs.YtpcbkbalabgnlaaGreat

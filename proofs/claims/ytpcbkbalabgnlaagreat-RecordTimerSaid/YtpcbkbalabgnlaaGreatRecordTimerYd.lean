/-
  Functions of the program: models, and that its calls come to them (by a program: gen3.py).
-/
import Derived.Test.YtpcbkbalabgnlaaGreatRecordTimerBase
import Derived.Test.YtpcbkbalabgnlaaGreatRecordTimerHand
import Derived.Test.YtpcbkbalabgnlaaGreatRecordTimerYc
import Derived.Test.YtpcbkbalabgnlaaGreatRecordTimerYb
import Derived.Test.YtpcbkbalabgnlaaGreatRecordTimerYa
set_option linter.unusedVariables false
set_option linter.unusedSimpArgs false
namespace Go.Proofs.YtpcbkbalabgnlaaGreat
open Go Go.GD Go.IntKind
set_option maxRecDepth 100000
noncomputable section
def Q39(m:Q00):Tree Bool:=
.an (Q5l m) (.lv (Q1c m) λ(x0:Bool)=> .br x0 (.br (!m.A6) (.an (Q3 m) (.lv (Q60 m) λ(x1:Bool)=> .br (!x1) (.lf (decide (m.A4<1152921504606846976))) (.lf false))) (.lf false)) (.lf false))
def Q2n(m:Q00):Bool:=(Q39 m).m
abbrev Q5w(m:Q00):Prop:=(Q39 m).p
def Qvc:Q0f:=mkP 96 [] true [.agg Q00.sig] [] (λargs rows=>Q5w (Q00.of (args.getD 0 .dead).cells)) (λargs rows=>Q2n (Q00.of (args.getD 0 .dead).cells)) (λX=> .bool X) (λX=>[])
theorem Qiw:Q08 Tryz.prog Qvc:=Q0z Q0s Q0t (.cons Qgf (.cons Qiq (.nil))) Tryz.func96 Tryz.call96 (λargs rows=>Q39 (Q00.of (args.getD 0 .dead).cells)) [] [] 2 (λ_ _ _=>by kernel_rfl) (λ_ _=>rfl) (λ_ _ h=>h) (λ_ X=>by kernel_rfl)
def Qa8(m:Q00)(z:(Int)):Nat:=(5-z).toNat
def Q2a(m:Q00):Tree Q00:=
let E1:=({B2:=m.B2,Mem:=m.Mem,A2:=m.A2,A7:=m.A7,B0:=m.B0,C5:=m.C5,A1:=m.A1,A4:=m.A4,A3:=false,A6:=m.A6}:Q00); .br (iand u32 m.B2.B5.a0 (2:Int)==(0:Int)) (.lf (E1)) (.an (Q3s E1) (.lv (Q5c E1) λ(x0:Int)=> .lp inferInstance (Qa8 m 0+1) (((rE (0:Nat)∧rE (0:Nat))∧(rE (0:Nat)∧rE (0:Nat))∧rE (x0:Int)∧rE (0:Int)∧True)∧(rE m.B2.X.a0∧rE m.B2.X.a1∧rE m.B2.X.a2∧rE m.B2.X.a3∧rE m.B2.X.a4∧rE m.B2.X.a5∧rE m.B2.X.a6∧rE m.B2.X.a7∧rE m.B2.X.a8∧rE m.B2.X.a9∧rE m.B2.X.a10∧rE m.B2.X.a11∧rE m.B2.X.a12∧rE m.B2.X.a13∧rE m.B2.X.a14∧rE m.B2.X.a15∧rE m.B2.Pc∧rE m.B2.B5.a0∧rE m.B2.B5.a1∧rE m.B2.B5.a2∧rE m.B2.B5.a3∧rE m.B2.B5.a4∧rE m.B2.B5.a5∧rE m.B2.B5.a6∧rE m.B2.B5.a7∧((Els.Nil (Els.ints u32 m.Mem)∨rE (1:Nat))∧rE m.Mem)∧rE m.A2.D3∧rE m.A7.D4∧rE m.A7.C6∧rE m.A7.D6∧rE m.B0.Blocks∧rE m.B0.C0∧rE m.B0.B1∧rE m.B0.B8∧rE m.B0.D9∧rE m.B0.B6∧rE m.B0.A9∧rE m.B0.C2∧rE m.C5.B1∧rE m.C5.F1∧rE m.C5.C4∧rE m.C5.B9∧rE m.C5.B7∧rE m.C5.F3∧rE m.A1.C7∧rE m.A1.C1∧rE m.A4∧rE (false:Bool)∧rE m.A6∧True)∧(mE zM True True)∧True) 0 λ(v0:Int)=> .br (decide (v0<5)) (.cn (decide (0≤v0)) (.br (iand u32 x0 (ishl u32 1 v0) !=0) (.lv (Q4h m.B2 (wrap i64 (16+v0)) 0) λ(x1:Q03)=> .lf (Sum.inr {B2:=x1,Mem:=m.Mem,A2:=m.A2,A7:=m.A7,B0:=m.B0,C5:=m.C5,A1:=m.A1,A4:=m.A4,A3:=false,A6:=m.A6})) (.nx (((rE (0:Nat)∧rE (0:Nat))∧(rE (0:Nat)∧rE (0:Nat))∧rE (x0:Int)∧rE ((wrap i64 (v0+1)):Int)∧True)∧(rE m.B2.X.a0∧rE m.B2.X.a1∧rE m.B2.X.a2∧rE m.B2.X.a3∧rE m.B2.X.a4∧rE m.B2.X.a5∧rE m.B2.X.a6∧rE m.B2.X.a7∧rE m.B2.X.a8∧rE m.B2.X.a9∧rE m.B2.X.a10∧rE m.B2.X.a11∧rE m.B2.X.a12∧rE m.B2.X.a13∧rE m.B2.X.a14∧rE m.B2.X.a15∧rE m.B2.Pc∧rE m.B2.B5.a0∧rE m.B2.B5.a1∧rE m.B2.B5.a2∧rE m.B2.B5.a3∧rE m.B2.B5.a4∧rE m.B2.B5.a5∧rE m.B2.B5.a6∧rE m.B2.B5.a7∧((Els.Nil (Els.ints u32 m.Mem)∨rE (1:Nat))∧rE m.Mem)∧rE m.A2.D3∧rE m.A7.D4∧rE m.A7.C6∧rE m.A7.D6∧rE m.B0.Blocks∧rE m.B0.C0∧rE m.B0.B1∧rE m.B0.B8∧rE m.B0.D9∧rE m.B0.B6∧rE m.B0.A9∧rE m.B0.C2∧rE m.C5.B1∧rE m.C5.F1∧rE m.C5.C4∧rE m.C5.B9∧rE m.C5.B7∧rE m.C5.F3∧rE m.A1.C7∧rE m.A1.C1∧rE m.A4∧rE (false:Bool)∧rE m.A6∧True)∧(mE zM True True)∧True) (Sum.inl (wrap i64 (v0+1)))))) (.lf (Sum.inr E1))))
def Q0p(m:Q00):Q00:=(Q2a m).m
abbrev Q5b(m:Q00):Prop:=(Q2a m).p
def Qqs:LInv:={
 α:=(Int)
 F:=λst a=>([(1, .ptr 0 0 0),(2, .ptr 1 0 0),(3,(lk st 3)),(15, .int i64 a)],[⟨true,41,49, .gen [[(cT st 1 0),(cT st 1 1),(cT st 1 2),(cT st 1 3),(cT st 1 4),(cT st 1 5),(cT st 1 6),(cT st 1 7),(cT st 1 8),(cT st 1 9),(cT st 1 10),(cT st 1 11),(cT st 1 12),(cT st 1 13),(cT st 1 14),(cT st 1 15),(cT st 1 16),(cT st 1 17),(cT st 1 18),(cT st 1 19),(cT st 1 20),(cT st 1 21),(cT st 1 22),(cT st 1 23),(cT st 1 24),(cT st 1 25),(cT st 1 26),(cT st 1 27),(cT st 1 28),(cT st 1 29),(cT st 1 30),(cT st 1 31),(cT st 1 32),(cT st 1 33),(cT st 1 34),(cT st 1 35),(cT st 1 36),(cT st 1 37),(cT st 1 38),(cT st 1 39),(cT st 1 40),(cT st 1 41),(cT st 1 42),(cT st 1 43),(cT st 1 44),(cT st 1 45),(cT st 1 46),(cT st 1 47),(cT st 1 48)]]⟩,⟨true,41,49, .gen [[(cT st 2 0),(cT st 2 1),(cT st 2 2),(cT st 2 3),(cT st 2 4),(cT st 2 5),(cT st 2 6),(cT st 2 7),(cT st 2 8),(cT st 2 9),(cT st 2 10),(cT st 2 11),(cT st 2 12),(cT st 2 13),(cT st 2 14),(cT st 2 15),(cT st 2 16),(cT st 2 17),(cT st 2 18),(cT st 2 19),(cT st 2 20),(cT st 2 21),(cT st 2 22),(cT st 2 23),(cT st 2 24),(cT st 2 25),(cT st 2 26),(cT st 2 27),(cT st 2 28),(cT st 2 29),(cT st 2 30),(cT st 2 31),(cT st 2 32),(cT st 2 33),(cT st 2 34),(cT st 2 35),(cT st 2 36),(cT st 2 37),(cT st 2 38),(cT st 2 39),(cT st 2 40),(cT st 2 41),(cT st 2 42),(cT st 2 43),(cT st 2 44),(cT st 2 45),(cT st 2 46),(cT st 2 47),(cT st 2 48)]]⟩])
 a0:=λst=>(lk st 15).toInt
 ex0:=λst=>[]++[(Q2b (lk st 1) (st.rows.length+0)),(Q2b (lk st 2) (st.rows.length+1))]
 next:=λst=>(lk st 15).toInt
 ex:=λst=>[]++[(Q2b (lk st 1) (st.rows.length+0)),(Q2b (lk st 2) (st.rows.length+1))]}
def Qno:List (Nat×LInv):=[(6,Qqs)]
def Qsh:Q0f:=Q0f.fz<|mkP 97 [] false [.agg Q00.sig] [] (λargs rows=>Q5b (Q00.of (args.getD 0 .dead).cells)) (λargs rows=>Q0p (Q00.of (args.getD 0 .dead).cells)) (λX=> .agg (Q00.cells X)) (λX=>[])
theorem Qim:Q08 Tryz.prog Qsh:=fz_ok<|Q0z Q0s Q0t (.cons Qg5 (.cons Qfe (.nil))) Tryz.func97 Tryz.call97 (λargs rows=>Q2a (Q00.of (args.getD 0 .dead).cells)) [.sl (.ints .u32) false] Qno 3 (λ_ _ _=>by kernel_rfl) (λ_ _=>rfl) (λ_ _ h=>h) (λh=>by cases h)
def Q8n(c:Q0d)(port:Int):Tree (Q0d×Int):=
.br (port==0) (.br (decide (c.D3=[])) (.lf (c,4294967295)) (.cn (decide ((0:Int)≤(0:Int)∧0<(c.D3.length:Int))) (.cn (decide ((0:Int)≤(1:Int)∧1≤(c.D3.length:Int)∧(c.D3.length:Int)≤(c.D3.length:Int))) (.lf ({D3:=List.take (Int.toNat (c.D3.length:Int)-Int.toNat 1) (List.drop (Int.toNat 1) c.D3)},wrap u32 (↑(UInt8.toNat (c.D3.getD (Int.toNat 0) (0:UInt8))):Int)))))) (.br (port==1) (.lf (c,wrap u32 (c.D3.length:Int))) (.lf (c,0)))
def Qkh(c:Q0d)(port:Int):(Q0d×Int):=(Q8n c port).m
theorem Qw1(c:Q0d)(port:Int):(Q8n c port).p:=by
 unfold Tree.p Q8n
 repeat'(first|exact trivial|refine w_br (λ_=> ?_) (λ_=> ?_)|refine w_cn ?_ ?_|refine w_an ?_ ?_|refine w_lv (λ_ _=> ?_)|refine w_nx ?_|refine w_lf ?_|refine And.intro ?_ ?_)
 all_goals(((subst_vars;first|trivial|assumption|omega|((simp(config:={decide:=true,failIfUnchanged:=false}) only[Bool.and_eq_true,Bool.or_eq_true,Bool.and_eq_false_iff,Bool.or_eq_false_iff,Bool.not_eq_true',Bool.not_eq_false',Bool.not_eq_true,Bool.not_eq_false,decide_eq_true_eq,decide_eq_false_iff_not,Qma,Qkf,Qm1,Qjx,beq_iff_eq,beq_eq_false_iff_ne,bne_iff_ne,bne_eq_false_iff_eq,ne_eq,List.all_cons,List.all_nil,D.plain,List.length_cons,List.length_nil,List.length_append,List.length_set,List.length_replicate,IntKind.wrap_i64,IntKind.wrap_u64,IntKind.wrap_u32,IntKind.wrap_i32,IntKind.wrap_u8,true_and,and_true,or_false,false_or,or_true,true_or,not_true_eq_false,not_false_eq_true,Prod.fst,Prod.snd]at*);first|done|assumption|omega)|((simp(config:={decide:=true,failIfUnchanged:=false}) only[Bool.and_eq_true,Bool.or_eq_true,Bool.and_eq_false_iff,Bool.or_eq_false_iff,Bool.not_eq_true',Bool.not_eq_false',Bool.not_eq_true,Bool.not_eq_false,decide_eq_true_eq,decide_eq_false_iff_not,Qma,Qkf,Qm1,Qjx,beq_iff_eq,beq_eq_false_iff_ne,bne_iff_ne,bne_eq_false_iff_eq,ne_eq,List.all_cons,List.all_nil,D.plain,List.length_cons,List.length_nil,List.length_append,List.length_set,List.length_replicate,IntKind.wrap_i64,IntKind.wrap_u64,IntKind.wrap_u32,IntKind.wrap_i32,IntKind.wrap_u8,true_and,and_true,or_false,false_or,or_true,true_or,not_true_eq_false,not_false_eq_true,Prod.fst,Prod.snd]at*);simp only[←List.length_pos_iff]at*;omega)|(simp_all;done)|(have:= @Z62;simp_all;try omega))))
def Z34:Q0f:=mkR 137 [] true [.agg Q0d.sig, .one (.int .i64)] [] (λargs rows=>Qkh (Q0d.of (args.getD 0 .dead).cells) (argI args 1)) (λX=> .tup [.agg (Q0d.cells (X.1)), .int .u32 (X.2)]) (λX=>[])
theorem Qz3:Q08 Tryz.prog Z34:=Q2c Q0s Q0t (.nil) Tryz.func137 Tryz.call137 (λargs rows=>Q8n (Q0d.of (args.getD 0 .dead).cells) (argI args 1)) [] [] 2 (λ_ _ _=>by kernel_rfl) (λ_ _=>rfl) (λargs rows=>Qw1 (Q0d.of (args.getD 0 .dead).cells) (argI args 1)) (λ_ X=>by kernel_rfl)
def Qk8(t:Q0g):Tree Int:=
.br t.D6 (.lf 1) (.lf 0)
def Qrz(t:Q0g):Int:=(Qk8 t).m
def Zal:Q0f:=mkR 138 [] true [.agg Q0g.sig] [] (λargs rows=>Qrz (Q0g.of (args.getD 0 .dead).cells)) (λX=> .int .u32 X) (λX=>[])
theorem Z6x:Q08 Tryz.prog Zal:=Q2c Q0s Q0t (.nil) Tryz.func138 Tryz.call138 (λargs rows=>Qk8 (Q0g.of (args.getD 0 .dead).cells)) [] [] 2 (λ_ _ _=>by kernel_rfl) (λ_ _=>rfl) (λ_ _=>Tree.free_ok (by kernel_rfl)) (λ_ X=>by kernel_rfl)
def Qmt(d0:Q0b)(port:Int):Tree Int:=
.br (port==4) (.lf d0.C0) (.br (port==5) (.lf d0.B1) (.br (port==6) (.lf (wrap u32 d0.B8)) (.lf 0)))
def Qos(d0:Q0b)(port:Int):Int:=(Qmt d0 port).m
def disk_In_m:Q0f:=mkR 139 [] true [.agg Q0b.sig, .one (.int .i64)] [] (λargs rows=>Qos (Q0b.of (args.getD 0 .dead).cells) (argI args 1)) (λX=> .int .u32 X) (λX=>[])
theorem Zaq:Q08 Tryz.prog disk_In_m:=Q2c Q0s Q0t (.nil) Tryz.func139 Tryz.call139 (λargs rows=>Qmt (Q0b.of (args.getD 0 .dead).cells) (argI args 1)) [] [] 2 (λ_ _ _=>by kernel_rfl) (λ_ _=>rfl) (λ_ _=>Tree.free_ok (by kernel_rfl)) (λ_ X=>by kernel_rfl)
def Qn0(n:Q0m)(port:Int):Tree Int:=
.br (port==7) (.lf n.B1) (.br (port==8) (.lf n.F3) (.br (port==9) (.br n.C4 (.br n.B7 (.lf (wrap u32 (wrap u32 ((0:Int)+(1:Int))+2))) (.lf (wrap u32 ((0:Int)+(1:Int))))) (.br n.B7 (.lf (wrap u32 ((0:Int)+(2:Int)))) (.lf 0))) (.lf 0)))
def Qu2(n:Q0m)(port:Int):Int:=(Qn0 n port).m
def nic_In_m:Q0f:=mkR 140 [] true [.agg Q0m.sig, .one (.int .i64)] [] (λargs rows=>Qu2 (Q0m.of (args.getD 0 .dead).cells) (argI args 1)) (λX=> .int .u32 X) (λX=>[])
theorem nic_In_ok:Q08 Tryz.prog nic_In_m:=Q2c Q0s Q0t (.nil) Tryz.func140 Tryz.call140 (λargs rows=>Qn0 (Q0m.of (args.getD 0 .dead).cells) (argI args 1)) [] [] 2 (λ_ _ _=>by kernel_rfl) (λ_ _=>rfl) (λ_ _=>Tree.free_ok (by kernel_rfl)) (λ_ X=>by kernel_rfl)
def Q6a(b:Q07)(port:Int):Tree Int:=
.br (port==10) (.lf b.C7) (.br (port==11) (.an (Q59 b) (.lv (Qb8 b) λ(x0:Int)=> .lf (wrap u32 x0))) (.lf 0))
def Qka(b:Q07)(port:Int):Int:=(Q6a b port).m
abbrev Q9l(b:Q07)(port:Int):Prop:=(Q6a b port).p
def Z24:Q0f:=mkP 141 [] true [.agg Q07.sig, .one (.int .i64)] [] (λargs rows=>Q9l (Q07.of (args.getD 0 .dead).cells) (argI args 1)) (λargs rows=>Qka (Q07.of (args.getD 0 .dead).cells) (argI args 1)) (λX=> .int .u32 X) (λX=>[])
theorem Z0t:Q08 Tryz.prog Z24:=Q0z Q0s Q0t (.cons Qif (.nil)) Tryz.func141 Tryz.call141 (λargs rows=>Q6a (Q07.of (args.getD 0 .dead).cells) (argI args 1)) [] [] 2 (λ_ _ _=>by kernel_rfl) (λ_ _=>rfl) (λ_ _ h=>h) (λ_ X=>by kernel_rfl)
def Q24(m:Q00)(port:Int)(clock:Int):Tree (Q00×Int):=
let T1:Tree ((Q00×Int)):= .lv (Qkh m.A2 port) λ(x0:Q0d×Int)=> .lf ({B2:=m.B2,Mem:=m.Mem,A2:=x0.1,A7:=m.A7,B0:=m.B0,C5:=m.C5,A1:=m.A1,A4:=m.A4,A3:=m.A3,A6:=m.A6},x0.2); .br (port==0) T1 (.br (port==1) T1 (.br (port==2) (.lf (m,clock)) (.br (port==3) (.lv (Qrz m.A7) λ(x2:Int)=> .lf (m,x2)) (.br (port==4) (.lv (Qos m.B0 port) λ(x3:Int)=> .lf (m,x3)) (.br (port==5) (.lv (Qos m.B0 port) λ(x4:Int)=> .lf (m,x4)) (.br (port==6) (.lv (Qos m.B0 port) λ(x5:Int)=> .lf (m,x5)) (.br (port==7) (.lv (Qu2 m.C5 port) λ(x6:Int)=> .lf (m,x6)) (.br (port==8) (.lv (Qu2 m.C5 port) λ(x7:Int)=> .lf (m,x7)) (.br (port==9) (.lv (Qu2 m.C5 port) λ(x8:Int)=> .lf (m,x8)) (let T2:Tree ((Q00×Int)):= .an (Q9l m.A1 port) (.lv (Qka m.A1 port) λ(x9:Int)=> .lf (m,x9)); .br (port==10) T2 (.br (port==11) T2 (.lf (m,0)))))))))))))
def Q1a(m:Q00)(port:Int)(clock:Int):(Q00×Int):=(Q24 m port clock).m
abbrev Q4r(m:Q00)(port:Int)(clock:Int):Prop:=(Q24 m port clock).p
def Qn8:Q0f:=Q0f.fz<|mkP 99 [] false [.agg Q00.sig, .one (.int .i64), .one (.int .u32)] [] (λargs rows=>Q4r (Q00.of (args.getD 0 .dead).cells) (argI args 1) (argI args 2)) (λargs rows=>Q1a (Q00.of (args.getD 0 .dead).cells) (argI args 1) (argI args 2)) (λX=> .tup [.agg (Q00.cells (X.1)), .int .u32 (X.2)]) (λX=>[])
theorem Qm6:Q08 Tryz.prog Qn8:=fz_ok<|Q0z Q0s Q0t (.cons Qz3 (.cons Z6x (.cons Zaq (.cons nic_In_ok (.cons Z0t (.nil)))))) Tryz.func99 Tryz.call99 (λargs rows=>Q24 (Q00.of (args.getD 0 .dead).cells) (argI args 1) (argI args 2)) [.sl (.ints .u32) false] [] 2 (λ_ _ _=>by kernel_rfl) (λ_ _=>rfl) (λ_ _ h=>h) (λh=>by cases h)
def Qhr(t:Q0g)(deadline:Int):Tree Q0g:=
.lf ({D4:=deadline !=0,C6:=deadline,D6:=false})
def Qgo(t:Q0g)(deadline:Int):Q0g:=(Qhr t deadline).m
def Z5i:Q0f:=mkR 142 [] true [.agg Q0g.sig, .one (.int .u32)] [] (λargs rows=>Qgo (Q0g.of (args.getD 0 .dead).cells) (argI args 1)) (λX=> .agg (Q0g.cells X)) (λX=>[])
theorem Z4o:Q08 Tryz.prog Z5i:=Q2c Q0s Q0t (.nil) Tryz.func142 Tryz.call142 (λargs rows=>Qhr (Q0g.of (args.getD 0 .dead).cells) (argI args 1)) [] [] 2 (λ_ _ _=>by kernel_rfl) (λ_ _=>rfl) (λ_ _=>Tree.free_ok (by kernel_rfl)) (λ_ X=>by kernel_rfl)
def Qb9(m:(List Int))(frame:Int):Tree Bool:=
.lv (Q0o m) λ(x0:Int)=> .lf (decide (wrap u64 frame<wrap u64 x0))
def Q8a(m:(List Int))(frame:Int):Bool:=(Qb9 m frame).m
def Qyj:Q0f:=mkR 124 [] true [.one (.ints .u32), .one (.int .u32)] [] (λargs rows=>Q8a (argL .u32 args 0) (argI args 1)) (λX=> .bool X) (λX=>[])
theorem Ql5:Q08 Tryz.prog Qyj:=Q2c Q0s Q0t (.cons Q48 (.nil)) Tryz.func124 Tryz.call124 (λargs rows=>Qb9 (argL .u32 args 0) (argI args 1)) [] [] 2 (λ_ _ _=>by kernel_rfl) (λ_ _=>rfl) (λ_ _=>Tree.free_ok (by kernel_rfl)) (λ_ X=>by kernel_rfl)
def Q7o(m:(List Int))(frame:Int):Tree Bool:=
.br (decide (frame≥0)) (.lv (Q0o m) λ(x0:Int)=> .lf (decide (frame<x0))) (.lf false)
def Q55(m:(List Int))(frame:Int):Bool:=(Q7o m frame).m
def Qrj:Q0f:=mkR 173 [] true [.one (.ints .u32), .one (.int .i64)] [] (λargs rows=>Q55 (argL .u32 args 0) (argI args 1)) (λX=> .bool X) (λX=>[])
theorem Qgv:Q08 Tryz.prog Qrj:=Q2c Q0s Q0t (.cons Q48 (.nil)) Tryz.func173 Tryz.call173 (λargs rows=>Q7o (argL .u32 args 0) (argI args 1)) [] [] 2 (λ_ _ _=>by kernel_rfl) (λ_ _=>rfl) (λ_ _=>Tree.free_ok (by kernel_rfl)) (λ_ X=>by kernel_rfl)
def Qik(words:(List Int))(z:(Int)×(List Int)):Prop:=0≤z.1∧z.1≤words.length∧(z.2.length:Int)=4*z.1
def Q6s(words:(List Int))(z:(Int)×(List Int)):Nat:=(words.length-z.1).toNat
def Q5(words:(List Int)):Tree (List UInt8):=
.cn (Nat.blt 0 1&&Nat.beq 1 1&&List.all [D.int u8 0] D.plain&&decide ((0:Int)≤(0:Int)∧0≤wrap i64 (4*(words.length:Int))∧wrap i64 (4*(words.length:Int))≤9223372036854775807∧(↑1:Int)*wrap i64 (4*(words.length:Int))≤140737488355328)) (.lp inferInstance (Q6s words (0,[])+1) ((True∧((Els.Nil (Els.ints u32 words)∨rE (1:Nat))∧rE (words:List Int))∧rE ((words.length:Int):Int)∧rE (0:Int)∧True)∧rE ([]:List Int)∧True) (0,[]) λ(v0:Int×List Int)=> .br (decide (v0.1<(words.length:Int))) (.cn (Nat.beq 1 1&&Nat.blt 0 1&&decide (0≤v0.1∧v0.1<(words.length:Int))) (.cn (decide (1*(v0.2.length+4)≤140737488355328)) (let E1:=words.getD v0.1.toNat 0; .nx ((True∧((Els.Nil (Els.ints u32 words)∨rE (1:Nat))∧rE (words:List Int))∧rE ((words.length:Int):Int)∧rE ((wrap i64 (v0.1+1)):Int)∧True)∧rE ((v0.2++[wrap u8 (words.getD v0.1.toNat 0),wrap u8 (ishr u32 (words.getD v0.1.toNat 0) 8),wrap u8 (ishr u32 (words.getD v0.1.toNat 0) 16),wrap u8 (ishr u32 (words.getD v0.1.toNat 0) 24)]):List Int)∧True) (Sum.inl (wrap i64 (v0.1+1),v0.2++[wrap u8 E1,wrap u8 (ishr u32 E1 8),wrap u8 (ishr u32 E1 16),wrap u8 (ishr u32 E1 24)]))))) (.lf (Sum.inr (bytesOf v0.2))))
def Qv3(words:(List Int)):(List UInt8):=(Q5 words).m
def Q3j(words:(List Int)):Prop:=
words.length≤1000000000000
theorem Qs6(words:(List Int))(hw:Q3j words):(Q5 words).p:=by
 simp only[Q3j]at hw
 unfold Tree.p Q5
 repeat'(first|refine w_lp (inv:=Qik words) (μ:=Q6s words) ?_ (Nat.lt_succ_self _) (λ_ _=> ?_)|exact trivial|refine w_br (λ_=> ?_) (λ_=> ?_)|refine w_cn ?_ ?_|refine w_an ?_ ?_|refine w_lv (λ_ _=> ?_)|refine w_nx ?_|refine w_lf ?_|refine And.intro ?_ ?_)
 all_goals((try simp only[Qik,Q6s]at*);((subst_vars;first|trivial|assumption|omega|((simp(config:={decide:=true,failIfUnchanged:=false}) only[Bool.and_eq_true,Bool.or_eq_true,Bool.and_eq_false_iff,Bool.or_eq_false_iff,Bool.not_eq_true',Bool.not_eq_false',Bool.not_eq_true,Bool.not_eq_false,decide_eq_true_eq,decide_eq_false_iff_not,Qma,Qkf,Qm1,Qjx,beq_iff_eq,beq_eq_false_iff_ne,bne_iff_ne,bne_eq_false_iff_eq,ne_eq,List.all_cons,List.all_nil,D.plain,List.length_cons,List.length_nil,List.length_append,List.length_set,List.length_replicate,IntKind.wrap_i64,IntKind.wrap_u64,IntKind.wrap_u32,IntKind.wrap_i32,IntKind.wrap_u8,true_and,and_true,or_false,false_or,or_true,true_or,not_true_eq_false,not_false_eq_true,Prod.fst,Prod.snd]at*);first|done|assumption|omega)|((simp(config:={decide:=true,failIfUnchanged:=false}) only[Bool.and_eq_true,Bool.or_eq_true,Bool.and_eq_false_iff,Bool.or_eq_false_iff,Bool.not_eq_true',Bool.not_eq_false',Bool.not_eq_true,Bool.not_eq_false,decide_eq_true_eq,decide_eq_false_iff_not,Qma,Qkf,Qm1,Qjx,beq_iff_eq,beq_eq_false_iff_ne,bne_iff_ne,bne_eq_false_iff_eq,ne_eq,List.all_cons,List.all_nil,D.plain,List.length_cons,List.length_nil,List.length_append,List.length_set,List.length_replicate,IntKind.wrap_i64,IntKind.wrap_u64,IntKind.wrap_u32,IntKind.wrap_i32,IntKind.wrap_u8,true_and,and_true,or_false,false_or,or_true,true_or,not_true_eq_false,not_false_eq_true,Prod.fst,Prod.snd]at*);simp only[←List.length_pos_iff]at*;omega)|(simp_all;done)|(have:= @Z62;simp_all;try omega))))
def Qwk:LInv:={
 α:=(Int)×(List Int)
 F:=λst a=>([(3, .all 0),(10,(lk st 10)),(11,(lk st 11)),(12, .int i64 a.1)],[⟨false,5,1, .ints u8 a.2⟩])
 a0:=λst=>((lk st 12).toInt,(Qlc st.rows (rN st 3)))
 ex0:=λst=>[]++[(Q2b (lk st 3) (st.rows.length+0))]
 next:=λst=>((lk st 12).toInt,(Qlc st.rows (rN st 3)))
 ex:=λst=>[]++[(Q2b (lk st 3) (st.rows.length+0))]}
def Qr3:List (Nat×LInv):=[(3,Qwk)]
def Z13:Q0f:=mkP 174 [] true [.one (.ints .u32)] [] (λargs rows=>Q3j (argL .u32 args 0)) (λargs rows=>Qv3 (argL .u32 args 0)) (λX=> .str X) (λX=>[])
theorem Qvj:Q08 Tryz.prog Z13:=Q0z Q0s Q0t (.nil) Tryz.func174 Tryz.call174 (λargs rows=>Q5 (argL .u32 args 0)) [] Qr3 3 (λ_ _ _=>by kernel_rfl) (λ_ _=>rfl) (λargs rows h=>Qs6 (argL .u32 args 0) h) (λ_ X=>by kernel_rfl)
def Q3b(m:(List Int))(frame:Int):Tree ((List UInt8)×Bool):=
.lv (Q55 m frame) λ(x0:Bool)=> .br (!x0) (.lf ([],false)) (.cn (Nat.beq 1 1&&Nat.blt 0 1&&decide (0≤wrap i64 (frame*32)∧wrap i64 (frame*32)≤wrap i64 (wrap i64 (frame*32)+32)∧wrap i64 (wrap i64 (frame*32)+32)≤(m.length:Int))) (let E1:=List.take (Int.toNat (wrap i64 (wrap i64 (frame*32)+32))-Int.toNat (wrap i64 (frame*32))) (List.drop (Int.toNat (wrap i64 (frame*32))) m); .an (Q3j E1) (.lv (Qv3 E1) λ(x1:List UInt8)=> .lf (x1,true))))
def Q5n(m:(List Int))(frame:Int):((List UInt8)×Bool):=(Q3b m frame).m
abbrev Q5r(m:(List Int))(frame:Int):Prop:=(Q3b m frame).p
def Qzv:Q0f:=mkP 127 [] true [.one (.ints .u32), .one (.int .i64)] [] (λargs rows=>Q5r (argL .u32 args 0) (argI args 1)) (λargs rows=>Q5n (argL .u32 args 0) (argI args 1)) (λX=> .tup [.str (X.1), .bool (X.2)]) (λX=>[])
theorem Qg9:Q08 Tryz.prog Qzv:=Q0z Q0s Q0t (.cons Qgv (.cons Qvj (.nil))) Tryz.func127 Tryz.call127 (λargs rows=>Q3b (argL .u32 args 0) (argI args 1)) [] [] 2 (λ_ _ _=>by kernel_rfl) (λ_ _=>rfl) (λ_ _ h=>h) (λ_ X=>by kernel_rfl)
def Ql7(d0:Q0b)(at0:Int):Tree (Q0a×Bool):=
.br (d0.B8 !=1) (.lf ({C3:=0,At:=0,C0:=0,C8:=[]},false)) (.br (d0.D9==1) (.lf ({C3:=3,At:=at0,C0:=d0.B6,C8:=[]},true)) (.br (d0.D9==2) (.lf ({C3:=4,At:=at0,C0:=d0.B6,C8:=d0.C2},true)) (.lf ({C3:=0,At:=0,C0:=0,C8:=[]},false))))
def Qg3(d0:Q0b)(at0:Int):(Q0a×Bool):=(Ql7 d0 at0).m
def Qvp:Q0f:=mkR 235 [] true [.agg Q0b.sig, .one (.int .u64)] [] (λargs rows=>Qg3 (Q0b.of (args.getD 0 .dead).cells) (argI args 1)) (λX=> .tup [.agg (Q0a.cells (X.1)), .bool (X.2)]) (λX=>[])
theorem Qss:Q08 Tryz.prog Qvp:=Q2c Q0s Q0t (.nil) Tryz.func235 Tryz.call235 (λargs rows=>Ql7 (Q0b.of (args.getD 0 .dead).cells) (argI args 1)) [] [] 2 (λ_ _ _=>by kernel_rfl) (λ_ _=>rfl) (λ_ _=>Tree.free_ok (by kernel_rfl)) (λ_ X=>by kernel_rfl)
def Q6c(d0:Q0b)(m:(List Int))(cmd:Int)(at0:Int):Tree (Q0b×(List Q0a)):=
.br (d0.B8 !=0) (.lf (d0,[])) (let T1:Tree ((Q0b×(List Q0a))):= .lf ({Blocks:=d0.Blocks,C0:=d0.C0,B1:=d0.B1,B8:=3,D9:=d0.D9,B6:=d0.B6,A9:=d0.A9,C2:=d0.C2},[]); .br (decide (d0.C0≥d0.Blocks)) T1 (.lv (Q8a m d0.B1) λ(x0:Bool)=> .br (!x0) T1 (.br (cmd==2) (.an (Q5r m (wrap i64 d0.B1)) (.lv (Q5n m (wrap i64 d0.B1)) λ(x1:List UInt8×Bool)=>let E2:=({Blocks:=d0.Blocks,C0:=d0.C0,B1:=d0.B1,B8:=1,D9:=cmd,B6:=d0.C0,A9:=d0.B1,C2:=x1.1}:Q0b); .lv (Qg3 E2 at0) λ(x2:Q0a×Bool)=> .lf (E2,[x2.1]))) (let E3:=({Blocks:=d0.Blocks,C0:=d0.C0,B1:=d0.B1,B8:=1,D9:=cmd,B6:=d0.C0,A9:=d0.B1,C2:=[]}:Q0b); .lv (Qg3 E3 at0) λ(x3:Q0a×Bool)=> .lf (E3,[x3.1])))))
def Qp5(d0:Q0b)(m:(List Int))(cmd:Int)(at0:Int):(Q0b×(List Q0a)):=(Q6c d0 m cmd at0).m
abbrev Q9s(d0:Q0b)(m:(List Int))(cmd:Int)(at0:Int):Prop:=(Q6c d0 m cmd at0).p
def Z4f:Q0f:=mkP 195 [] true [.agg Q0b.sig, .one (.ints .u32), .one (.int .i64), .one (.int .u64)] [] (λargs rows=>Q9s (Q0b.of (args.getD 0 .dead).cells) (argL .u32 args 1) (argI args 2) (argI args 3)) (λargs rows=>Qp5 (Q0b.of (args.getD 0 .dead).cells) (argL .u32 args 1) (argI args 2) (argI args 3)) (λX=> .tup [.agg (Q0b.cells (X.1)), .sl 4 (.recs .apiOutput (X.2)) true]) (λX=>[])
theorem Qzr:Q08 Tryz.prog Z4f:=Q0z Q0s Q0t (.cons Ql5 (.cons Qg9 (.cons Qss (.nil)))) Tryz.func195 Tryz.call195 (λargs rows=>Q6c (Q0b.of (args.getD 0 .dead).cells) (argL .u32 args 1) (argI args 2) (argI args 3)) [.sl (.recs .apiOutput) true] [] 2 (λ_ _ _=>by kernel_rfl) (λ_ _=>rfl) (λ_ _ h=>h) (λ_ X=>by kernel_rfl)
def Q8t(d0:Q0b)(m:(List Int))(port:Int)(v:Int)(at0:Int):Tree (Q0b×(List Q0a)):=
.br (port==4) (.lf ({Blocks:=d0.Blocks,C0:=v,B1:=d0.B1,B8:=d0.B8,D9:=d0.D9,B6:=d0.B6,A9:=d0.A9,C2:=d0.C2},[])) (.br (port==5) (.lf ({Blocks:=d0.Blocks,C0:=d0.C0,B1:=v,B8:=d0.B8,D9:=d0.D9,B6:=d0.B6,A9:=d0.A9,C2:=d0.C2},[])) (.br (port==6) (let T1:Tree ((Q0b×(List Q0a))):= .an (Q9s d0 m (wrap i64 v) at0) (.lv (Qp5 d0 m (wrap i64 v) at0) λ(x0:Q0b×List Q0a)=> .lf (x0.1,x0.2)); .br (v==1) T1 (.br (v==2) T1 (.br (v==0) (.lv (Q85 d0) λ(x2:Bool)=> .br x2 (.lf ({Blocks:=d0.Blocks,C0:=d0.C0,B1:=d0.B1,B8:=0,D9:=d0.D9,B6:=d0.B6,A9:=d0.A9,C2:=d0.C2},[])) (.lf (d0,[]))) (.lf (d0,[]))))) (.lf (d0,[]))))
def Qrq(d0:Q0b)(m:(List Int))(port:Int)(v:Int)(at0:Int):(Q0b×(List Q0a)):=(Q8t d0 m port v at0).m
abbrev Qdb(d0:Q0b)(m:(List Int))(port:Int)(v:Int)(at0:Int):Prop:=(Q8t d0 m port v at0).p
def Z9p:Q0f:=mkP 143 [] true [.agg Q0b.sig, .one (.ints .u32), .one (.int .i64), .one (.int .u32), .one (.int .u64)] [] (λargs rows=>Qdb (Q0b.of (args.getD 0 .dead).cells) (argL .u32 args 1) (argI args 2) (argI args 3) (argI args 4)) (λargs rows=>Qrq (Q0b.of (args.getD 0 .dead).cells) (argL .u32 args 1) (argI args 2) (argI args 3) (argI args 4)) (λX=> .tup [.agg (Q0b.cells (X.1)), .sl 4 (.recs .apiOutput (X.2)) true]) (λX=>[])
theorem Z4z:Q08 Tryz.prog Z9p:=Q0z Q0s Q0t (.cons Qzr (.cons Qjq (.nil))) Tryz.func143 Tryz.call143 (λargs rows=>Q8t (Q0b.of (args.getD 0 .dead).cells) (argL .u32 args 1) (argI args 2) (argI args 3) (argI args 4)) [.sl (.recs .apiOutput) true] [] 2 (λ_ _ _=>by kernel_rfl) (λ_ _=>rfl) (λ_ _ h=>h) (λ_ X=>by kernel_rfl)
def Qco(m:(List Int))(frame:Int):Tree Bool:=
.lv (Q0o m) λ(x0:Int)=> .lf (decide (wrap u64 frame<wrap u64 x0))
def Q97(m:(List Int))(frame:Int):Bool:=(Qco m frame).m
def Z3q:Q0f:=mkR 126 [] true [.one (.ints .u32), .one (.int .u32)] [] (λargs rows=>Q97 (argL .u32 args 0) (argI args 1)) (λX=> .bool X) (λX=>[])
theorem Qhx:Q08 Tryz.prog Z3q:=Q2c Q0s Q0t (.cons Q48 (.nil)) Tryz.func126 Tryz.call126 (λargs rows=>Qco (argL .u32 args 0) (argI args 1)) [] [] 2 (λ_ _ _=>by kernel_rfl) (λ_ _=>rfl) (λ_ _=>Tree.free_ok (by kernel_rfl)) (λ_ X=>by kernel_rfl)
def Q94(n:Q0m)(m:(List Int))(at0:Int):Tree (List Q0a):=
.br (decide (n.F1<1)) (.lf ([])) (.br (decide (n.F1>128)) (.lf ([])) (.lv (Q97 m n.B1) λ(x0:Bool)=> .br (!x0) (.lf ([])) (.an (Q5r m (wrap i64 n.B1)) (.lv (Q5n m (wrap i64 n.B1)) λ(x1:List UInt8×Bool)=> .cn (decide ((0:Int)≤(0:Int)∧0≤n.F1∧n.F1≤(x1.1.length:Int))) (.lf ([{C3:=2,At:=at0,C0:=0,C8:=List.take (Int.toNat n.F1-Int.toNat 0) (List.drop (Int.toNat 0) x1.1)}]))))))
def Qzm(n:Q0m)(m:(List Int))(at0:Int):(List Q0a):=(Q94 n m at0).m
abbrev Qdc(n:Q0m)(m:(List Int))(at0:Int):Prop:=(Q94 n m at0).p
def Z98:Q0f:=mkP 196 [] true [.agg Q0m.sig, .one (.ints .u32), .one (.int .u64)] [] (λargs rows=>Qdc (Q0m.of (args.getD 0 .dead).cells) (argL .u32 args 1) (argI args 2)) (λargs rows=>Qzm (Q0m.of (args.getD 0 .dead).cells) (argL .u32 args 1) (argI args 2)) (λX=> .sl 4 (.recs .apiOutput X) true) (λX=>[])
theorem Z6i:Q08 Tryz.prog Z98:=Q0z Q0s Q0t (.cons Qhx (.cons Qg9 (.nil))) Tryz.func196 Tryz.call196 (λargs rows=>Q94 (Q0m.of (args.getD 0 .dead).cells) (argL .u32 args 1) (argI args 2)) [.sl (.recs .apiOutput) true] [] 2 (λ_ _ _=>by kernel_rfl) (λ_ _=>rfl) (λ_ _ h=>h) (λ_ X=>by kernel_rfl)
def Qay(n:Q0m)(m:(List Int))(port:Int)(v:Int)(at0:Int):Tree (Q0m×(List Q0a)):=
.br (port==7) (.lf ({B1:=v,F1:=n.F1,C4:=n.C4,B9:=n.B9,B7:=n.B7,F3:=n.F3},[])) (.br (port==8) (.lf ({B1:=n.B1,F1:=v,C4:=n.C4,B9:=n.B9,B7:=n.B7,F3:=n.F3},[])) (.br (port==9) (.br (v==1) (.an (Qdc n m at0) (.lv (Qzm n m at0) λ(x0:List Q0a)=> .lf (n,x0))) (.br (v==2) (.lv (Q97 m n.B1) λ(x1:Bool)=> .br x1 (.br (!n.C4) (.br (!n.B7) (.lf ({B1:=n.B1,F1:=n.F1,C4:=true,B9:=n.B1,B7:=n.B7,F3:=n.F3},[])) (.lf (n,[]))) (.lf (n,[]))) (.lf (n,[]))) (.br (v==0) (.lf ({B1:=n.B1,F1:=n.F1,C4:=n.C4,B9:=n.B9,B7:=false,F3:=0},[])) (.lf (n,[]))))) (.lf (n,[]))))
def Z02(n:Q0m)(m:(List Int))(port:Int)(v:Int)(at0:Int):(Q0m×(List Q0a)):=(Qay n m port v at0).m
abbrev Qey(n:Q0m)(m:(List Int))(port:Int)(v:Int)(at0:Int):Prop:=(Qay n m port v at0).p
def nic_Out_m:Q0f:=mkP 144 [] true [.agg Q0m.sig, .one (.ints .u32), .one (.int .i64), .one (.int .u32), .one (.int .u64)] [] (λargs rows=>Qey (Q0m.of (args.getD 0 .dead).cells) (argL .u32 args 1) (argI args 2) (argI args 3) (argI args 4)) (λargs rows=>Z02 (Q0m.of (args.getD 0 .dead).cells) (argL .u32 args 1) (argI args 2) (argI args 3) (argI args 4)) (λX=> .tup [.agg (Q0m.cells (X.1)), .sl 4 (.recs .apiOutput (X.2)) true]) (λX=>[])
theorem Zb7:Q08 Tryz.prog nic_Out_m:=Q0z Q0s Q0t (.cons Z6i (.cons Qhx (.nil))) Tryz.func144 Tryz.call144 (λargs rows=>Qay (Q0m.of (args.getD 0 .dead).cells) (argL .u32 args 1) (argI args 2) (argI args 3) (argI args 4)) [.sl (.recs .apiOutput) true] [] 2 (λ_ _ _=>by kernel_rfl) (λ_ _=>rfl) (λ_ _ h=>h) (λ_ X=>by kernel_rfl)
def Q9c(m:(List Int))(frame:Int)(s:(List UInt8))(z:(Int)×(List Int)):Nat:=(32-z.1).toNat
def Q1z(m:(List Int))(frame:Int)(s:(List UInt8)):Tree ((List Int)×Bool):=
.an (Q04 m) (.lv (Q02 m) λ(x0:List Int)=> .lv (Q55 m frame) λ(x1:Bool)=> .br (!x1) (.lf (x0,false)) (.br ((s.length:Int) !=(128:Int)) (.lf (x0,false)) (.lp inferInstance (Q9c m frame s (0,x0)+1) ((rE (s:List UInt8)∧True∧rE ((wrap i64 (frame*32)):Int)∧rE (0:Int)∧True)∧rE (x0:List Int)∧True) (0,x0) λ(v0:Int×List Int)=> .br (decide (v0.1<32)) (.cn (decide (0≤wrap i64 (4*v0.1)∧wrap i64 (4*v0.1)≤wrap i64 (wrap i64 (4*v0.1)+4)∧wrap i64 (wrap i64 (4*v0.1)+4)≤(s.length:Int))) (let E1:=List.take (Int.toNat (wrap i64 (wrap i64 (4*v0.1)+4))-Int.toNat (wrap i64 (4*v0.1))) (List.drop (Int.toNat (wrap i64 (4*v0.1))) s); .cn (decide ((0:Int)≤(0:Int)∧0<(↑(List.length E1):Int))) (.cn (decide ((0:Int)≤(1:Int)∧1<(↑(List.length E1):Int))) (.cn (decide ((0:Int)≤(2:Int)∧2<(↑(List.length E1):Int))) (.cn (decide ((0:Int)≤(3:Int)∧3<(↑(List.length E1):Int))) (.cn (Nat.beq 1 1&&Nat.blt 0 1&&decide (0≤wrap i64 (wrap i64 (frame*32)+v0.1)∧wrap i64 (wrap i64 (frame*32)+v0.1)<(v0.2.length:Int))) (.nx ((rE (s:List UInt8)∧True∧rE ((wrap i64 (frame*32)):Int)∧rE ((wrap i64 (v0.1+1)):Int)∧True)∧rE ((List.set v0.2 (Int.toNat (wrap i64 (wrap i64 (frame*32)+v0.1))) (ior u32 (ior u32 (ior u32 (wrap u32 (↑(UInt8.toNat (List.getD (List.take (Int.toNat (wrap i64 (wrap i64 (4*v0.1)+4))-Int.toNat (wrap i64 (4*v0.1))) (List.drop (Int.toNat (wrap i64 (4*v0.1))) s)) (Int.toNat 0) (0:UInt8))):Int)) (ishl u32 (wrap u32 (↑(UInt8.toNat (List.getD (List.take (Int.toNat (wrap i64 (wrap i64 (4*v0.1)+4))-Int.toNat (wrap i64 (4*v0.1))) (List.drop (Int.toNat (wrap i64 (4*v0.1))) s)) (Int.toNat 1) (0:UInt8))):Int)) 8)) (ishl u32 (wrap u32 (↑(UInt8.toNat (List.getD (List.take (Int.toNat (wrap i64 (wrap i64 (4*v0.1)+4))-Int.toNat (wrap i64 (4*v0.1))) (List.drop (Int.toNat (wrap i64 (4*v0.1))) s)) (Int.toNat 2) (0:UInt8))):Int)) 16)) (ishl u32 (wrap u32 (↑(UInt8.toNat (List.getD (List.take (Int.toNat (wrap i64 (wrap i64 (4*v0.1)+4))-Int.toNat (wrap i64 (4*v0.1))) (List.drop (Int.toNat (wrap i64 (4*v0.1))) s)) (Int.toNat 3) (0:UInt8))):Int)) 24))):List Int)∧True) (Sum.inl (wrap i64 (v0.1+1),List.set v0.2 (Int.toNat (wrap i64 (wrap i64 (frame*32)+v0.1))) (ior u32 (ior u32 (ior u32 (wrap u32 (↑(UInt8.toNat (List.getD E1 (Int.toNat 0) (0:UInt8))):Int)) (ishl u32 (wrap u32 (↑(UInt8.toNat (List.getD E1 (Int.toNat 1) (0:UInt8))):Int)) 8)) (ishl u32 (wrap u32 (↑(UInt8.toNat (List.getD E1 (Int.toNat 2) (0:UInt8))):Int)) 16)) (ishl u32 (wrap u32 (↑(UInt8.toNat (List.getD E1 (Int.toNat 3) (0:UInt8))):Int)) 24))))))))))) (.lf (Sum.inr (v0.2,true))))))
def Q2t(m:(List Int))(frame:Int)(s:(List UInt8)):((List Int)×Bool):=(Q1z m frame s).m
abbrev Q3e(m:(List Int))(frame:Int)(s:(List UInt8)):Prop:=(Q1z m frame s).p
def Qo4:LInv:={
 α:=(Int)×(List Int)
 F:=λst a=>([(2,(lk st 2)),(8, .all 0),(9,(lk st 9)),(26, .int i64 a.1)],[⟨false,23,1, .ints u32 a.2⟩])
 a0:=λst=>((lk st 26).toInt,(Qlc st.rows (rN st 8)))
 ex0:=λst=>[]++[(Q2b (lk st 8) (st.rows.length+0))]
 next:=λst=>((lk st 26).toInt,(Qlc st.rows (rN st 8)))
 ex:=λst=>[]++[(Q2b (lk st 8) (st.rows.length+0))]}
def Qmc:List (Nat×LInv):=[(6,Qo4)]
def Qrn:Q0f:=mkP 125 [] true [.one (.ints .u32), .one (.int .i64), .one (.str)] [] (λargs rows=>Q3e (argL .u32 args 0) (argI args 1) (argS args 2)) (λargs rows=>Q2t (argL .u32 args 0) (argI args 1) (argS args 2)) (λX=> .tup [.all 0, .bool (X.2)]) (λX=>[⟨false,23,1, .ints .u32 (X.1)⟩])
theorem Qc4:Q08 Tryz.prog Qrn:=Q0z Q0s Q0t (.cons Q0n (.cons Qgv (.nil))) Tryz.func125 Tryz.call125 (λargs rows=>Q1z (argL .u32 args 0) (argI args 1) (argS args 2)) [.row 23 1 (.ints .u32)] Qmc 3 (λ_ _ _=>by kernel_rfl) (λ_ _=>rfl) (λ_ _ h=>h) (λ_ X=>by kernel_rfl)
def strings_Repeat(s:(List UInt8))(count:Int):(List UInt8):=
Lib.repeatL s count.toNat
def Q2o(s:(List UInt8))(count:Int):Prop:=
0≤count∧count≤9223372036854775807∧s.length*count.toNat≤140737488355328
def Qf0(s:(List UInt8))(count:Int):List D:=[.str s, .int .i64 count]
def Qfl(s:(List UInt8))(count:Int):List Row:=[]
def Qbf(X:(List UInt8)):D:= .str X
def Qaw(X:(List UInt8)):List Row:=[]
def Qfx:List PT:=[.one (.str), .one (.int .i64)]
def Qeh:List RT:=[]
def Qmd(args:List D)(rows:List Row):(List UInt8):=strings_Repeat (argS args 0) (argI args 1)
def Qmz(args:List D)(rows:List Row):Prop:=Q2o (argS args 0) (argI args 1)
def Qr2:Q0f:=mkP 197 [] true Qfx Qeh Qmz Qmd Qbf Qaw
theorem Qkr(s:(List UInt8))(count:Int)(hw:Q2o s count):Q4u Tryz.prog 197 (Qf0 s count) (Qfl s count) (Qbf (strings_Repeat s count)) (Qaw (strings_Repeat s count)):=by
 exact repeat_of Tryz.strings_Repeat hw.1 hw.2.1 hw.2.2
set_option maxRecDepth 100000 in
theorem Qm8(args:List D)(rows:List Row):Qh7 Qfx args 0=Qf0 (argS args 0) (argI args 1):=by kernel_rfl
set_option maxRecDepth 100000 in
theorem Qkt(args:List D)(rows:List Row):Q7z Qeh rows 0=Qfl (argS args 0) (argI args 1):=by kernel_rfl
set_option maxRecDepth 100000 in
theorem Qoi(X:(List UInt8)):(ffB (Qbf X)&&ffBR (Qaw X))=true:=by kernel_rfl
theorem Qp8:Q08 Tryz.prog Qr2:=Qtz Tryz.call197 (λargs rows hp=>by rw[Qm8 args rows,Qkt args rows];exact Qkr (argS args 0) (argI args 1) hp) (λ_ X=>Qoi X)
def Q2f(b:Q07)(m:(List Int))(port:Int)(v:Int):Tree (Q07×(List Int)):=
let T1:Tree ((Q07×(List Int))):= .an (Q04 m) (.lv (Q02 m) λ(x0:List Int)=> .lf (b,x0)); .br (decide (v≥32)) T1 (.cn (decide (0≤v)) (.br (port==10) (.lv (Q0o m) λ(x1:Int)=> .br (decide (wrap i64 v<x1)) (.br (iand u32 b.C1 (ishl u32 1 v)==0) (.an (Q2o [(0:UInt8)] 128) (.lv (strings_Repeat [(0:UInt8)] 128) λ(x2:List UInt8)=> .an (Q3e m (wrap i64 v) x2) (.lv (Q2t m (wrap i64 v) x2) λ(x3:List Int×Bool)=> .lf ({C7:=b.C7,C1:=ior u32 b.C1 (ishl u32 1 v)},x3.1)))) T1) T1) (.br (port==11) (.an (Q04 m) (.lv (Q02 m) λ(x6:List Int)=> .lf ({C7:=b.C7,C1:=Qdr u32 b.C1 (ishl u32 1 v)},x6))) T1)))
def Q78(b:Q07)(m:(List Int))(port:Int)(v:Int):(Q07×(List Int)):=(Q2f b m port v).m
abbrev Q86(b:Q07)(m:(List Int))(port:Int)(v:Int):Prop:=(Q2f b m port v).p
def Z15:Q0f:=mkP 145 [] true [.agg Q07.sig, .one (.ints .u32), .one (.int .i64), .one (.int .u32)] [] (λargs rows=>Q86 (Q07.of (args.getD 0 .dead).cells) (argL .u32 args 1) (argI args 2) (argI args 3)) (λargs rows=>Q78 (Q07.of (args.getD 0 .dead).cells) (argL .u32 args 1) (argI args 2) (argI args 3)) (λX=> .tup [.agg (Q07.cells (X.1)), .all 0]) (λX=>[⟨false,23,1, .ints .u32 (X.2)⟩])
theorem Qvq:Q08 Tryz.prog Z15:=Q0z Q0s Q0t (.cons Q0n (.cons Q48 (.cons Qc4 (.cons Qp8 (.nil))))) Tryz.func145 Tryz.call145 (λargs rows=>Q2f (Q07.of (args.getD 0 .dead).cells) (argL .u32 args 1) (argI args 2) (argI args 3)) [.row 23 1 (.ints .u32)] [] 2 (λ_ _ _=>by kernel_rfl) (λ_ _=>rfl) (λ_ _ h=>h) (λ_ X=>by kernel_rfl)
def Q1v(m:Q00)(port:Int)(v:Int)(at0:Int):Tree (Q00×(List Q0a)):=
.br (port==0) (.lf (m,[{C3:=1,At:=at0,C0:=0,C8:=[(λ(n:Int)=>UInt8.ofNat n.toNat) (wrap u8 v)]}])) (.br (port==3) (.lv (Qgo m.A7 v) λ(x0:Q0g)=> .lf ({B2:=m.B2,Mem:=m.Mem,A2:=m.A2,A7:=x0,B0:=m.B0,C5:=m.C5,A1:=m.A1,A4:=m.A4,A3:=m.A3,A6:=m.A6},[])) (let T1:Tree ((Q00×(List Q0a))):= .an (Qdb m.B0 m.Mem port v at0) (.lv (Qrq m.B0 m.Mem port v at0) λ(x1:Q0b×List Q0a)=> .lf ({B2:=m.B2,Mem:=m.Mem,A2:=m.A2,A7:=m.A7,B0:=x1.1,C5:=m.C5,A1:=m.A1,A4:=m.A4,A3:=m.A3,A6:=m.A6},x1.2)); .br (port==4) T1 (.br (port==5) T1 (.br (port==6) T1 (let T2:Tree ((Q00×(List Q0a))):= .an (Qey m.C5 m.Mem port v at0) (.lv (Z02 m.C5 m.Mem port v at0) λ(x4:Q0m×List Q0a)=> .lf ({B2:=m.B2,Mem:=m.Mem,A2:=m.A2,A7:=m.A7,B0:=m.B0,C5:=x4.1,A1:=m.A1,A4:=m.A4,A3:=m.A3,A6:=m.A6},x4.2)); .br (port==7) T2 (.br (port==8) T2 (.br (port==9) T2 (let T3:Tree ((Q00×(List Q0a))):= .an (Q86 m.A1 m.Mem port v) (.lv (Q78 m.A1 m.Mem port v) λ(x7:Q07×List Int)=> .lf ({B2:=m.B2,Mem:=x7.2,A2:=m.A2,A7:=m.A7,B0:=m.B0,C5:=m.C5,A1:=x7.1,A4:=m.A4,A3:=m.A3,A6:=m.A6},[])); .br (port==10) T3 (.br (port==11) T3 (.lf (m,[])))))))))))
def Q2d(m:Q00)(port:Int)(v:Int)(at0:Int):(Q00×(List Q0a)):=(Q1v m port v at0).m
abbrev Q47(m:Q00)(port:Int)(v:Int)(at0:Int):Prop:=(Q1v m port v at0).p
def Qm:Q0f:=Q0f.fz<|mkP 100 [] false [.agg Q00.sig, .one (.int .i64), .one (.int .u32), .one (.int .u64)] [] (λargs rows=>Q47 (Q00.of (args.getD 0 .dead).cells) (argI args 1) (argI args 2) (argI args 3)) (λargs rows=>Q2d (Q00.of (args.getD 0 .dead).cells) (argI args 1) (argI args 2) (argI args 3)) (λX=> .tup [.agg (Q00.cells (X.1)), .sl 4 (.recs .apiOutput (X.2)) true]) (λX=>[])
theorem Qkx:Q08 Tryz.prog Qm:=fz_ok<|Q0z Q0s Q0t (.cons Z4o (.cons Z4z (.cons Zb7 (.cons Qvq (.nil))))) Tryz.func100 Tryz.call100 (λargs rows=>Q1v (Q00.of (args.getD 0 .dead).cells) (argI args 1) (argI args 2) (argI args 3)) [.sl (.ints .u32) false, .sl (.recs .apiOutput) true] [] 2 (λ_ _ _=>by kernel_rfl) (λ_ _=>rfl) (λ_ _ h=>h) (λh=>by cases h)
def Q2v(m:Q00)(clock:Int):Tree (Q00×(List Q0a)):=
.an (Q04 m.Mem) (.lv (Q02 m.Mem) λ(x0:List Int)=>let E1:=({B2:=m.B2,Mem:=x0,A2:=m.A2,A7:=m.A7,B0:=m.B0,C5:=m.C5,A1:=m.A1,A4:=m.A4,A3:=m.A3,A6:=m.A6}:Q00); .an (Q5w E1) (.lv (Q2n E1) λ(x1:Bool)=> .br (!x1) (.lf (E1,[])) (.an (Q5b E1) (.lv (Q0p E1) λ(x2:Q00)=> .an (Qap x2.B2 x2.Mem) (.lv (Q74 x2.B2 x2.Mem) λ(x3:Q03×List Int×Q13)=>let E2:=({B2:=x3.1,Mem:=x3.2.1,A2:=x2.A2,A7:=x2.A7,B0:=x2.B0,C5:=x2.C5,A1:=x2.A1,A4:=x2.A4,A3:=x2.A3,A6:=x2.A6}:Q00); .br (x3.2.2.C3==1) (.an (Q4r E2 x3.2.2.C9 clock) (.lv (Q1a E2 x3.2.2.C9 clock) λ(x4:Q00×Int)=> .br (x3.2.2.E0 !=0) (.cn (Nat.blt 0 1&&decide (0≤x3.2.2.E0∧x3.2.2.E0<(↑16:Int))) (.lf ({B2:={X:=A16.of 0 (List.set (A16.l x4.1.B2.X) x3.2.2.E0.toNat x4.2),Pc:=x4.1.B2.Pc,B5:=x4.1.B2.B5},Mem:=x4.1.Mem,A2:=x4.1.A2,A7:=x4.1.A7,B0:=x4.1.B0,C5:=x4.1.C5,A1:=x4.1.A1,A4:=wrap u64 (x4.1.A4+1),A3:=x4.1.A3,A6:=x4.1.A6},[]))) (.lf ({B2:=x4.1.B2,Mem:=x4.1.Mem,A2:=x4.1.A2,A7:=x4.1.A7,B0:=x4.1.B0,C5:=x4.1.C5,A1:=x4.1.A1,A4:=wrap u64 (x4.1.A4+1),A3:=x4.1.A3,A6:=x4.1.A6},[])))) (.br (x3.2.2.C3==2) (.an (Q47 E2 x3.2.2.C9 x3.2.2.Value m.A4) (.lv (Q2d E2 x3.2.2.C9 x3.2.2.Value m.A4) λ(x5:Q00×List Q0a)=> .lf ({B2:=x5.1.B2,Mem:=x5.1.Mem,A2:=x5.1.A2,A7:=x5.1.A7,B0:=x5.1.B0,C5:=x5.1.C5,A1:=x5.1.A1,A4:=wrap u64 (x5.1.A4+1),A3:=x5.1.A3,A6:=x5.1.A6},x5.2))) (.br (x3.2.2.C3==3) (.lf ({B2:=x3.1,Mem:=x3.2.1,A2:=x2.A2,A7:=x2.A7,B0:=x2.B0,C5:=x2.C5,A1:=x2.A1,A4:=wrap u64 (x2.A4+1),A3:=true,A6:=x2.A6},[])) (.br (x3.2.2.C3==4) (.lf ({B2:=x3.1,Mem:=x3.2.1,A2:=x2.A2,A7:=x2.A7,B0:=x2.B0,C5:=x2.C5,A1:=x2.A1,A4:=wrap u64 (x2.A4+1),A3:=x2.A3,A6:=true},[])) (.lf ({B2:=x3.1,Mem:=x3.2.1,A2:=x2.A2,A7:=x2.A7,B0:=x2.B0,C5:=x2.C5,A1:=x2.A1,A4:=wrap u64 (x2.A4+1),A3:=x2.A3,A6:=x2.A6},[]))))))))))
def Q36(m:Q00)(clock:Int):(Q00×(List Q0a)):=(Q2v m clock).m
abbrev Q2x(m:Q00)(clock:Int):Prop:=(Q2v m clock).p
def Qvg:Q0f:=Q0f.fz<|mkP 58 [] false [.agg Q00.sig, .one (.int .u32)] [] (λargs rows=>Q2x (Q00.of (args.getD 0 .dead).cells) (argI args 1)) (λargs rows=>Q36 (Q00.of (args.getD 0 .dead).cells) (argI args 1)) (λX=> .tup [.agg (Q00.cells (X.1)), .sl 4 (.recs .apiOutput (X.2)) false]) (λX=>[])
theorem Qup:Q08 Tryz.prog Qvg:=fz_ok<|Q0z Q0s Q0t (.cons Q0n (.cons Qiw (.cons Qim (.cons Qtl (.cons Qm6 (.cons Qkx (.nil))))))) Tryz.func58 Tryz.call58 (λargs rows=>Q2v (Q00.of (args.getD 0 .dead).cells) (argI args 1)) [.sl (.ints .u32) false, .sl (.recs .apiOutput) false] [] 2 (λ_ _ _=>by kernel_rfl) (λ_ _=>rfl) (λ_ _ h=>h) (λh=>by cases h)
end
end Go.Proofs.YtpcbkbalabgnlaaGreat

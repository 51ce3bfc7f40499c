/-
  Functions of the program: models, and that its calls come to them (by a program: gen3.py).
-/
import Derived.Test.YtmalmklaonainaaGreatPrecopyCopiesBase
import Derived.Test.YtmalmklaonainaaGreatPrecopyCopiesHand
import Derived.Test.YtmalmklaonainaaGreatPrecopyCopiesYc
import Derived.Test.YtmalmklaonainaaGreatPrecopyCopiesYb
import Derived.Test.YtmalmklaonainaaGreatPrecopyCopiesYa
set_option maxRecDepth 100000
set_option linter.unusedVariables false
set_option linter.unusedSimpArgs false
namespace Go.Proofs.YtmalmklaonainaaGreat
open Go Go.GD Go.IntKind
noncomputable section
def Q4y(m:Q00):Tree Bool:=
.an (Qjl m) (.lv (Q5t m) λ(x0:Bool)=> .br x0 (.br (!m.A6) (.an (Qhl m) (.lv (Qjd m) λ(x1:Bool)=> .br (!x1) (.lf (decide (m.A4<1152921504606846976))) (.lf false))) (.lf false)) (.lf false))
def Q7w(m:Q00):Bool:=(Q4y m).m
abbrev Qhe(m:Q00):Prop:=(Q4y m).p
def Qzy:Q09:=mkP 112 [] true [.agg Q00.sig] [] (λargs rows=>Qhe (Q00.of (args.getD 0 .dead).cells)) (λargs rows=>Q7w (Q00.of (args.getD 0 .dead).cells)) (λX=> .bool X) (λX=>[])
theorem Qw6:Q01 Tryz.prog Qzy:=Q0j drawn Q0g (.cons Qyt (.cons Qy8 (.nil))) Tryz.func112 Tryz.call112 (λargs rows=>Q4y (Q00.of (args.getD 0 .dead).cells)) [] [] 2 (λ_ _ _=>by kernel_rfl) (λ_ _=>rfl) (λ_ _ h=>h) (λ_ X=>by kernel_rfl)
def Qdv(m:Q00)(z:(Int)):Nat:=(5-z).toNat
def Q58(m:Q00):Tree Q00:=
let E1:=({B1:=m.B1,Mem:=m.Mem,A1:=m.A1,A9:=m.A9,B0:=m.B0,C2:=m.C2,A0:=m.A0,A4:=m.A4,A2:=false,A6:=m.A6}:Q00); .br (iand u32 m.B1.B5.a0 (2:Int)==(0:Int)) (.lf (E1)) (.an (Q7h E1) (.lv (Qd2 E1) λ(x0:Int)=> .lp inferInstance (Qdv m 0+1) (((rE (0:Nat)∧rE (0:Nat))∧(rE (0:Nat)∧rE (0:Nat))∧rE (x0:Int)∧rE (0:Int)∧True)∧(rE m.B1.X.a0∧rE m.B1.X.a1∧rE m.B1.X.a2∧rE m.B1.X.a3∧rE m.B1.X.a4∧rE m.B1.X.a5∧rE m.B1.X.a6∧rE m.B1.X.a7∧rE m.B1.X.a8∧rE m.B1.X.a9∧rE m.B1.X.a10∧rE m.B1.X.a11∧rE m.B1.X.a12∧rE m.B1.X.a13∧rE m.B1.X.a14∧rE m.B1.X.a15∧rE m.B1.Pc∧rE m.B1.B5.a0∧rE m.B1.B5.a1∧rE m.B1.B5.a2∧rE m.B1.B5.a3∧rE m.B1.B5.a4∧rE m.B1.B5.a5∧rE m.B1.B5.a6∧rE m.B1.B5.a7∧((Els.Nil (Els.ints u32 m.Mem)∨rE (1:Nat))∧rE m.Mem)∧rE m.A1.D0∧rE m.A9.D6∧rE m.A9.C4∧rE m.A9.D4∧rE m.B0.Blocks∧rE m.B0.B6∧rE m.B0.Frame∧rE m.B0.C0∧rE m.B0.D7∧rE m.B0.B3∧rE m.B0.B4∧rE m.B0.B7∧rE m.C2.Frame∧rE m.C2.D9∧rE m.C2.B8∧rE m.C2.B9∧rE m.C2.B2∧rE m.C2.E0∧rE m.A0.C3∧rE m.A0.C5∧rE m.A4∧rE (false:Bool)∧rE m.A6∧True)∧(mE zM True True)∧True) 0 λ(v0:Int)=> .br (decide (v0<5)) (.cn (decide (0≤v0)) (.br (iand u32 x0 (ishl u32 1 v0) !=0) (.lv (Qa2 m.B1 (wrap i64 (16+v0)) 0) λ(x1:Q02)=> .lf (Sum.inr {B1:=x1,Mem:=m.Mem,A1:=m.A1,A9:=m.A9,B0:=m.B0,C2:=m.C2,A0:=m.A0,A4:=m.A4,A2:=false,A6:=m.A6})) (.nx (((rE (0:Nat)∧rE (0:Nat))∧(rE (0:Nat)∧rE (0:Nat))∧rE (x0:Int)∧rE ((wrap i64 (v0+1)):Int)∧True)∧(rE m.B1.X.a0∧rE m.B1.X.a1∧rE m.B1.X.a2∧rE m.B1.X.a3∧rE m.B1.X.a4∧rE m.B1.X.a5∧rE m.B1.X.a6∧rE m.B1.X.a7∧rE m.B1.X.a8∧rE m.B1.X.a9∧rE m.B1.X.a10∧rE m.B1.X.a11∧rE m.B1.X.a12∧rE m.B1.X.a13∧rE m.B1.X.a14∧rE m.B1.X.a15∧rE m.B1.Pc∧rE m.B1.B5.a0∧rE m.B1.B5.a1∧rE m.B1.B5.a2∧rE m.B1.B5.a3∧rE m.B1.B5.a4∧rE m.B1.B5.a5∧rE m.B1.B5.a6∧rE m.B1.B5.a7∧((Els.Nil (Els.ints u32 m.Mem)∨rE (1:Nat))∧rE m.Mem)∧rE m.A1.D0∧rE m.A9.D6∧rE m.A9.C4∧rE m.A9.D4∧rE m.B0.Blocks∧rE m.B0.B6∧rE m.B0.Frame∧rE m.B0.C0∧rE m.B0.D7∧rE m.B0.B3∧rE m.B0.B4∧rE m.B0.B7∧rE m.C2.Frame∧rE m.C2.D9∧rE m.C2.B8∧rE m.C2.B9∧rE m.C2.B2∧rE m.C2.E0∧rE m.A0.C3∧rE m.A0.C5∧rE m.A4∧rE (false:Bool)∧rE m.A6∧True)∧(mE zM True True)∧True) (Sum.inl (wrap i64 (v0+1)))))) (.lf (Sum.inr E1))))
def Qn5(m:Q00):Q00:=(Q58 m).m
abbrev Qfn(m:Q00):Prop:=(Q58 m).p
def Qt1:LInv:={
 α:=(Int)
 F:=λst a=>([(1, .ptr 0 0 0),(2, .ptr 1 0 0),(3,(lk st 3)),(15, .int i64 a)],[⟨true,43,49, .gen [[(cT st 1 0),(cT st 1 1),(cT st 1 2),(cT st 1 3),(cT st 1 4),(cT st 1 5),(cT st 1 6),(cT st 1 7),(cT st 1 8),(cT st 1 9),(cT st 1 10),(cT st 1 11),(cT st 1 12),(cT st 1 13),(cT st 1 14),(cT st 1 15),(cT st 1 16),(cT st 1 17),(cT st 1 18),(cT st 1 19),(cT st 1 20),(cT st 1 21),(cT st 1 22),(cT st 1 23),(cT st 1 24),(cT st 1 25),(cT st 1 26),(cT st 1 27),(cT st 1 28),(cT st 1 29),(cT st 1 30),(cT st 1 31),(cT st 1 32),(cT st 1 33),(cT st 1 34),(cT st 1 35),(cT st 1 36),(cT st 1 37),(cT st 1 38),(cT st 1 39),(cT st 1 40),(cT st 1 41),(cT st 1 42),(cT st 1 43),(cT st 1 44),(cT st 1 45),(cT st 1 46),(cT st 1 47),(cT st 1 48)]]⟩,⟨true,43,49, .gen [[(cT st 2 0),(cT st 2 1),(cT st 2 2),(cT st 2 3),(cT st 2 4),(cT st 2 5),(cT st 2 6),(cT st 2 7),(cT st 2 8),(cT st 2 9),(cT st 2 10),(cT st 2 11),(cT st 2 12),(cT st 2 13),(cT st 2 14),(cT st 2 15),(cT st 2 16),(cT st 2 17),(cT st 2 18),(cT st 2 19),(cT st 2 20),(cT st 2 21),(cT st 2 22),(cT st 2 23),(cT st 2 24),(cT st 2 25),(cT st 2 26),(cT st 2 27),(cT st 2 28),(cT st 2 29),(cT st 2 30),(cT st 2 31),(cT st 2 32),(cT st 2 33),(cT st 2 34),(cT st 2 35),(cT st 2 36),(cT st 2 37),(cT st 2 38),(cT st 2 39),(cT st 2 40),(cT st 2 41),(cT st 2 42),(cT st 2 43),(cT st 2 44),(cT st 2 45),(cT st 2 46),(cT st 2 47),(cT st 2 48)]]⟩])
 a0:=λst=>(lk st 15).toInt
 ex0:=λst=>[]++[(Q0o (lk st 1) (st.rows.length+0)),(Q0o (lk st 2) (st.rows.length+1))]
 next:=λst=>(lk st 15).toInt
 ex:=λst=>[]++[(Q0o (lk st 1) (st.rows.length+0)),(Q0o (lk st 2) (st.rows.length+1))]}
def Qpg:List (Nat×LInv):=[(6,Qt1)]
def Qwf:Q09:=Q09.fz<|mkP 113 [] false [.agg Q00.sig] [] (λargs rows=>Qfn (Q00.of (args.getD 0 .dead).cells)) (λargs rows=>Qn5 (Q00.of (args.getD 0 .dead).cells)) (λX=> .agg (Q00.cells X)) (λX=>[])
theorem Qtb:Q01 Tryz.prog Qwf:=fz_ok<|Q0j drawn Q0g (.cons Qe9 (.cons Qdw (.nil))) Tryz.func113 Tryz.call113 (λargs rows=>Q58 (Q00.of (args.getD 0 .dead).cells)) [.sl (.ints .u32) false] Qpg 3 (λ_ _ _=>by kernel_rfl) (λ_ _=>rfl) (λ_ _ h=>h) (λh=>by cases h)
def Q7t(c:Q0a)(port:Int):Tree (Q0a×Int):=
.br (port==0) (.br (decide (c.D0=[])) (.lf (c,4294967295)) (.cn (decide ((0:Int)≤(0:Int)∧0<(c.D0.length:Int))) (.cn (decide ((0:Int)≤(1:Int)∧1≤(c.D0.length:Int)∧(c.D0.length:Int)≤(c.D0.length:Int))) (.lf ({D0:=List.take (Int.toNat (c.D0.length:Int)-Int.toNat 1) (List.drop (Int.toNat 1) c.D0)},wrap u32 (↑(UInt8.toNat (c.D0.getD (Int.toNat 0) (0:UInt8))):Int)))))) (.br (port==1) (.lf (c,wrap u32 (c.D0.length:Int))) (.lf (c,0)))
def Z1a(c:Q0a)(port:Int):(Q0a×Int):=(Q7t c port).m
theorem Qyp(c:Q0a)(port:Int):(Q7t c port).p:=by
 unfold Tree.p Q7t
 repeat'(first|exact trivial|refine w_br (λ_=> ?_) (λ_=> ?_)|refine w_cn ?_ ?_|refine w_an ?_ ?_|refine w_lv (λ_ _=> ?_)|refine w_nx ?_|refine w_lf ?_|refine And.intro ?_ ?_)
 all_goals(((subst_vars;first|trivial|assumption|omega|((simp(config:={decide:=true,failIfUnchanged:=false}) only[Bool.and_eq_true,Bool.or_eq_true,Bool.and_eq_false_iff,Bool.or_eq_false_iff,Bool.not_eq_true',Bool.not_eq_false',Bool.not_eq_true,Bool.not_eq_false,decide_eq_true_eq,decide_eq_false_iff_not,Q3t,Q2i,Q3y,Q2j,beq_iff_eq,beq_eq_false_iff_ne,bne_iff_ne,bne_eq_false_iff_eq,ne_eq,List.all_cons,List.all_nil,D.plain,List.length_cons,List.length_nil,List.length_append,List.length_set,List.length_replicate,IntKind.wrap_i64,IntKind.wrap_u64,IntKind.wrap_u32,IntKind.wrap_i32,IntKind.wrap_u8,true_and,and_true,or_false,false_or,or_true,true_or,not_true_eq_false,not_false_eq_true,Prod.fst,Prod.snd]at*);first|done|assumption|omega)|((simp(config:={decide:=true,failIfUnchanged:=false}) only[Bool.and_eq_true,Bool.or_eq_true,Bool.and_eq_false_iff,Bool.or_eq_false_iff,Bool.not_eq_true',Bool.not_eq_false',Bool.not_eq_true,Bool.not_eq_false,decide_eq_true_eq,decide_eq_false_iff_not,Q3t,Q2i,Q3y,Q2j,beq_iff_eq,beq_eq_false_iff_ne,bne_iff_ne,bne_eq_false_iff_eq,ne_eq,List.all_cons,List.all_nil,D.plain,List.length_cons,List.length_nil,List.length_append,List.length_set,List.length_replicate,IntKind.wrap_i64,IntKind.wrap_u64,IntKind.wrap_u32,IntKind.wrap_i32,IntKind.wrap_u8,true_and,and_true,or_false,false_or,or_true,true_or,not_true_eq_false,not_false_eq_true,Prod.fst,Prod.snd]at*);simp only[←List.length_pos_iff]at*;omega)|(simp_all;done)|(have:= @Qf2;simp_all;try omega))))
def Z7z:Q09:=mkR 195 [] true [.agg Q0a.sig, .one (.int .i64)] [] (λargs rows=>Z1a (Q0a.of (args.getD 0 .dead).cells) (argI args 1)) (λX=> .tup [.agg (Q0a.cells (X.1)), .int .u32 (X.2)]) (λX=>[])
theorem Z4f:Q01 Tryz.prog Z7z:=Q0p drawn Q0g (.nil) Tryz.func195 Tryz.call195 (λargs rows=>Q7t (Q0a.of (args.getD 0 .dead).cells) (argI args 1)) [] [] 2 (λ_ _ _=>by kernel_rfl) (λ_ _=>rfl) (λargs rows=>Qyp (Q0a.of (args.getD 0 .dead).cells) (argI args 1)) (λ_ X=>by kernel_rfl)
def Qki(t:Q0k):Tree Int:=
.br t.D4 (.lf 1) (.lf 0)
def Z47(t:Q0k):Int:=(Qki t).m
def Zfn:Q09:=mkR 196 [] true [.agg Q0k.sig] [] (λargs rows=>Z47 (Q0k.of (args.getD 0 .dead).cells)) (λX=> .int .u32 X) (λX=>[])
theorem Zb1:Q01 Tryz.prog Zfn:=Q0p drawn Q0g (.nil) Tryz.func196 Tryz.call196 (λargs rows=>Qki (Q0k.of (args.getD 0 .dead).cells)) [] [] 2 (λ_ _ _=>by kernel_rfl) (λ_ _=>rfl) (λ_ _=>Tree.free_ok (by kernel_rfl)) (λ_ X=>by kernel_rfl)
def Qor(d0:Q0b)(port:Int):Tree Int:=
.br (port==4) (.lf d0.B6) (.br (port==5) (.lf d0.Frame) (.br (port==6) (.lf (wrap u32 d0.C0)) (.lf 0)))
def Qwv(d0:Q0b)(port:Int):Int:=(Qor d0 port).m
def disk_In_m:Q09:=mkR 197 [] true [.agg Q0b.sig, .one (.int .i64)] [] (λargs rows=>Qwv (Q0b.of (args.getD 0 .dead).cells) (argI args 1)) (λX=> .int .u32 X) (λX=>[])
theorem Zf2:Q01 Tryz.prog disk_In_m:=Q0p drawn Q0g (.nil) Tryz.func197 Tryz.call197 (λargs rows=>Qor (Q0b.of (args.getD 0 .dead).cells) (argI args 1)) [] [] 2 (λ_ _ _=>by kernel_rfl) (λ_ _=>rfl) (λ_ _=>Tree.free_ok (by kernel_rfl)) (λ_ X=>by kernel_rfl)
def Qub(n:Q0m)(port:Int):Tree Int:=
.br (port==7) (.lf n.Frame) (.br (port==8) (.lf n.E0) (.br (port==9) (.br n.B8 (.br n.B2 (.lf (wrap u32 (wrap u32 ((0:Int)+(1:Int))+2))) (.lf (wrap u32 ((0:Int)+(1:Int))))) (.br n.B2 (.lf (wrap u32 ((0:Int)+(2:Int)))) (.lf 0))) (.lf 0)))
def Z8v(n:Q0m)(port:Int):Int:=(Qub n port).m
def nic_In_m:Q09:=mkR 198 [] true [.agg Q0m.sig, .one (.int .i64)] [] (λargs rows=>Z8v (Q0m.of (args.getD 0 .dead).cells) (argI args 1)) (λX=> .int .u32 X) (λX=>[])
theorem nic_In_ok:Q01 Tryz.prog nic_In_m:=Q0p drawn Q0g (.nil) Tryz.func198 Tryz.call198 (λargs rows=>Qub (Q0m.of (args.getD 0 .dead).cells) (argI args 1)) [] [] 2 (λ_ _ _=>by kernel_rfl) (λ_ _=>rfl) (λ_ _=>Tree.free_ok (by kernel_rfl)) (λ_ X=>by kernel_rfl)
def Qaz(b:Q07)(port:Int):Tree Int:=
.br (port==10) (.lf b.C3) (.br (port==11) (.an (Q9n b) (.lv (Qgd b) λ(x0:Int)=> .lf (wrap u32 x0))) (.lf 0))
def Z1(b:Q07)(port:Int):Int:=(Qaz b port).m
abbrev Qlf(b:Q07)(port:Int):Prop:=(Qaz b port).p
def Z6j:Q09:=mkP 199 [] true [.agg Q07.sig, .one (.int .i64)] [] (λargs rows=>Qlf (Q07.of (args.getD 0 .dead).cells) (argI args 1)) (λargs rows=>Z1 (Q07.of (args.getD 0 .dead).cells) (argI args 1)) (λX=> .int .u32 X) (λX=>[])
theorem Z2z:Q01 Tryz.prog Z6j:=Q0j drawn Q0g (.cons Qh8 (.nil)) Tryz.func199 Tryz.call199 (λargs rows=>Qaz (Q07.of (args.getD 0 .dead).cells) (argI args 1)) [] [] 2 (λ_ _ _=>by kernel_rfl) (λ_ _=>rfl) (λ_ _ h=>h) (λ_ X=>by kernel_rfl)
def Q3m(m:Q00)(port:Int)(clock:Int):Tree (Q00×Int):=
let T1:Tree ((Q00×Int)):= .lv (Z1a m.A1 port) λ(x0:Q0a×Int)=> .lf ({B1:=m.B1,Mem:=m.Mem,A1:=x0.1,A9:=m.A9,B0:=m.B0,C2:=m.C2,A0:=m.A0,A4:=m.A4,A2:=m.A2,A6:=m.A6},x0.2); .br (port==0) T1 (.br (port==1) T1 (.br (port==2) (.lf (m,clock)) (.br (port==3) (.lv (Z47 m.A9) λ(x2:Int)=> .lf (m,x2)) (.br (port==4) (.lv (Qwv m.B0 port) λ(x3:Int)=> .lf (m,x3)) (.br (port==5) (.lv (Qwv m.B0 port) λ(x4:Int)=> .lf (m,x4)) (.br (port==6) (.lv (Qwv m.B0 port) λ(x5:Int)=> .lf (m,x5)) (.br (port==7) (.lv (Z8v m.C2 port) λ(x6:Int)=> .lf (m,x6)) (.br (port==8) (.lv (Z8v m.C2 port) λ(x7:Int)=> .lf (m,x7)) (.br (port==9) (.lv (Z8v m.C2 port) λ(x8:Int)=> .lf (m,x8)) (let T2:Tree ((Q00×Int)):= .an (Qlf m.A0 port) (.lv (Z1 m.A0 port) λ(x9:Int)=> .lf (m,x9)); .br (port==10) T2 (.br (port==11) T2 (.lf (m,0)))))))))))))
def Qhk(m:Q00)(port:Int)(clock:Int):(Q00×Int):=(Q3m m port clock).m
abbrev Qbs(m:Q00)(port:Int)(clock:Int):Prop:=(Q3m m port clock).p
def Qo7:Q09:=Q09.fz<|mkP 134 [] false [.agg Q00.sig, .one (.int .i64), .one (.int .u32)] [] (λargs rows=>Qbs (Q00.of (args.getD 0 .dead).cells) (argI args 1) (argI args 2)) (λargs rows=>Qhk (Q00.of (args.getD 0 .dead).cells) (argI args 1) (argI args 2)) (λX=> .tup [.agg (Q00.cells (X.1)), .int .u32 (X.2)]) (λX=>[])
theorem Qmb:Q01 Tryz.prog Qo7:=fz_ok<|Q0j drawn Q0g (.cons Z4f (.cons Zb1 (.cons Zf2 (.cons nic_In_ok (.cons Z2z (.nil)))))) Tryz.func134 Tryz.call134 (λargs rows=>Q3m (Q00.of (args.getD 0 .dead).cells) (argI args 1) (argI args 2)) [.sl (.ints .u32) false] [] 2 (λ_ _ _=>by kernel_rfl) (λ_ _=>rfl) (λ_ _ h=>h) (λh=>by cases h)
def Qmg(t:Q0k)(deadline:Int):Tree Q0k:=
.lf ({D6:=deadline !=0,C4:=deadline,D4:=false})
def Qpd(t:Q0k)(deadline:Int):Q0k:=(Qmg t deadline).m
def Z9w:Q09:=mkR 200 [] true [.agg Q0k.sig, .one (.int .u32)] [] (λargs rows=>Qpd (Q0k.of (args.getD 0 .dead).cells) (argI args 1)) (λX=> .agg (Q0k.cells X)) (λX=>[])
theorem Z8b:Q01 Tryz.prog Z9w:=Q0p drawn Q0g (.nil) Tryz.func200 Tryz.call200 (λargs rows=>Qmg (Q0k.of (args.getD 0 .dead).cells) (argI args 1)) [] [] 2 (λ_ _ _=>by kernel_rfl) (λ_ _=>rfl) (λ_ _=>Tree.free_ok (by kernel_rfl)) (λ_ X=>by kernel_rfl)
def Qgl(m:(List Int))(frame:Int):Tree Bool:=
.lv (Q0f m) λ(x0:Int)=> .lf (decide (wrap u64 frame<wrap u64 x0))
def Qh5(m:(List Int))(frame:Int):Bool:=(Qgl m frame).m
def Z3s:Q09:=mkR 193 [] true [.one (.ints .u32), .one (.int .u32)] [] (λargs rows=>Qh5 (argL .u32 args 0) (argI args 1)) (λX=> .bool X) (λX=>[])
theorem Qzo:Q01 Tryz.prog Z3s:=Q0p drawn Q0g (.cons Q1a (.nil)) Tryz.func193 Tryz.call193 (λargs rows=>Qgl (argL .u32 args 0) (argI args 1)) [] [] 2 (λ_ _ _=>by kernel_rfl) (λ_ _=>rfl) (λ_ _=>Tree.free_ok (by kernel_rfl)) (λ_ X=>by kernel_rfl)
def Q3g(m:(List Int))(frame:Int):Tree Bool:=
.br (decide (frame≥0)) (.lv (Q0f m) λ(x0:Int)=> .lf (decide (frame<x0))) (.lf false)
def Q1r(m:(List Int))(frame:Int):Bool:=(Q3g m frame).m
def Qt3:Q09:=mkR 208 [] true [.one (.ints .u32), .one (.int .i64)] [] (λargs rows=>Q1r (argL .u32 args 0) (argI args 1)) (λX=> .bool X) (λX=>[])
theorem Qfw:Q01 Tryz.prog Qt3:=Q0p drawn Q0g (.cons Q1a (.nil)) Tryz.func208 Tryz.call208 (λargs rows=>Q3g (argL .u32 args 0) (argI args 1)) [] [] 2 (λ_ _ _=>by kernel_rfl) (λ_ _=>rfl) (λ_ _=>Tree.free_ok (by kernel_rfl)) (λ_ X=>by kernel_rfl)
def Qh9(words:(List Int))(z:(Int)×(List Int)):Prop:=0≤z.1∧z.1≤words.length∧(z.2.length:Int)=4*z.1
def Q4f(words:(List Int))(z:(Int)×(List Int)):Nat:=(words.length-z.1).toNat
def Q2t(words:(List Int)):Tree (List UInt8):=
.cn (Nat.blt 0 1&&Nat.beq 1 1&&List.all [D.int u8 0] D.plain&&decide ((0:Int)≤(0:Int)∧0≤wrap i64 (4*(words.length:Int))∧wrap i64 (4*(words.length:Int))≤9223372036854775807∧(↑1:Int)*wrap i64 (4*(words.length:Int))≤140737488355328)) (.lp inferInstance (Q4f words (0,[])+1) ((True∧((Els.Nil (Els.ints u32 words)∨rE (1:Nat))∧rE (words:List Int))∧rE ((words.length:Int):Int)∧rE (0:Int)∧True)∧rE ([]:List Int)∧True) (0,[]) λ(v0:Int×List Int)=> .br (decide (v0.1<(words.length:Int))) (.cn (Nat.beq 1 1&&Nat.blt 0 1&&decide (0≤v0.1∧v0.1<(words.length:Int))) (.cn (decide (1*(v0.2.length+4)≤140737488355328)) (let E1:=words.getD v0.1.toNat 0; .nx ((True∧((Els.Nil (Els.ints u32 words)∨rE (1:Nat))∧rE (words:List Int))∧rE ((words.length:Int):Int)∧rE ((wrap i64 (v0.1+1)):Int)∧True)∧rE ((v0.2++[wrap u8 (words.getD v0.1.toNat 0),wrap u8 (ishr u32 (words.getD v0.1.toNat 0) 8),wrap u8 (ishr u32 (words.getD v0.1.toNat 0) 16),wrap u8 (ishr u32 (words.getD v0.1.toNat 0) 24)]):List Int)∧True) (Sum.inl (wrap i64 (v0.1+1),v0.2++[wrap u8 E1,wrap u8 (ishr u32 E1 8),wrap u8 (ishr u32 E1 16),wrap u8 (ishr u32 E1 24)]))))) (.lf (Sum.inr (bytesOf v0.2))))
def Qxr(words:(List Int)):(List UInt8):=(Q2t words).m
def Q90(words:(List Int)):Prop:=
words.length≤1000000000000
theorem Qwm(words:(List Int))(hw:Q90 words):(Q2t words).p:=by
 simp only[Q90]at hw
 unfold Tree.p Q2t
 repeat'(first|refine w_lp (inv:=Qh9 words) (μ:=Q4f words) ?_ (Nat.lt_succ_self _) (λ_ _=> ?_)|exact trivial|refine w_br (λ_=> ?_) (λ_=> ?_)|refine w_cn ?_ ?_|refine w_an ?_ ?_|refine w_lv (λ_ _=> ?_)|refine w_nx ?_|refine w_lf ?_|refine And.intro ?_ ?_)
 all_goals((try simp only[Qh9,Q4f]at*);((subst_vars;first|trivial|assumption|omega|((simp(config:={decide:=true,failIfUnchanged:=false}) only[Bool.and_eq_true,Bool.or_eq_true,Bool.and_eq_false_iff,Bool.or_eq_false_iff,Bool.not_eq_true',Bool.not_eq_false',Bool.not_eq_true,Bool.not_eq_false,decide_eq_true_eq,decide_eq_false_iff_not,Q3t,Q2i,Q3y,Q2j,beq_iff_eq,beq_eq_false_iff_ne,bne_iff_ne,bne_eq_false_iff_eq,ne_eq,List.all_cons,List.all_nil,D.plain,List.length_cons,List.length_nil,List.length_append,List.length_set,List.length_replicate,IntKind.wrap_i64,IntKind.wrap_u64,IntKind.wrap_u32,IntKind.wrap_i32,IntKind.wrap_u8,true_and,and_true,or_false,false_or,or_true,true_or,not_true_eq_false,not_false_eq_true,Prod.fst,Prod.snd]at*);first|done|assumption|omega)|((simp(config:={decide:=true,failIfUnchanged:=false}) only[Bool.and_eq_true,Bool.or_eq_true,Bool.and_eq_false_iff,Bool.or_eq_false_iff,Bool.not_eq_true',Bool.not_eq_false',Bool.not_eq_true,Bool.not_eq_false,decide_eq_true_eq,decide_eq_false_iff_not,Q3t,Q2i,Q3y,Q2j,beq_iff_eq,beq_eq_false_iff_ne,bne_iff_ne,bne_eq_false_iff_eq,ne_eq,List.all_cons,List.all_nil,D.plain,List.length_cons,List.length_nil,List.length_append,List.length_set,List.length_replicate,IntKind.wrap_i64,IntKind.wrap_u64,IntKind.wrap_u32,IntKind.wrap_i32,IntKind.wrap_u8,true_and,and_true,or_false,false_or,or_true,true_or,not_true_eq_false,not_false_eq_true,Prod.fst,Prod.snd]at*);simp only[←List.length_pos_iff]at*;omega)|(simp_all;done)|(have:= @Qf2;simp_all;try omega))))
def Qz9:LInv:={
 α:=(Int)×(List Int)
 F:=λst a=>([(3, .all 0),(10,(lk st 10)),(11,(lk st 11)),(12, .int i64 a.1)],[⟨false,5,1, .ints u8 a.2⟩])
 a0:=λst=>((lk st 12).toInt,(Q37 st.rows (rN st 3)))
 ex0:=λst=>[]++[(Q0o (lk st 3) (st.rows.length+0))]
 next:=λst=>((lk st 12).toInt,(Q37 st.rows (rN st 3)))
 ex:=λst=>[]++[(Q0o (lk st 3) (st.rows.length+0))]}
def Qt7:List (Nat×LInv):=[(3,Qz9)]
def Z32:Q09:=mkP 209 [] true [.one (.ints .u32)] [] (λargs rows=>Q90 (argL .u32 args 0)) (λargs rows=>Qxr (argL .u32 args 0)) (λX=> .str X) (λX=>[])
theorem Z0c:Q01 Tryz.prog Z32:=Q0j drawn Q0g (.nil) Tryz.func209 Tryz.call209 (λargs rows=>Q2t (argL .u32 args 0)) [] Qt7 3 (λ_ _ _=>by kernel_rfl) (λ_ _=>rfl) (λargs rows h=>Qwm (argL .u32 args 0) h) (λ_ X=>by kernel_rfl)
def Q2r(m:(List Int))(frame:Int):Tree ((List UInt8)×Bool):=
.lv (Q1r m frame) λ(x0:Bool)=> .br (!x0) (.lf ([],false)) (.cn (Nat.beq 1 1&&Nat.blt 0 1&&decide (0≤wrap i64 (frame*32)∧wrap i64 (frame*32)≤wrap i64 (wrap i64 (frame*32)+32)∧wrap i64 (wrap i64 (frame*32)+32)≤(m.length:Int))) (let E1:=List.take (Int.toNat (wrap i64 (wrap i64 (frame*32)+32))-Int.toNat (wrap i64 (frame*32))) (List.drop (Int.toNat (wrap i64 (frame*32))) m); .an (Q90 E1) (.lv (Qxr E1) λ(x1:List UInt8)=> .lf (x1,true))))
def Q34(m:(List Int))(frame:Int):((List UInt8)×Bool):=(Q2r m frame).m
abbrev Q5k(m:(List Int))(frame:Int):Prop:=(Q2r m frame).p
def Z4v:Q09:=mkP 143 [] true [.one (.ints .u32), .one (.int .i64)] [] (λargs rows=>Q5k (argL .u32 args 0) (argI args 1)) (λargs rows=>Q34 (argL .u32 args 0) (argI args 1)) (λX=> .tup [.str (X.1), .bool (X.2)]) (λX=>[])
theorem Qaa:Q01 Tryz.prog Z4v:=Q0j drawn Q0g (.cons Qfw (.cons Z0c (.nil))) Tryz.func143 Tryz.call143 (λargs rows=>Q2r (argL .u32 args 0) (argI args 1)) [] [] 2 (λ_ _ _=>by kernel_rfl) (λ_ _=>rfl) (λ_ _ h=>h) (λ_ X=>by kernel_rfl)
def Qlk(d0:Q0b)(at0:Int):Tree (Q0e×Bool):=
.br (d0.C0 !=1) (.lf ({C6:=0,At:=0,B6:=0,D5:=[]},false)) (.br (d0.D7==1) (.lf ({C6:=3,At:=at0,B6:=d0.B3,D5:=[]},true)) (.br (d0.D7==2) (.lf ({C6:=4,At:=at0,B6:=d0.B3,D5:=d0.B7},true)) (.lf ({C6:=0,At:=0,B6:=0,D5:=[]},false))))
def Qjq(d0:Q0b)(at0:Int):(Q0e×Bool):=(Qlk d0 at0).m
def Qzj:Q09:=mkR 287 [] true [.agg Q0b.sig, .one (.int .u64)] [] (λargs rows=>Qjq (Q0b.of (args.getD 0 .dead).cells) (argI args 1)) (λX=> .tup [.agg (Q0e.cells (X.1)), .bool (X.2)]) (λX=>[])
theorem Qxs:Q01 Tryz.prog Qzj:=Q0p drawn Q0g (.nil) Tryz.func287 Tryz.call287 (λargs rows=>Qlk (Q0b.of (args.getD 0 .dead).cells) (argI args 1)) [] [] 2 (λ_ _ _=>by kernel_rfl) (λ_ _=>rfl) (λ_ _=>Tree.free_ok (by kernel_rfl)) (λ_ X=>by kernel_rfl)
def Qam(d0:Q0b)(m:(List Int))(cmd:Int)(at0:Int):Tree (Q0b×(List Q0e)):=
.br (d0.C0 !=0) (.lf (d0,[])) (let T1:Tree ((Q0b×(List Q0e))):= .lf ({Blocks:=d0.Blocks,B6:=d0.B6,Frame:=d0.Frame,C0:=3,D7:=d0.D7,B3:=d0.B3,B4:=d0.B4,B7:=d0.B7},[]); .br (decide (d0.B6≥d0.Blocks)) T1 (.lv (Qh5 m d0.Frame) λ(x0:Bool)=> .br (!x0) T1 (.br (cmd==2) (.an (Q5k m (wrap i64 d0.Frame)) (.lv (Q34 m (wrap i64 d0.Frame)) λ(x1:List UInt8×Bool)=>let E2:=({Blocks:=d0.Blocks,B6:=d0.B6,Frame:=d0.Frame,C0:=1,D7:=cmd,B3:=d0.B6,B4:=d0.Frame,B7:=x1.1}:Q0b); .lv (Qjq E2 at0) λ(x2:Q0e×Bool)=> .lf (E2,[x2.1]))) (let E3:=({Blocks:=d0.Blocks,B6:=d0.B6,Frame:=d0.Frame,C0:=1,D7:=cmd,B3:=d0.B6,B4:=d0.Frame,B7:=[]}:Q0b); .lv (Qjq E3 at0) λ(x3:Q0e×Bool)=> .lf (E3,[x3.1])))))
def Z12(d0:Q0b)(m:(List Int))(cmd:Int)(at0:Int):(Q0b×(List Q0e)):=(Qam d0 m cmd at0).m
abbrev Qlx(d0:Q0b)(m:(List Int))(cmd:Int)(at0:Int):Prop:=(Qam d0 m cmd at0).p
def Z6p:Q09:=mkP 251 [] true [.agg Q0b.sig, .one (.ints .u32), .one (.int .i64), .one (.int .u64)] [] (λargs rows=>Qlx (Q0b.of (args.getD 0 .dead).cells) (argL .u32 args 1) (argI args 2) (argI args 3)) (λargs rows=>Z12 (Q0b.of (args.getD 0 .dead).cells) (argL .u32 args 1) (argI args 2) (argI args 3)) (λX=> .tup [.agg (Q0b.cells (X.1)), .sl 4 (.recs .apiOutput (X.2)) true]) (λX=>[])
theorem Z30:Q01 Tryz.prog Z6p:=Q0j drawn Q0g (.cons Qzo (.cons Qaa (.cons Qxs (.nil)))) Tryz.func251 Tryz.call251 (λargs rows=>Qam (Q0b.of (args.getD 0 .dead).cells) (argL .u32 args 1) (argI args 2) (argI args 3)) [.sl (.recs .apiOutput) true] [] 2 (λ_ _ _=>by kernel_rfl) (λ_ _=>rfl) (λ_ _ h=>h) (λ_ X=>by kernel_rfl)
def Qfj(d0:Q0b)(m:(List Int))(port:Int)(v:Int)(at0:Int):Tree (Q0b×(List Q0e)):=
.br (port==4) (.lf ({Blocks:=d0.Blocks,B6:=v,Frame:=d0.Frame,C0:=d0.C0,D7:=d0.D7,B3:=d0.B3,B4:=d0.B4,B7:=d0.B7},[])) (.br (port==5) (.lf ({Blocks:=d0.Blocks,B6:=d0.B6,Frame:=v,C0:=d0.C0,D7:=d0.D7,B3:=d0.B3,B4:=d0.B4,B7:=d0.B7},[])) (.br (port==6) (let T1:Tree ((Q0b×(List Q0e))):= .an (Qlx d0 m (wrap i64 v) at0) (.lv (Z12 d0 m (wrap i64 v) at0) λ(x0:Q0b×List Q0e)=> .lf (x0.1,x0.2)); .br (v==1) T1 (.br (v==2) T1 (.br (v==0) (.lv (Qep d0) λ(x2:Bool)=> .br x2 (.lf ({Blocks:=d0.Blocks,B6:=d0.B6,Frame:=d0.Frame,C0:=0,D7:=d0.D7,B3:=d0.B3,B4:=d0.B4,B7:=d0.B7},[])) (.lf (d0,[]))) (.lf (d0,[]))))) (.lf (d0,[]))))
def Zcc(d0:Q0b)(m:(List Int))(port:Int)(v:Int)(at0:Int):(Q0b×(List Q0e)):=(Qfj d0 m port v at0).m
abbrev Qrw(d0:Q0b)(m:(List Int))(port:Int)(v:Int)(at0:Int):Prop:=(Qfj d0 m port v at0).p
def Zg0:Q09:=mkP 201 [] true [.agg Q0b.sig, .one (.ints .u32), .one (.int .i64), .one (.int .u32), .one (.int .u64)] [] (λargs rows=>Qrw (Q0b.of (args.getD 0 .dead).cells) (argL .u32 args 1) (argI args 2) (argI args 3) (argI args 4)) (λargs rows=>Zcc (Q0b.of (args.getD 0 .dead).cells) (argL .u32 args 1) (argI args 2) (argI args 3) (argI args 4)) (λX=> .tup [.agg (Q0b.cells (X.1)), .sl 4 (.recs .apiOutput (X.2)) true]) (λX=>[])
theorem Zad:Q01 Tryz.prog Zg0:=Q0j drawn Q0g (.cons Z30 (.cons Qj1 (.nil))) Tryz.func201 Tryz.call201 (λargs rows=>Qfj (Q0b.of (args.getD 0 .dead).cells) (argL .u32 args 1) (argI args 2) (argI args 3) (argI args 4)) [.sl (.recs .apiOutput) true] [] 2 (λ_ _ _=>by kernel_rfl) (λ_ _=>rfl) (λ_ _ h=>h) (λ_ X=>by kernel_rfl)
def Qjv(m:(List Int))(frame:Int):Tree Bool:=
.lv (Q0f m) λ(x0:Int)=> .lf (decide (wrap u64 frame<wrap u64 x0))
def Qfx(m:(List Int))(frame:Int):Bool:=(Qjv m frame).m
def Z63:Q09:=mkR 194 [] true [.one (.ints .u32), .one (.int .u32)] [] (λargs rows=>Qfx (argL .u32 args 0) (argI args 1)) (λX=> .bool X) (λX=>[])
theorem Qp3:Q01 Tryz.prog Z63:=Q0p drawn Q0g (.cons Q1a (.nil)) Tryz.func194 Tryz.call194 (λargs rows=>Qjv (argL .u32 args 0) (argI args 1)) [] [] 2 (λ_ _ _=>by kernel_rfl) (λ_ _=>rfl) (λ_ _=>Tree.free_ok (by kernel_rfl)) (λ_ X=>by kernel_rfl)
def Qft(n:Q0m)(m:(List Int))(at0:Int):Tree (List Q0e):=
.br (decide (n.D9<1)) (.lf ([])) (.br (decide (n.D9>128)) (.lf ([])) (.lv (Qfx m n.Frame) λ(x0:Bool)=> .br (!x0) (.lf ([])) (.an (Q5k m (wrap i64 n.Frame)) (.lv (Q34 m (wrap i64 n.Frame)) λ(x1:List UInt8×Bool)=> .cn (decide ((0:Int)≤(0:Int)∧0≤n.D9∧n.D9≤(x1.1.length:Int))) (.lf ([{C6:=2,At:=at0,B6:=0,D5:=List.take (Int.toNat n.D9-Int.toNat 0) (List.drop (Int.toNat 0) x1.1)}]))))))
def Ze6(n:Q0m)(m:(List Int))(at0:Int):(List Q0e):=(Qft n m at0).m
abbrev Qsg(n:Q0m)(m:(List Int))(at0:Int):Prop:=(Qft n m at0).p
def Zfo:Q09:=mkP 252 [] true [.agg Q0m.sig, .one (.ints .u32), .one (.int .u64)] [] (λargs rows=>Qsg (Q0m.of (args.getD 0 .dead).cells) (argL .u32 args 1) (argI args 2)) (λargs rows=>Ze6 (Q0m.of (args.getD 0 .dead).cells) (argL .u32 args 1) (argI args 2)) (λX=> .sl 4 (.recs .apiOutput X) true) (λX=>[])
theorem Zbk:Q01 Tryz.prog Zfo:=Q0j drawn Q0g (.cons Qp3 (.cons Qaa (.nil))) Tryz.func252 Tryz.call252 (λargs rows=>Qft (Q0m.of (args.getD 0 .dead).cells) (argL .u32 args 1) (argI args 2)) [.sl (.recs .apiOutput) true] [] 2 (λ_ _ _=>by kernel_rfl) (λ_ _=>rfl) (λ_ _ h=>h) (λ_ X=>by kernel_rfl)
def Qjz(n:Q0m)(m:(List Int))(port:Int)(v:Int)(at0:Int):Tree (Q0m×(List Q0e)):=
.br (port==7) (.lf ({Frame:=v,D9:=n.D9,B8:=n.B8,B9:=n.B9,B2:=n.B2,E0:=n.E0},[])) (.br (port==8) (.lf ({Frame:=n.Frame,D9:=v,B8:=n.B8,B9:=n.B9,B2:=n.B2,E0:=n.E0},[])) (.br (port==9) (.br (v==1) (.an (Qsg n m at0) (.lv (Ze6 n m at0) λ(x0:List Q0e)=> .lf (n,x0))) (.br (v==2) (.lv (Qfx m n.Frame) λ(x1:Bool)=> .br x1 (.br (!n.B8) (.br (!n.B2) (.lf ({Frame:=n.Frame,D9:=n.D9,B8:=true,B9:=n.Frame,B2:=n.B2,E0:=n.E0},[])) (.lf (n,[]))) (.lf (n,[]))) (.lf (n,[]))) (.br (v==0) (.lf ({Frame:=n.Frame,D9:=n.D9,B8:=n.B8,B9:=n.B9,B2:=false,E0:=0},[])) (.lf (n,[]))))) (.lf (n,[]))))
def nic_Out(n:Q0m)(m:(List Int))(port:Int)(v:Int)(at0:Int):(Q0m×(List Q0e)):=(Qjz n m port v at0).m
abbrev Qwp(n:Q0m)(m:(List Int))(port:Int)(v:Int)(at0:Int):Prop:=(Qjz n m port v at0).p
def nic_Out_m:Q09:=mkP 202 [] true [.agg Q0m.sig, .one (.ints .u32), .one (.int .i64), .one (.int .u32), .one (.int .u64)] [] (λargs rows=>Qwp (Q0m.of (args.getD 0 .dead).cells) (argL .u32 args 1) (argI args 2) (argI args 3) (argI args 4)) (λargs rows=>nic_Out (Q0m.of (args.getD 0 .dead).cells) (argL .u32 args 1) (argI args 2) (argI args 3) (argI args 4)) (λX=> .tup [.agg (Q0m.cells (X.1)), .sl 4 (.recs .apiOutput (X.2)) true]) (λX=>[])
theorem Zfh:Q01 Tryz.prog nic_Out_m:=Q0j drawn Q0g (.cons Zbk (.cons Qp3 (.nil))) Tryz.func202 Tryz.call202 (λargs rows=>Qjz (Q0m.of (args.getD 0 .dead).cells) (argL .u32 args 1) (argI args 2) (argI args 3) (argI args 4)) [.sl (.recs .apiOutput) true] [] 2 (λ_ _ _=>by kernel_rfl) (λ_ _=>rfl) (λ_ _ h=>h) (λ_ X=>by kernel_rfl)
def Q6g(m:(List Int))(frame:Int)(s:(List UInt8))(z:(Int)×(List Int)):Nat:=(32-z.1).toNat
def Q2n(m:(List Int))(frame:Int)(s:(List UInt8)):Tree ((List Int)×Bool):=
.an (Q08 m) (.lv (Q05 m) λ(x0:List Int)=> .lv (Q1r m frame) λ(x1:Bool)=> .br (!x1) (.lf (x0,false)) (.br ((s.length:Int) !=(128:Int)) (.lf (x0,false)) (.lp inferInstance (Q6g m frame s (0,x0)+1) ((rE (s:List UInt8)∧True∧rE ((wrap i64 (frame*32)):Int)∧rE (0:Int)∧True)∧rE (x0:List Int)∧True) (0,x0) λ(v0:Int×List Int)=> .br (decide (v0.1<32)) (.cn (decide (0≤wrap i64 (4*v0.1)∧wrap i64 (4*v0.1)≤wrap i64 (wrap i64 (4*v0.1)+4)∧wrap i64 (wrap i64 (4*v0.1)+4)≤(s.length:Int))) (let E1:=List.take (Int.toNat (wrap i64 (wrap i64 (4*v0.1)+4))-Int.toNat (wrap i64 (4*v0.1))) (List.drop (Int.toNat (wrap i64 (4*v0.1))) s); .cn (decide ((0:Int)≤(0:Int)∧0<(↑(List.length E1):Int))) (.cn (decide ((0:Int)≤(1:Int)∧1<(↑(List.length E1):Int))) (.cn (decide ((0:Int)≤(2:Int)∧2<(↑(List.length E1):Int))) (.cn (decide ((0:Int)≤(3:Int)∧3<(↑(List.length E1):Int))) (.cn (Nat.beq 1 1&&Nat.blt 0 1&&decide (0≤wrap i64 (wrap i64 (frame*32)+v0.1)∧wrap i64 (wrap i64 (frame*32)+v0.1)<(v0.2.length:Int))) (.nx ((rE (s:List UInt8)∧True∧rE ((wrap i64 (frame*32)):Int)∧rE ((wrap i64 (v0.1+1)):Int)∧True)∧rE ((List.set v0.2 (Int.toNat (wrap i64 (wrap i64 (frame*32)+v0.1))) (ior u32 (ior u32 (ior u32 (wrap u32 (↑(UInt8.toNat (List.getD (List.take (Int.toNat (wrap i64 (wrap i64 (4*v0.1)+4))-Int.toNat (wrap i64 (4*v0.1))) (List.drop (Int.toNat (wrap i64 (4*v0.1))) s)) (Int.toNat 0) (0:UInt8))):Int)) (ishl u32 (wrap u32 (↑(UInt8.toNat (List.getD (List.take (Int.toNat (wrap i64 (wrap i64 (4*v0.1)+4))-Int.toNat (wrap i64 (4*v0.1))) (List.drop (Int.toNat (wrap i64 (4*v0.1))) s)) (Int.toNat 1) (0:UInt8))):Int)) 8)) (ishl u32 (wrap u32 (↑(UInt8.toNat (List.getD (List.take (Int.toNat (wrap i64 (wrap i64 (4*v0.1)+4))-Int.toNat (wrap i64 (4*v0.1))) (List.drop (Int.toNat (wrap i64 (4*v0.1))) s)) (Int.toNat 2) (0:UInt8))):Int)) 16)) (ishl u32 (wrap u32 (↑(UInt8.toNat (List.getD (List.take (Int.toNat (wrap i64 (wrap i64 (4*v0.1)+4))-Int.toNat (wrap i64 (4*v0.1))) (List.drop (Int.toNat (wrap i64 (4*v0.1))) s)) (Int.toNat 3) (0:UInt8))):Int)) 24))):List Int)∧True) (Sum.inl (wrap i64 (v0.1+1),List.set v0.2 (Int.toNat (wrap i64 (wrap i64 (frame*32)+v0.1))) (ior u32 (ior u32 (ior u32 (wrap u32 (↑(UInt8.toNat (List.getD E1 (Int.toNat 0) (0:UInt8))):Int)) (ishl u32 (wrap u32 (↑(UInt8.toNat (List.getD E1 (Int.toNat 1) (0:UInt8))):Int)) 8)) (ishl u32 (wrap u32 (↑(UInt8.toNat (List.getD E1 (Int.toNat 2) (0:UInt8))):Int)) 16)) (ishl u32 (wrap u32 (↑(UInt8.toNat (List.getD E1 (Int.toNat 3) (0:UInt8))):Int)) 24))))))))))) (.lf (Sum.inr (v0.2,true))))))
def Q2v(m:(List Int))(frame:Int)(s:(List UInt8)):((List Int)×Bool):=(Q2n m frame s).m
abbrev Q88(m:(List Int))(frame:Int)(s:(List UInt8)):Prop:=(Q2n m frame s).p
def Qq2:LInv:={
 α:=(Int)×(List Int)
 F:=λst a=>([(2,(lk st 2)),(8, .all 0),(9,(lk st 9)),(26, .int i64 a.1)],[⟨false,25,1, .ints u32 a.2⟩])
 a0:=λst=>((lk st 26).toInt,(Q37 st.rows (rN st 8)))
 ex0:=λst=>[]++[(Q0o (lk st 8) (st.rows.length+0))]
 next:=λst=>((lk st 26).toInt,(Q37 st.rows (rN st 8)))
 ex:=λst=>[]++[(Q0o (lk st 8) (st.rows.length+0))]}
def Qmi:List (Nat×LInv):=[(6,Qq2)]
def Qti:Q09:=mkP 144 [] true [.one (.ints .u32), .one (.int .i64), .one (.str)] [] (λargs rows=>Q88 (argL .u32 args 0) (argI args 1) (argS args 2)) (λargs rows=>Q2v (argL .u32 args 0) (argI args 1) (argS args 2)) (λX=> .tup [.all 0, .bool (X.2)]) (λX=>[⟨false,25,1, .ints .u32 (X.1)⟩])
theorem Qfz:Q01 Tryz.prog Qti:=Q0j drawn Q0g (.cons Q0u (.cons Qfw (.nil))) Tryz.func144 Tryz.call144 (λargs rows=>Q2n (argL .u32 args 0) (argI args 1) (argS args 2)) [.row 25 1 (.ints .u32)] Qmi 3 (λ_ _ _=>by kernel_rfl) (λ_ _=>rfl) (λ_ _ h=>h) (λ_ X=>by kernel_rfl)
def strings_Repeat(s:(List UInt8))(count:Int):(List UInt8):=
Lib.repeatL s count.toNat
def Q8a(s:(List UInt8))(count:Int):Prop:=
0≤count∧count≤9223372036854775807∧s.length*count.toNat≤140737488355328
def Qcu(s:(List UInt8))(count:Int):List D:=[.str s, .int .i64 count]
def Qdf(s:(List UInt8))(count:Int):List Row:=[]
def Q8b(X:(List UInt8)):D:= .str X
def Q82(X:(List UInt8)):List Row:=[]
def Qeb:List PT:=[.one (.str), .one (.int .i64)]
def Qdc:List RT:=[]
def Qo5(args:List D)(rows:List Row):(List UInt8):=strings_Repeat (argS args 0) (argI args 1)
def Qok(args:List D)(rows:List Row):Prop:=Q8a (argS args 0) (argI args 1)
def Qtk:Q09:=mkP 253 [] true Qeb Qdc Qok Qo5 Q8b Q82
theorem Ql7(s:(List UInt8))(count:Int)(hw:Q8a s count):Q2x Tryz.prog 253 (Qcu s count) (Qdf s count) (Q8b (strings_Repeat s count)) (Q82 (strings_Repeat s count)):=by
 exact repeat_of Tryz.strings_Repeat hw.1 hw.2.1 hw.2.2
set_option maxRecDepth 100000 in
theorem Qmv(args:List D)(rows:List Row):Q9v Qeb args 0=Qcu (argS args 0) (argI args 1):=by kernel_rfl
set_option maxRecDepth 100000 in
theorem Ql3(args:List D)(rows:List Row):Q31 Qdc rows 0=Qdf (argS args 0) (argI args 1):=by kernel_rfl
set_option maxRecDepth 100000 in
theorem Qrh(X:(List UInt8)):(ffB (Q8b X)&&ffBR (Q82 X))=true:=by kernel_rfl
theorem Qq5:Q01 Tryz.prog Qtk:=Z1b Tryz.call253 (λargs rows hp=>by rw[Qmv args rows,Ql3 args rows];exact Ql7 (argS args 0) (argI args 1) hp) (λ_ X=>Qrh X)
def Q8n(b:Q07)(m:(List Int))(port:Int)(v:Int):Tree (Q07×(List Int)):=
let T1:Tree ((Q07×(List Int))):= .an (Q08 m) (.lv (Q05 m) λ(x0:List Int)=> .lf (b,x0)); .br (decide (v≥32)) T1 (.cn (decide (0≤v)) (.br (port==10) (.lv (Q0f m) λ(x1:Int)=> .br (decide (wrap i64 v<x1)) (.br (iand u32 b.C5 (ishl u32 1 v)==0) (.an (Q8a [(0:UInt8)] 128) (.lv (strings_Repeat [(0:UInt8)] 128) λ(x2:List UInt8)=> .an (Q88 m (wrap i64 v) x2) (.lv (Q2v m (wrap i64 v) x2) λ(x3:List Int×Bool)=> .lf ({C3:=b.C3,C5:=ior u32 b.C5 (ishl u32 1 v)},x3.1)))) T1) T1) (.br (port==11) (.an (Q08 m) (.lv (Q05 m) λ(x6:List Int)=> .lf ({C3:=b.C3,C5:=Ql9 u32 b.C5 (ishl u32 1 v)},x6))) T1)))
def Qvn(b:Q07)(m:(List Int))(port:Int)(v:Int):(Q07×(List Int)):=(Q8n b m port v).m
abbrev Qi9(b:Q07)(m:(List Int))(port:Int)(v:Int):Prop:=(Q8n b m port v).p
def Z3v:Q09:=mkP 203 [] true [.agg Q07.sig, .one (.ints .u32), .one (.int .i64), .one (.int .u32)] [] (λargs rows=>Qi9 (Q07.of (args.getD 0 .dead).cells) (argL .u32 args 1) (argI args 2) (argI args 3)) (λargs rows=>Qvn (Q07.of (args.getD 0 .dead).cells) (argL .u32 args 1) (argI args 2) (argI args 3)) (λX=> .tup [.agg (Q07.cells (X.1)), .all 0]) (λX=>[⟨false,25,1, .ints .u32 (X.2)⟩])
theorem Z0a:Q01 Tryz.prog Z3v:=Q0j drawn Q0g (.cons Q0u (.cons Q1a (.cons Qfz (.cons Qq5 (.nil))))) Tryz.func203 Tryz.call203 (λargs rows=>Q8n (Q07.of (args.getD 0 .dead).cells) (argL .u32 args 1) (argI args 2) (argI args 3)) [.row 25 1 (.ints .u32)] [] 2 (λ_ _ _=>by kernel_rfl) (λ_ _=>rfl) (λ_ _ h=>h) (λ_ X=>by kernel_rfl)
def Q30(m:Q00)(port:Int)(v:Int)(at0:Int):Tree (Q00×(List Q0e)):=
.br (port==0) (.lf (m,[{C6:=1,At:=at0,B6:=0,D5:=[(λ(n:Int)=>UInt8.ofNat n.toNat) (wrap u8 v)]}])) (.br (port==3) (.lv (Qpd m.A9 v) λ(x0:Q0k)=> .lf ({B1:=m.B1,Mem:=m.Mem,A1:=m.A1,A9:=x0,B0:=m.B0,C2:=m.C2,A0:=m.A0,A4:=m.A4,A2:=m.A2,A6:=m.A6},[])) (let T1:Tree ((Q00×(List Q0e))):= .an (Qrw m.B0 m.Mem port v at0) (.lv (Zcc m.B0 m.Mem port v at0) λ(x1:Q0b×List Q0e)=> .lf ({B1:=m.B1,Mem:=m.Mem,A1:=m.A1,A9:=m.A9,B0:=x1.1,C2:=m.C2,A0:=m.A0,A4:=m.A4,A2:=m.A2,A6:=m.A6},x1.2)); .br (port==4) T1 (.br (port==5) T1 (.br (port==6) T1 (let T2:Tree ((Q00×(List Q0e))):= .an (Qwp m.C2 m.Mem port v at0) (.lv (nic_Out m.C2 m.Mem port v at0) λ(x4:Q0m×List Q0e)=> .lf ({B1:=m.B1,Mem:=m.Mem,A1:=m.A1,A9:=m.A9,B0:=m.B0,C2:=x4.1,A0:=m.A0,A4:=m.A4,A2:=m.A2,A6:=m.A6},x4.2)); .br (port==7) T2 (.br (port==8) T2 (.br (port==9) T2 (let T3:Tree ((Q00×(List Q0e))):= .an (Qi9 m.A0 m.Mem port v) (.lv (Qvn m.A0 m.Mem port v) λ(x7:Q07×List Int)=> .lf ({B1:=m.B1,Mem:=x7.2,A1:=m.A1,A9:=m.A9,B0:=m.B0,C2:=m.C2,A0:=x7.1,A4:=m.A4,A2:=m.A2,A6:=m.A6},[])); .br (port==10) T3 (.br (port==11) T3 (.lf (m,[])))))))))))
def Qfk(m:Q00)(port:Int)(v:Int)(at0:Int):(Q00×(List Q0e)):=(Q30 m port v at0).m
abbrev Qan(m:Q00)(port:Int)(v:Int)(at0:Int):Prop:=(Q30 m port v at0).p
def Qn0:Q09:=Q09.fz<|mkP 135 [] false [.agg Q00.sig, .one (.int .i64), .one (.int .u32), .one (.int .u64)] [] (λargs rows=>Qan (Q00.of (args.getD 0 .dead).cells) (argI args 1) (argI args 2) (argI args 3)) (λargs rows=>Qfk (Q00.of (args.getD 0 .dead).cells) (argI args 1) (argI args 2) (argI args 3)) (λX=> .tup [.agg (Q00.cells (X.1)), .sl 4 (.recs .apiOutput (X.2)) true]) (λX=>[])
theorem Ql:Q01 Tryz.prog Qn0:=fz_ok<|Q0j drawn Q0g (.cons Z8b (.cons Zad (.cons Zfh (.cons Z0a (.nil))))) Tryz.func135 Tryz.call135 (λargs rows=>Q30 (Q00.of (args.getD 0 .dead).cells) (argI args 1) (argI args 2) (argI args 3)) [.sl (.ints .u32) false, .sl (.recs .apiOutput) true] [] 2 (λ_ _ _=>by kernel_rfl) (λ_ _=>rfl) (λ_ _ h=>h) (λh=>by cases h)
def Q6l(m:Q00)(clock:Int):Tree (Q00×(List Q0e)):=
.an (Q08 m.Mem) (.lv (Q05 m.Mem) λ(x0:List Int)=>let E1:=({B1:=m.B1,Mem:=x0,A1:=m.A1,A9:=m.A9,B0:=m.B0,C2:=m.C2,A0:=m.A0,A4:=m.A4,A2:=m.A2,A6:=m.A6}:Q00); .an (Qhe E1) (.lv (Q7w E1) λ(x1:Bool)=> .br (!x1) (.lf (E1,[])) (.an (Qfn E1) (.lv (Qn5 E1) λ(x2:Q00)=> .an (Qrv x2.B1 x2.Mem) (.lv (Zdz x2.B1 x2.Mem) λ(x3:Q02×List Int×Q16)=>let E2:=({B1:=x3.1,Mem:=x3.2.1,A1:=x2.A1,A9:=x2.A9,B0:=x2.B0,C2:=x2.C2,A0:=x2.A0,A4:=x2.A4,A2:=x2.A2,A6:=x2.A6}:Q00); .br (x3.2.2.C6==1) (.an (Qbs E2 x3.2.2.D2 clock) (.lv (Qhk E2 x3.2.2.D2 clock) λ(x4:Q00×Int)=> .br (x3.2.2.D8 !=0) (.cn (Nat.blt 0 1&&decide (0≤x3.2.2.D8∧x3.2.2.D8<(↑16:Int))) (.lf ({B1:={X:=A16.of 0 (List.set (A16.l x4.1.B1.X) x3.2.2.D8.toNat x4.2),Pc:=x4.1.B1.Pc,B5:=x4.1.B1.B5},Mem:=x4.1.Mem,A1:=x4.1.A1,A9:=x4.1.A9,B0:=x4.1.B0,C2:=x4.1.C2,A0:=x4.1.A0,A4:=wrap u64 (x4.1.A4+1),A2:=x4.1.A2,A6:=x4.1.A6},[]))) (.lf ({B1:=x4.1.B1,Mem:=x4.1.Mem,A1:=x4.1.A1,A9:=x4.1.A9,B0:=x4.1.B0,C2:=x4.1.C2,A0:=x4.1.A0,A4:=wrap u64 (x4.1.A4+1),A2:=x4.1.A2,A6:=x4.1.A6},[])))) (.br (x3.2.2.C6==2) (.an (Qan E2 x3.2.2.D2 x3.2.2.Value m.A4) (.lv (Qfk E2 x3.2.2.D2 x3.2.2.Value m.A4) λ(x5:Q00×List Q0e)=> .lf ({B1:=x5.1.B1,Mem:=x5.1.Mem,A1:=x5.1.A1,A9:=x5.1.A9,B0:=x5.1.B0,C2:=x5.1.C2,A0:=x5.1.A0,A4:=wrap u64 (x5.1.A4+1),A2:=x5.1.A2,A6:=x5.1.A6},x5.2))) (.br (x3.2.2.C6==3) (.lf ({B1:=x3.1,Mem:=x3.2.1,A1:=x2.A1,A9:=x2.A9,B0:=x2.B0,C2:=x2.C2,A0:=x2.A0,A4:=wrap u64 (x2.A4+1),A2:=true,A6:=x2.A6},[])) (.br (x3.2.2.C6==4) (.lf ({B1:=x3.1,Mem:=x3.2.1,A1:=x2.A1,A9:=x2.A9,B0:=x2.B0,C2:=x2.C2,A0:=x2.A0,A4:=wrap u64 (x2.A4+1),A2:=x2.A2,A6:=true},[])) (.lf ({B1:=x3.1,Mem:=x3.2.1,A1:=x2.A1,A9:=x2.A9,B0:=x2.B0,C2:=x2.C2,A0:=x2.A0,A4:=wrap u64 (x2.A4+1),A2:=x2.A2,A6:=x2.A6},[]))))))))))
def Qsh(m:Q00)(clock:Int):(Q00×(List Q0e)):=(Q6l m clock).m
abbrev Qhg(m:Q00)(clock:Int):Prop:=(Q6l m clock).p
def Qzu:Q09:=Q09.fz<|mkP 39 [] false [.agg Q00.sig, .one (.int .u32)] [] (λargs rows=>Qhg (Q00.of (args.getD 0 .dead).cells) (argI args 1)) (λargs rows=>Qsh (Q00.of (args.getD 0 .dead).cells) (argI args 1)) (λX=> .tup [.agg (Q00.cells (X.1)), .sl 4 (.recs .apiOutput (X.2)) false]) (λX=>[])
theorem Quz:Q01 Tryz.prog Qzu:=fz_ok<|Q0j drawn Q0g (.cons Q0u (.cons Qw6 (.cons Qtb (.cons Zar (.cons Qmb (.cons Ql (.nil))))))) Tryz.func39 Tryz.call39 (λargs rows=>Q6l (Q00.of (args.getD 0 .dead).cells) (argI args 1)) [.sl (.ints .u32) false, .sl (.recs .apiOutput) false] [] 2 (λ_ _ _=>by kernel_rfl) (λ_ _=>rfl) (λ_ _ h=>h) (λh=>by cases h)
end
end Go.Proofs.YtmalmklaonainaaGreat

/-
  Functions of the program: models, and that its calls come to them (by a program: gen3.py).
-/
import Derived.Test.YtpcbkbalabgnlaaGreatRecordTellsBase
import Derived.Test.YtpcbkbalabgnlaaGreatRecordTellsHand
import Derived.Test.YtpcbkbalabgnlaaGreatRecordTellsYc
import Derived.Test.YtpcbkbalabgnlaaGreatRecordTellsYb
import Derived.Test.YtpcbkbalabgnlaaGreatRecordTellsYa
set_option maxRecDepth 100000
set_option linter.unusedVariables false
set_option linter.unusedSimpArgs false
namespace Go.Proofs.YtpcbkbalabgnlaaGreat
open Go Go.GD Go.IntKind
noncomputable section
def Q3u(m:Q01):Tree Bool:=
.an (Q48 m) (.lv (Q13 m) λ(x0:Bool)=> .br x0 (.br (!m.A7) (.an (Q3f m) (.lv (Q7y m) λ(x1:Bool)=> .br (!x1) (.lf (decide (m.A6<1152921504606846976))) (.lf false))) (.lf false)) (.lf false))
def Q36(m:Q01):Bool:=(Q3u m).m
abbrev Q79(m:Q01):Prop:=(Q3u m).p
def Z4:Q0d:=mkP 96 [] true [.agg Q01.sig] [] (λargs rows=>Q79 (Q01.of (args.getD 0 .dead).cells)) (λargs rows=>Q36 (Q01.of (args.getD 0 .dead).cells)) (λX=> .bool X) (λX=>[])
theorem Qo:Q05 Tryz.prog Z4:=Q0k Q0j Q0i (.cons Qkc (.cons Qnj (.nil))) Tryz.func96 Tryz.call96 (λargs rows=>Q3u (Q01.of (args.getD 0 .dead).cells)) [] [] 2 (λ_ _ _=>by kernel_rfl) (λ_ _=>rfl) (λ_ _ h=>h) (λ_ X=>by kernel_rfl)
def Qcr(m:Q01)(z:(Int)):Nat:=(5-z).toNat
def Q2o(m:Q01):Tree Q01:=
let E1:=({B2:=m.B2,Mem:=m.Mem,A3:=m.A3,A9:=m.A9,B1:=m.B1,C2:=m.C2,A1:=m.A1,A6:=m.A6,A4:=false,A7:=m.A7}:Q01); .br (iand u32 m.B2.B5.a0 (2:Int)==(0:Int)) (.lf (E1)) (.an (Q4n E1) (.lv (Q6n E1) λ(x0:Int)=> .lp inferInstance (Qcr m 0+1) (((rE (0:Nat)∧rE (0:Nat))∧(rE (0:Nat)∧rE (0:Nat))∧rE (x0:Int)∧rE (0:Int)∧True)∧(rE m.B2.X.a0∧rE m.B2.X.a1∧rE m.B2.X.a2∧rE m.B2.X.a3∧rE m.B2.X.a4∧rE m.B2.X.a5∧rE m.B2.X.a6∧rE m.B2.X.a7∧rE m.B2.X.a8∧rE m.B2.X.a9∧rE m.B2.X.a10∧rE m.B2.X.a11∧rE m.B2.X.a12∧rE m.B2.X.a13∧rE m.B2.X.a14∧rE m.B2.X.a15∧rE m.B2.Pc∧rE m.B2.B5.a0∧rE m.B2.B5.a1∧rE m.B2.B5.a2∧rE m.B2.B5.a3∧rE m.B2.B5.a4∧rE m.B2.B5.a5∧rE m.B2.B5.a6∧rE m.B2.B5.a7∧((Els.Nil (Els.ints u32 m.Mem)∨rE (1:Nat))∧rE m.Mem)∧rE m.A3.D1∧rE m.A9.D4∧rE m.A9.C8∧rE m.A9.D3∧rE m.B1.Blocks∧rE m.B1.C1∧rE m.B1.B4∧rE m.B1.C0∧rE m.B1.D7∧rE m.B1.B6∧rE m.B1.B3∧rE m.B1.C4∧rE m.C2.B4∧rE m.C2.E0∧rE m.C2.C7∧rE m.C2.C3∧rE m.C2.B7∧rE m.C2.F1∧rE m.A1.C9∧rE m.A1.C5∧rE m.A6∧rE (false:Bool)∧rE m.A7∧True)∧(mE zM True True)∧True) 0 λ(v0:Int)=> .br (decide (v0<5)) (.cn (decide (0≤v0)) (.br (iand u32 x0 (ishl u32 1 v0) !=0) (.lv (Q59 m.B2 (wrap i64 (16+v0)) 0) λ(x1:Q02)=> .lf (Sum.inr {B2:=x1,Mem:=m.Mem,A3:=m.A3,A9:=m.A9,B1:=m.B1,C2:=m.C2,A1:=m.A1,A6:=m.A6,A4:=false,A7:=m.A7})) (.nx (((rE (0:Nat)∧rE (0:Nat))∧(rE (0:Nat)∧rE (0:Nat))∧rE (x0:Int)∧rE ((wrap i64 (v0+1)):Int)∧True)∧(rE m.B2.X.a0∧rE m.B2.X.a1∧rE m.B2.X.a2∧rE m.B2.X.a3∧rE m.B2.X.a4∧rE m.B2.X.a5∧rE m.B2.X.a6∧rE m.B2.X.a7∧rE m.B2.X.a8∧rE m.B2.X.a9∧rE m.B2.X.a10∧rE m.B2.X.a11∧rE m.B2.X.a12∧rE m.B2.X.a13∧rE m.B2.X.a14∧rE m.B2.X.a15∧rE m.B2.Pc∧rE m.B2.B5.a0∧rE m.B2.B5.a1∧rE m.B2.B5.a2∧rE m.B2.B5.a3∧rE m.B2.B5.a4∧rE m.B2.B5.a5∧rE m.B2.B5.a6∧rE m.B2.B5.a7∧((Els.Nil (Els.ints u32 m.Mem)∨rE (1:Nat))∧rE m.Mem)∧rE m.A3.D1∧rE m.A9.D4∧rE m.A9.C8∧rE m.A9.D3∧rE m.B1.Blocks∧rE m.B1.C1∧rE m.B1.B4∧rE m.B1.C0∧rE m.B1.D7∧rE m.B1.B6∧rE m.B1.B3∧rE m.B1.C4∧rE m.C2.B4∧rE m.C2.E0∧rE m.C2.C7∧rE m.C2.C3∧rE m.C2.B7∧rE m.C2.F1∧rE m.A1.C9∧rE m.A1.C5∧rE m.A6∧rE (false:Bool)∧rE m.A7∧True)∧(mE zM True True)∧True) (Sum.inl (wrap i64 (v0+1)))))) (.lf (Sum.inr E1))))
def Q0y(m:Q01):Q01:=(Q2o m).m
abbrev Q6d(m:Q01):Prop:=(Q2o m).p
def Qyr:LInv:={
 α:=(Int)
 F:=λst a=>([(1, .ptr 0 0 0),(2, .ptr 1 0 0),(3,(lk st 3)),(15, .int i64 a)],[⟨true,41,49, .gen [[(cT st 1 0),(cT st 1 1),(cT st 1 2),(cT st 1 3),(cT st 1 4),(cT st 1 5),(cT st 1 6),(cT st 1 7),(cT st 1 8),(cT st 1 9),(cT st 1 10),(cT st 1 11),(cT st 1 12),(cT st 1 13),(cT st 1 14),(cT st 1 15),(cT st 1 16),(cT st 1 17),(cT st 1 18),(cT st 1 19),(cT st 1 20),(cT st 1 21),(cT st 1 22),(cT st 1 23),(cT st 1 24),(cT st 1 25),(cT st 1 26),(cT st 1 27),(cT st 1 28),(cT st 1 29),(cT st 1 30),(cT st 1 31),(cT st 1 32),(cT st 1 33),(cT st 1 34),(cT st 1 35),(cT st 1 36),(cT st 1 37),(cT st 1 38),(cT st 1 39),(cT st 1 40),(cT st 1 41),(cT st 1 42),(cT st 1 43),(cT st 1 44),(cT st 1 45),(cT st 1 46),(cT st 1 47),(cT st 1 48)]]⟩,⟨true,41,49, .gen [[(cT st 2 0),(cT st 2 1),(cT st 2 2),(cT st 2 3),(cT st 2 4),(cT st 2 5),(cT st 2 6),(cT st 2 7),(cT st 2 8),(cT st 2 9),(cT st 2 10),(cT st 2 11),(cT st 2 12),(cT st 2 13),(cT st 2 14),(cT st 2 15),(cT st 2 16),(cT st 2 17),(cT st 2 18),(cT st 2 19),(cT st 2 20),(cT st 2 21),(cT st 2 22),(cT st 2 23),(cT st 2 24),(cT st 2 25),(cT st 2 26),(cT st 2 27),(cT st 2 28),(cT st 2 29),(cT st 2 30),(cT st 2 31),(cT st 2 32),(cT st 2 33),(cT st 2 34),(cT st 2 35),(cT st 2 36),(cT st 2 37),(cT st 2 38),(cT st 2 39),(cT st 2 40),(cT st 2 41),(cT st 2 42),(cT st 2 43),(cT st 2 44),(cT st 2 45),(cT st 2 46),(cT st 2 47),(cT st 2 48)]]⟩])
 a0:=λst=>(lk st 15).toInt
 ex0:=λst=>[]++[(Q0r (lk st 1) (st.rows.length+0)),(Q0r (lk st 2) (st.rows.length+1))]
 next:=λst=>(lk st 15).toInt
 ex:=λst=>[]++[(Q0r (lk st 1) (st.rows.length+0)),(Q0r (lk st 2) (st.rows.length+1))]}
def Qti:List (Nat×LInv):=[(6,Qyr)]
def Qzq:Q0d:=Q0d.fz<|mkP 97 [] false [.agg Q01.sig] [] (λargs rows=>Q6d (Q01.of (args.getD 0 .dead).cells)) (λargs rows=>Q0y (Q01.of (args.getD 0 .dead).cells)) (λX=> .agg (Q01.cells X)) (λX=>[])
theorem Qmz:Q05 Tryz.prog Qzq:=fz_ok<|Q0k Q0j Q0i (.cons Qjx (.cons Qjc (.nil))) Tryz.func97 Tryz.call97 (λargs rows=>Q2o (Q01.of (args.getD 0 .dead).cells)) [.sl (.ints .u32) false] Qti 3 (λ_ _ _=>by kernel_rfl) (λ_ _=>rfl) (λ_ _ h=>h) (λh=>by cases h)
def Qaj(c:Q0c)(port:Int):Tree (Q0c×Int):=
.br (port==0) (.br (decide (c.D1=[])) (.lf (c,4294967295)) (.cn (decide ((0:Int)≤(0:Int)∧0<(c.D1.length:Int))) (.cn (decide ((0:Int)≤(1:Int)∧1≤(c.D1.length:Int)∧(c.D1.length:Int)≤(c.D1.length:Int))) (.lf ({D1:=List.take (Int.toNat (c.D1.length:Int)-Int.toNat 1) (List.drop (Int.toNat 1) c.D1)},wrap u32 (↑(UInt8.toNat (c.D1.getD (Int.toNat 0) (0:UInt8))):Int)))))) (.br (port==1) (.lf (c,wrap u32 (c.D1.length:Int))) (.lf (c,0)))
def Qp1(c:Q0c)(port:Int):(Q0c×Int):=(Qaj c port).m
theorem Z2y(c:Q0c)(port:Int):(Qaj c port).p:=by
 unfold Tree.p Qaj
 repeat'(first|exact trivial|refine w_br (λ_=> ?_) (λ_=> ?_)|refine w_cn ?_ ?_|refine w_an ?_ ?_|refine w_lv (λ_ _=> ?_)|refine w_nx ?_|refine w_lf ?_|refine And.intro ?_ ?_)
 all_goals(((subst_vars;first|trivial|assumption|omega|((simp(config:={decide:=true,failIfUnchanged:=false}) only[Bool.and_eq_true,Bool.or_eq_true,Bool.and_eq_false_iff,Bool.or_eq_false_iff,Bool.not_eq_true',Bool.not_eq_false',Bool.not_eq_true,Bool.not_eq_false,decide_eq_true_eq,decide_eq_false_iff_not,Q6q,Q4d,Q6r,Q4c,beq_iff_eq,beq_eq_false_iff_ne,bne_iff_ne,bne_eq_false_iff_eq,ne_eq,List.all_cons,List.all_nil,D.plain,List.length_cons,List.length_nil,List.length_append,List.length_set,List.length_replicate,IntKind.wrap_i64,IntKind.wrap_u64,IntKind.wrap_u32,IntKind.wrap_i32,IntKind.wrap_u8,true_and,and_true,or_false,false_or,or_true,true_or,not_true_eq_false,not_false_eq_true,Prod.fst,Prod.snd]at*);first|done|assumption|omega)|((simp(config:={decide:=true,failIfUnchanged:=false}) only[Bool.and_eq_true,Bool.or_eq_true,Bool.and_eq_false_iff,Bool.or_eq_false_iff,Bool.not_eq_true',Bool.not_eq_false',Bool.not_eq_true,Bool.not_eq_false,decide_eq_true_eq,decide_eq_false_iff_not,Q6q,Q4d,Q6r,Q4c,beq_iff_eq,beq_eq_false_iff_ne,bne_iff_ne,bne_eq_false_iff_eq,ne_eq,List.all_cons,List.all_nil,D.plain,List.length_cons,List.length_nil,List.length_append,List.length_set,List.length_replicate,IntKind.wrap_i64,IntKind.wrap_u64,IntKind.wrap_u32,IntKind.wrap_i32,IntKind.wrap_u8,true_and,and_true,or_false,false_or,or_true,true_or,not_true_eq_false,not_false_eq_true,Prod.fst,Prod.snd]at*);simp only[←List.length_pos_iff]at*;omega)|(simp_all;done)|(have:= @Qjh;simp_all;try omega))))
def Zcv:Q0d:=mkR 137 [] true [.agg Q0c.sig, .one (.int .i64)] [] (λargs rows=>Qp1 (Q0c.of (args.getD 0 .dead).cells) (argI args 1)) (λX=> .tup [.agg (Q0c.cells (X.1)), .int .u32 (X.2)]) (λX=>[])
theorem Z7m:Q05 Tryz.prog Zcv:=Q11 Q0j Q0i (.nil) Tryz.func137 Tryz.call137 (λargs rows=>Qaj (Q0c.of (args.getD 0 .dead).cells) (argI args 1)) [] [] 2 (λ_ _ _=>by kernel_rfl) (λ_ _=>rfl) (λargs rows=>Z2y (Q0c.of (args.getD 0 .dead).cells) (argI args 1)) (λ_ X=>by kernel_rfl)
def Qpa(t:Q0f):Tree Int:=
.br t.D3 (.lf 1) (.lf 0)
def Qz1(t:Q0f):Int:=(Qpa t).m
def Zma:Q0d:=mkR 138 [] true [.agg Q0f.sig] [] (λargs rows=>Qz1 (Q0f.of (args.getD 0 .dead).cells)) (λX=> .int .u32 X) (λX=>[])
theorem Zh3:Q05 Tryz.prog Zma:=Q11 Q0j Q0i (.nil) Tryz.func138 Tryz.call138 (λargs rows=>Qpa (Q0f.of (args.getD 0 .dead).cells)) [] [] 2 (λ_ _ _=>by kernel_rfl) (λ_ _=>rfl) (λ_ _=>Tree.free_ok (by kernel_rfl)) (λ_ X=>by kernel_rfl)
def Qt9(d0:Q0e)(port:Int):Tree Int:=
.br (port==4) (.lf d0.C1) (.br (port==5) (.lf d0.B4) (.br (port==6) (.lf (wrap u32 d0.C0)) (.lf 0)))
def Qvj(d0:Q0e)(port:Int):Int:=(Qt9 d0 port).m
def disk_In_m:Q0d:=mkR 139 [] true [.agg Q0e.sig, .one (.int .i64)] [] (λargs rows=>Qvj (Q0e.of (args.getD 0 .dead).cells) (argI args 1)) (λX=> .int .u32 X) (λX=>[])
theorem Zke:Q05 Tryz.prog disk_In_m:=Q11 Q0j Q0i (.nil) Tryz.func139 Tryz.call139 (λargs rows=>Qt9 (Q0e.of (args.getD 0 .dead).cells) (argI args 1)) [] [] 2 (λ_ _ _=>by kernel_rfl) (λ_ _=>rfl) (λ_ _=>Tree.free_ok (by kernel_rfl)) (λ_ X=>by kernel_rfl)
def Qsg(n:Q0n)(port:Int):Tree Int:=
.br (port==7) (.lf n.B4) (.br (port==8) (.lf n.F1) (.br (port==9) (.br n.C7 (.br n.B7 (.lf (wrap u32 (wrap u32 ((0:Int)+(1:Int))+2))) (.lf (wrap u32 ((0:Int)+(1:Int))))) (.br n.B7 (.lf (wrap u32 ((0:Int)+(2:Int)))) (.lf 0))) (.lf 0)))
def Z2c(n:Q0n)(port:Int):Int:=(Qsg n port).m
def nic_In_m:Q0d:=mkR 140 [] true [.agg Q0n.sig, .one (.int .i64)] [] (λargs rows=>Z2c (Q0n.of (args.getD 0 .dead).cells) (argI args 1)) (λX=> .int .u32 X) (λX=>[])
theorem nic_In_ok:Q05 Tryz.prog nic_In_m:=Q11 Q0j Q0i (.nil) Tryz.func140 Tryz.call140 (λargs rows=>Qsg (Q0n.of (args.getD 0 .dead).cells) (argI args 1)) [] [] 2 (λ_ _ _=>by kernel_rfl) (λ_ _=>rfl) (λ_ _=>Tree.free_ok (by kernel_rfl)) (λ_ X=>by kernel_rfl)
def Q7m(b:Q07)(port:Int):Tree Int:=
.br (port==10) (.lf b.C9) (.br (port==11) (.an (Q6f b) (.lv (Qe3 b) λ(x0:Int)=> .lf (wrap u32 x0))) (.lf 0))
def Qp(b:Q07)(port:Int):Int:=(Q7m b port).m
abbrev Qc9(b:Q07)(port:Int):Prop:=(Q7m b port).p
def Zc2:Q0d:=mkP 141 [] true [.agg Q07.sig, .one (.int .i64)] [] (λargs rows=>Qc9 (Q07.of (args.getD 0 .dead).cells) (argI args 1)) (λargs rows=>Qp (Q07.of (args.getD 0 .dead).cells) (argI args 1)) (λX=> .int .u32 X) (λX=>[])
theorem Z7n:Q05 Tryz.prog Zc2:=Q0k Q0j Q0i (.cons Qn0 (.nil)) Tryz.func141 Tryz.call141 (λargs rows=>Q7m (Q07.of (args.getD 0 .dead).cells) (argI args 1)) [] [] 2 (λ_ _ _=>by kernel_rfl) (λ_ _=>rfl) (λ_ _ h=>h) (λ_ X=>by kernel_rfl)
def Q2l(m:Q01)(port:Int)(clock:Int):Tree (Q01×Int):=
let T1:Tree ((Q01×Int)):= .lv (Qp1 m.A3 port) λ(x0:Q0c×Int)=> .lf ({B2:=m.B2,Mem:=m.Mem,A3:=x0.1,A9:=m.A9,B1:=m.B1,C2:=m.C2,A1:=m.A1,A6:=m.A6,A4:=m.A4,A7:=m.A7},x0.2); .br (port==0) T1 (.br (port==1) T1 (.br (port==2) (.lf (m,clock)) (.br (port==3) (.lv (Qz1 m.A9) λ(x2:Int)=> .lf (m,x2)) (.br (port==4) (.lv (Qvj m.B1 port) λ(x3:Int)=> .lf (m,x3)) (.br (port==5) (.lv (Qvj m.B1 port) λ(x4:Int)=> .lf (m,x4)) (.br (port==6) (.lv (Qvj m.B1 port) λ(x5:Int)=> .lf (m,x5)) (.br (port==7) (.lv (Z2c m.C2 port) λ(x6:Int)=> .lf (m,x6)) (.br (port==8) (.lv (Z2c m.C2 port) λ(x7:Int)=> .lf (m,x7)) (.br (port==9) (.lv (Z2c m.C2 port) λ(x8:Int)=> .lf (m,x8)) (let T2:Tree ((Q01×Int)):= .an (Qc9 m.A1 port) (.lv (Qp m.A1 port) λ(x9:Int)=> .lf (m,x9)); .br (port==10) T2 (.br (port==11) T2 (.lf (m,0)))))))))))))
def Q1k(m:Q01)(port:Int)(clock:Int):(Q01×Int):=(Q2l m port clock).m
abbrev Q5n(m:Q01)(port:Int)(clock:Int):Prop:=(Q2l m port clock).p
def Qt6:Q0d:=Q0d.fz<|mkP 99 [] false [.agg Q01.sig, .one (.int .i64), .one (.int .u32)] [] (λargs rows=>Q5n (Q01.of (args.getD 0 .dead).cells) (argI args 1) (argI args 2)) (λargs rows=>Q1k (Q01.of (args.getD 0 .dead).cells) (argI args 1) (argI args 2)) (λX=> .tup [.agg (Q01.cells (X.1)), .int .u32 (X.2)]) (λX=>[])
theorem Qqw:Q05 Tryz.prog Qt6:=fz_ok<|Q0k Q0j Q0i (.cons Z7m (.cons Zh3 (.cons Zke (.cons nic_In_ok (.cons Z7n (.nil)))))) Tryz.func99 Tryz.call99 (λargs rows=>Q2l (Q01.of (args.getD 0 .dead).cells) (argI args 1) (argI args 2)) [.sl (.ints .u32) false] [] 2 (λ_ _ _=>by kernel_rfl) (λ_ _=>rfl) (λ_ _ h=>h) (λh=>by cases h)
def Qm3(t:Q0f)(deadline:Int):Tree Q0f:=
.lf ({D4:=deadline !=0,C8:=deadline,D3:=false})
def Ql6(t:Q0f)(deadline:Int):Q0f:=(Qm3 t deadline).m
def Zhp:Q0d:=mkR 142 [] true [.agg Q0f.sig, .one (.int .u32)] [] (λargs rows=>Ql6 (Q0f.of (args.getD 0 .dead).cells) (argI args 1)) (λX=> .agg (Q0f.cells X)) (λX=>[])
theorem Zeu:Q05 Tryz.prog Zhp:=Q11 Q0j Q0i (.nil) Tryz.func142 Tryz.call142 (λargs rows=>Qm3 (Q0f.of (args.getD 0 .dead).cells) (argI args 1)) [] [] 2 (λ_ _ _=>by kernel_rfl) (λ_ _=>rfl) (λ_ _=>Tree.free_ok (by kernel_rfl)) (λ_ X=>by kernel_rfl)
def Qe9(m:(List Int))(frame:Int):Tree Bool:=
.lv (Q0v m) λ(x0:Int)=> .lf (decide (wrap u64 frame<wrap u64 x0))
def Qag(m:(List Int))(frame:Int):Bool:=(Qe9 m frame).m
def Z8g:Q0d:=mkR 124 [] true [.one (.ints .u32), .one (.int .u32)] [] (λargs rows=>Qag (argL .u32 args 0) (argI args 1)) (λX=> .bool X) (λX=>[])
theorem Qqk:Q05 Tryz.prog Z8g:=Q11 Q0j Q0i (.cons Q54 (.nil)) Tryz.func124 Tryz.call124 (λargs rows=>Qe9 (argL .u32 args 0) (argI args 1)) [] [] 2 (λ_ _ _=>by kernel_rfl) (λ_ _=>rfl) (λ_ _=>Tree.free_ok (by kernel_rfl)) (λ_ X=>by kernel_rfl)
def Q9d(m:(List Int))(frame:Int):Tree Bool:=
.br (decide (frame≥0)) (.lv (Q0v m) λ(x0:Int)=> .lf (decide (frame<x0))) (.lf false)
def Q69(m:(List Int))(frame:Int):Bool:=(Q9d m frame).m
def Qy0:Q0d:=mkR 173 [] true [.one (.ints .u32), .one (.int .i64)] [] (λargs rows=>Q69 (argL .u32 args 0) (argI args 1)) (λX=> .bool X) (λX=>[])
theorem Qkz:Q05 Tryz.prog Qy0:=Q11 Q0j Q0i (.cons Q54 (.nil)) Tryz.func173 Tryz.call173 (λargs rows=>Q9d (argL .u32 args 0) (argI args 1)) [] [] 2 (λ_ _ _=>by kernel_rfl) (λ_ _=>rfl) (λ_ _=>Tree.free_ok (by kernel_rfl)) (λ_ X=>by kernel_rfl)
def Qmv(words:(List Int))(z:(Int)×(List Int)):Prop:=0≤z.1∧z.1≤words.length∧(z.2.length:Int)=4*z.1
def Q8f(words:(List Int))(z:(Int)×(List Int)):Nat:=(words.length-z.1).toNat
def Q5u(words:(List Int)):Tree (List UInt8):=
.cn (Nat.blt 0 1&&Nat.beq 1 1&&List.all [D.int u8 0] D.plain&&decide ((0:Int)≤(0:Int)∧0≤wrap i64 (4*(words.length:Int))∧wrap i64 (4*(words.length:Int))≤9223372036854775807∧(↑1:Int)*wrap i64 (4*(words.length:Int))≤140737488355328)) (.lp inferInstance (Q8f words (0,[])+1) ((True∧((Els.Nil (Els.ints u32 words)∨rE (1:Nat))∧rE (words:List Int))∧rE ((words.length:Int):Int)∧rE (0:Int)∧True)∧rE ([]:List Int)∧True) (0,[]) λ(v0:Int×List Int)=> .br (decide (v0.1<(words.length:Int))) (.cn (Nat.beq 1 1&&Nat.blt 0 1&&decide (0≤v0.1∧v0.1<(words.length:Int))) (.cn (decide (1*(v0.2.length+4)≤140737488355328)) (let E1:=words.getD v0.1.toNat 0; .nx ((True∧((Els.Nil (Els.ints u32 words)∨rE (1:Nat))∧rE (words:List Int))∧rE ((words.length:Int):Int)∧rE ((wrap i64 (v0.1+1)):Int)∧True)∧rE ((v0.2++[wrap u8 (words.getD v0.1.toNat 0),wrap u8 (ishr u32 (words.getD v0.1.toNat 0) 8),wrap u8 (ishr u32 (words.getD v0.1.toNat 0) 16),wrap u8 (ishr u32 (words.getD v0.1.toNat 0) 24)]):List Int)∧True) (Sum.inl (wrap i64 (v0.1+1),v0.2++[wrap u8 E1,wrap u8 (ishr u32 E1 8),wrap u8 (ishr u32 E1 16),wrap u8 (ishr u32 E1 24)]))))) (.lf (Sum.inr (bytesOf v0.2))))
def Z2e(words:(List Int)):(List UInt8):=(Q5u words).m
def Q45(words:(List Int)):Prop:=
words.length≤1000000000000
theorem Qzh(words:(List Int))(hw:Q45 words):(Q5u words).p:=by
 simp only[Q45]at hw
 unfold Tree.p Q5u
 repeat'(first|refine w_lp (inv:=Qmv words) (μ:=Q8f words) ?_ (Nat.lt_succ_self _) (λ_ _=> ?_)|exact trivial|refine w_br (λ_=> ?_) (λ_=> ?_)|refine w_cn ?_ ?_|refine w_an ?_ ?_|refine w_lv (λ_ _=> ?_)|refine w_nx ?_|refine w_lf ?_|refine And.intro ?_ ?_)
 all_goals((try simp only[Qmv,Q8f]at*);((subst_vars;first|trivial|assumption|omega|((simp(config:={decide:=true,failIfUnchanged:=false}) only[Bool.and_eq_true,Bool.or_eq_true,Bool.and_eq_false_iff,Bool.or_eq_false_iff,Bool.not_eq_true',Bool.not_eq_false',Bool.not_eq_true,Bool.not_eq_false,decide_eq_true_eq,decide_eq_false_iff_not,Q6q,Q4d,Q6r,Q4c,beq_iff_eq,beq_eq_false_iff_ne,bne_iff_ne,bne_eq_false_iff_eq,ne_eq,List.all_cons,List.all_nil,D.plain,List.length_cons,List.length_nil,List.length_append,List.length_set,List.length_replicate,IntKind.wrap_i64,IntKind.wrap_u64,IntKind.wrap_u32,IntKind.wrap_i32,IntKind.wrap_u8,true_and,and_true,or_false,false_or,or_true,true_or,not_true_eq_false,not_false_eq_true,Prod.fst,Prod.snd]at*);first|done|assumption|omega)|((simp(config:={decide:=true,failIfUnchanged:=false}) only[Bool.and_eq_true,Bool.or_eq_true,Bool.and_eq_false_iff,Bool.or_eq_false_iff,Bool.not_eq_true',Bool.not_eq_false',Bool.not_eq_true,Bool.not_eq_false,decide_eq_true_eq,decide_eq_false_iff_not,Q6q,Q4d,Q6r,Q4c,beq_iff_eq,beq_eq_false_iff_ne,bne_iff_ne,bne_eq_false_iff_eq,ne_eq,List.all_cons,List.all_nil,D.plain,List.length_cons,List.length_nil,List.length_append,List.length_set,List.length_replicate,IntKind.wrap_i64,IntKind.wrap_u64,IntKind.wrap_u32,IntKind.wrap_i32,IntKind.wrap_u8,true_and,and_true,or_false,false_or,or_true,true_or,not_true_eq_false,not_false_eq_true,Prod.fst,Prod.snd]at*);simp only[←List.length_pos_iff]at*;omega)|(simp_all;done)|(have:= @Qjh;simp_all;try omega))))
def Z3z:LInv:={
 α:=(Int)×(List Int)
 F:=λst a=>([(3, .all 0),(10,(lk st 10)),(11,(lk st 11)),(12, .int i64 a.1)],[⟨false,5,1, .ints u8 a.2⟩])
 a0:=λst=>((lk st 12).toInt,(Q67 st.rows (rN st 3)))
 ex0:=λst=>[]++[(Q0r (lk st 3) (st.rows.length+0))]
 next:=λst=>((lk st 12).toInt,(Q67 st.rows (rN st 3)))
 ex:=λst=>[]++[(Q0r (lk st 3) (st.rows.length+0))]}
def Qyi:List (Nat×LInv):=[(3,Z3z)]
def Za4:Q0d:=mkP 174 [] true [.one (.ints .u32)] [] (λargs rows=>Q45 (argL .u32 args 0)) (λargs rows=>Z2e (argL .u32 args 0)) (λX=> .str X) (λX=>[])
theorem Z4l:Q05 Tryz.prog Za4:=Q0k Q0j Q0i (.nil) Tryz.func174 Tryz.call174 (λargs rows=>Q5u (argL .u32 args 0)) [] Qyi 3 (λ_ _ _=>by kernel_rfl) (λ_ _=>rfl) (λargs rows h=>Qzh (argL .u32 args 0) h) (λ_ X=>by kernel_rfl)
def Q3y(m:(List Int))(frame:Int):Tree ((List UInt8)×Bool):=
.lv (Q69 m frame) λ(x0:Bool)=> .br (!x0) (.lf ([],false)) (.cn (Nat.beq 1 1&&Nat.blt 0 1&&decide (0≤wrap i64 (frame*32)∧wrap i64 (frame*32)≤wrap i64 (wrap i64 (frame*32)+32)∧wrap i64 (wrap i64 (frame*32)+32)≤(m.length:Int))) (let E1:=List.take (Int.toNat (wrap i64 (wrap i64 (frame*32)+32))-Int.toNat (wrap i64 (frame*32))) (List.drop (Int.toNat (wrap i64 (frame*32))) m); .an (Q45 E1) (.lv (Z2e E1) λ(x1:List UInt8)=> .lf (x1,true))))
def Q6w(m:(List Int))(frame:Int):((List UInt8)×Bool):=(Q3y m frame).m
abbrev Q6v(m:(List Int))(frame:Int):Prop:=(Q3y m frame).p
def Z79:Q0d:=mkP 127 [] true [.one (.ints .u32), .one (.int .i64)] [] (λargs rows=>Q6v (argL .u32 args 0) (argI args 1)) (λargs rows=>Q6w (argL .u32 args 0) (argI args 1)) (λX=> .tup [.str (X.1), .bool (X.2)]) (λX=>[])
theorem Qkb:Q05 Tryz.prog Z79:=Q0k Q0j Q0i (.cons Qkz (.cons Z4l (.nil))) Tryz.func127 Tryz.call127 (λargs rows=>Q3y (argL .u32 args 0) (argI args 1)) [] [] 2 (λ_ _ _=>by kernel_rfl) (λ_ _=>rfl) (λ_ _ h=>h) (λ_ X=>by kernel_rfl)
def Qql(d0:Q0e)(at0:Int):Tree (Q04×Bool):=
.br (d0.C0 !=1) (.lf ({B8:=0,At:=0,C1:=0,C6:=[]},false)) (.br (d0.D7==1) (.lf ({B8:=3,At:=at0,C1:=d0.B6,C6:=[]},true)) (.br (d0.D7==2) (.lf ({B8:=4,At:=at0,C1:=d0.B6,C6:=d0.C4},true)) (.lf ({B8:=0,At:=0,C1:=0,C6:=[]},false))))
def Qjw(d0:Q0e)(at0:Int):(Q04×Bool):=(Qql d0 at0).m
def Z3s:Q0d:=mkR 235 [] true [.agg Q0e.sig, .one (.int .u64)] [] (λargs rows=>Qjw (Q0e.of (args.getD 0 .dead).cells) (argI args 1)) (λX=> .tup [.agg (Q04.cells (X.1)), .bool (X.2)]) (λX=>[])
theorem Z2q:Q05 Tryz.prog Z3s:=Q11 Q0j Q0i (.nil) Tryz.func235 Tryz.call235 (λargs rows=>Qql (Q0e.of (args.getD 0 .dead).cells) (argI args 1)) [] [] 2 (λ_ _ _=>by kernel_rfl) (λ_ _=>rfl) (λ_ _=>Tree.free_ok (by kernel_rfl)) (λ_ X=>by kernel_rfl)
def Q7j(d0:Q0e)(m:(List Int))(cmd:Int)(at0:Int):Tree (Q0e×(List Q04)):=
.br (d0.C0 !=0) (.lf (d0,[])) (let T1:Tree ((Q0e×(List Q04))):= .lf ({Blocks:=d0.Blocks,C1:=d0.C1,B4:=d0.B4,C0:=3,D7:=d0.D7,B6:=d0.B6,B3:=d0.B3,C4:=d0.C4},[]); .br (decide (d0.C1≥d0.Blocks)) T1 (.lv (Qag m d0.B4) λ(x0:Bool)=> .br (!x0) T1 (.br (cmd==2) (.an (Q6v m (wrap i64 d0.B4)) (.lv (Q6w m (wrap i64 d0.B4)) λ(x1:List UInt8×Bool)=>let E2:=({Blocks:=d0.Blocks,C1:=d0.C1,B4:=d0.B4,C0:=1,D7:=cmd,B6:=d0.C1,B3:=d0.B4,C4:=x1.1}:Q0e); .lv (Qjw E2 at0) λ(x2:Q04×Bool)=> .lf (E2,[x2.1]))) (let E3:=({Blocks:=d0.Blocks,C1:=d0.C1,B4:=d0.B4,C0:=1,D7:=cmd,B6:=d0.C1,B3:=d0.B4,C4:=[]}:Q0e); .lv (Qjw E3 at0) λ(x3:Q04×Bool)=> .lf (E3,[x3.1])))))
def Qur(d0:Q0e)(m:(List Int))(cmd:Int)(at0:Int):(Q0e×(List Q04)):=(Q7j d0 m cmd at0).m
abbrev Qc1(d0:Q0e)(m:(List Int))(cmd:Int)(at0:Int):Prop:=(Q7j d0 m cmd at0).p
def Zap:Q0d:=mkP 195 [] true [.agg Q0e.sig, .one (.ints .u32), .one (.int .i64), .one (.int .u64)] [] (λargs rows=>Qc1 (Q0e.of (args.getD 0 .dead).cells) (argL .u32 args 1) (argI args 2) (argI args 3)) (λargs rows=>Qur (Q0e.of (args.getD 0 .dead).cells) (argL .u32 args 1) (argI args 2) (argI args 3)) (λX=> .tup [.agg (Q0e.cells (X.1)), .sl 4 (.recs .apiOutput (X.2)) true]) (λX=>[])
theorem Z95:Q05 Tryz.prog Zap:=Q0k Q0j Q0i (.cons Qqk (.cons Qkb (.cons Z2q (.nil)))) Tryz.func195 Tryz.call195 (λargs rows=>Q7j (Q0e.of (args.getD 0 .dead).cells) (argL .u32 args 1) (argI args 2) (argI args 3)) [.sl (.recs .apiOutput) true] [] 2 (λ_ _ _=>by kernel_rfl) (λ_ _=>rfl) (λ_ _ h=>h) (λ_ X=>by kernel_rfl)
def Qb3(d0:Q0e)(m:(List Int))(port:Int)(v:Int)(at0:Int):Tree (Q0e×(List Q04)):=
.br (port==4) (.lf ({Blocks:=d0.Blocks,C1:=v,B4:=d0.B4,C0:=d0.C0,D7:=d0.D7,B6:=d0.B6,B3:=d0.B3,C4:=d0.C4},[])) (.br (port==5) (.lf ({Blocks:=d0.Blocks,C1:=d0.C1,B4:=v,C0:=d0.C0,D7:=d0.D7,B6:=d0.B6,B3:=d0.B3,C4:=d0.C4},[])) (.br (port==6) (let T1:Tree ((Q0e×(List Q04))):= .an (Qc1 d0 m (wrap i64 v) at0) (.lv (Qur d0 m (wrap i64 v) at0) λ(x0:Q0e×List Q04)=> .lf (x0.1,x0.2)); .br (v==1) T1 (.br (v==2) T1 (.br (v==0) (.lv (Qaa d0) λ(x2:Bool)=> .br x2 (.lf ({Blocks:=d0.Blocks,C1:=d0.C1,B4:=d0.B4,C0:=0,D7:=d0.D7,B6:=d0.B6,B3:=d0.B3,C4:=d0.C4},[])) (.lf (d0,[]))) (.lf (d0,[]))))) (.lf (d0,[]))))
def Qzc(d0:Q0e)(m:(List Int))(port:Int)(v:Int)(at0:Int):(Q0e×(List Q04)):=(Qb3 d0 m port v at0).m
abbrev Qfr(d0:Q0e)(m:(List Int))(port:Int)(v:Int)(at0:Int):Prop:=(Qb3 d0 m port v at0).p
def Zld:Q0d:=mkP 143 [] true [.agg Q0e.sig, .one (.ints .u32), .one (.int .i64), .one (.int .u32), .one (.int .u64)] [] (λargs rows=>Qfr (Q0e.of (args.getD 0 .dead).cells) (argL .u32 args 1) (argI args 2) (argI args 3) (argI args 4)) (λargs rows=>Qzc (Q0e.of (args.getD 0 .dead).cells) (argL .u32 args 1) (argI args 2) (argI args 3) (argI args 4)) (λX=> .tup [.agg (Q0e.cells (X.1)), .sl 4 (.recs .apiOutput (X.2)) true]) (λX=>[])
theorem Zgz:Q05 Tryz.prog Zld:=Q0k Q0j Q0i (.cons Z95 (.cons Qoe (.nil))) Tryz.func143 Tryz.call143 (λargs rows=>Qb3 (Q0e.of (args.getD 0 .dead).cells) (argL .u32 args 1) (argI args 2) (argI args 3) (argI args 4)) [.sl (.recs .apiOutput) true] [] 2 (λ_ _ _=>by kernel_rfl) (λ_ _=>rfl) (λ_ _ h=>h) (λ_ X=>by kernel_rfl)
def Qg5(m:(List Int))(frame:Int):Tree Bool:=
.lv (Q0v m) λ(x0:Int)=> .lf (decide (wrap u64 frame<wrap u64 x0))
def Qbg(m:(List Int))(frame:Int):Bool:=(Qg5 m frame).m
def Zbm:Q0d:=mkR 126 [] true [.one (.ints .u32), .one (.int .u32)] [] (λargs rows=>Qbg (argL .u32 args 0) (argI args 1)) (λX=> .bool X) (λX=>[])
theorem Qme:Q05 Tryz.prog Zbm:=Q11 Q0j Q0i (.cons Q54 (.nil)) Tryz.func126 Tryz.call126 (λargs rows=>Qg5 (argL .u32 args 0) (argI args 1)) [] [] 2 (λ_ _ _=>by kernel_rfl) (λ_ _=>rfl) (λ_ _=>Tree.free_ok (by kernel_rfl)) (λ_ X=>by kernel_rfl)
def Qbe(n:Q0n)(m:(List Int))(at0:Int):Tree (List Q04):=
.br (decide (n.E0<1)) (.lf ([])) (.br (decide (n.E0>128)) (.lf ([])) (.lv (Qbg m n.B4) λ(x0:Bool)=> .br (!x0) (.lf ([])) (.an (Q6v m (wrap i64 n.B4)) (.lv (Q6w m (wrap i64 n.B4)) λ(x1:List UInt8×Bool)=> .cn (decide ((0:Int)≤(0:Int)∧0≤n.E0∧n.E0≤(x1.1.length:Int))) (.lf ([{B8:=2,At:=at0,C1:=0,C6:=List.take (Int.toNat n.E0-Int.toNat 0) (List.drop (Int.toNat 0) x1.1)}]))))))
def Z8m(n:Q0n)(m:(List Int))(at0:Int):(List Q04):=(Qbe n m at0).m
abbrev Qg(n:Q0n)(m:(List Int))(at0:Int):Prop:=(Qbe n m at0).p
def Zkx:Q0d:=mkP 196 [] true [.agg Q0n.sig, .one (.ints .u32), .one (.int .u64)] [] (λargs rows=>Qg (Q0n.of (args.getD 0 .dead).cells) (argL .u32 args 1) (argI args 2)) (λargs rows=>Z8m (Q0n.of (args.getD 0 .dead).cells) (argL .u32 args 1) (argI args 2)) (λX=> .sl 4 (.recs .apiOutput X) true) (λX=>[])
theorem Zhm:Q05 Tryz.prog Zkx:=Q0k Q0j Q0i (.cons Qme (.cons Qkb (.nil))) Tryz.func196 Tryz.call196 (λargs rows=>Qbe (Q0n.of (args.getD 0 .dead).cells) (argL .u32 args 1) (argI args 2)) [.sl (.recs .apiOutput) true] [] 2 (λ_ _ _=>by kernel_rfl) (λ_ _=>rfl) (λ_ _ h=>h) (λ_ X=>by kernel_rfl)
def Qdk(n:Q0n)(m:(List Int))(port:Int)(v:Int)(at0:Int):Tree (Q0n×(List Q04)):=
.br (port==7) (.lf ({B4:=v,E0:=n.E0,C7:=n.C7,C3:=n.C3,B7:=n.B7,F1:=n.F1},[])) (.br (port==8) (.lf ({B4:=n.B4,E0:=v,C7:=n.C7,C3:=n.C3,B7:=n.B7,F1:=n.F1},[])) (.br (port==9) (.br (v==1) (.an (Qg n m at0) (.lv (Z8m n m at0) λ(x0:List Q04)=> .lf (n,x0))) (.br (v==2) (.lv (Qbg m n.B4) λ(x1:Bool)=> .br x1 (.br (!n.C7) (.br (!n.B7) (.lf ({B4:=n.B4,E0:=n.E0,C7:=true,C3:=n.B4,B7:=n.B7,F1:=n.F1},[])) (.lf (n,[]))) (.lf (n,[]))) (.lf (n,[]))) (.br (v==0) (.lf ({B4:=n.B4,E0:=n.E0,C7:=n.C7,C3:=n.C3,B7:=false,F1:=0},[])) (.lf (n,[]))))) (.lf (n,[]))))
def Z8r(n:Q0n)(m:(List Int))(port:Int)(v:Int)(at0:Int):(Q0n×(List Q04)):=(Qdk n m port v at0).m
abbrev Qje(n:Q0n)(m:(List Int))(port:Int)(v:Int)(at0:Int):Prop:=(Qdk n m port v at0).p
def nic_Out_m:Q0d:=mkP 144 [] true [.agg Q0n.sig, .one (.ints .u32), .one (.int .i64), .one (.int .u32), .one (.int .u64)] [] (λargs rows=>Qje (Q0n.of (args.getD 0 .dead).cells) (argL .u32 args 1) (argI args 2) (argI args 3) (argI args 4)) (λargs rows=>Z8r (Q0n.of (args.getD 0 .dead).cells) (argL .u32 args 1) (argI args 2) (argI args 3) (argI args 4)) (λX=> .tup [.agg (Q0n.cells (X.1)), .sl 4 (.recs .apiOutput (X.2)) true]) (λX=>[])
theorem Zme:Q05 Tryz.prog nic_Out_m:=Q0k Q0j Q0i (.cons Zhm (.cons Qme (.nil))) Tryz.func144 Tryz.call144 (λargs rows=>Qdk (Q0n.of (args.getD 0 .dead).cells) (argL .u32 args 1) (argI args 2) (argI args 3) (argI args 4)) [.sl (.recs .apiOutput) true] [] 2 (λ_ _ _=>by kernel_rfl) (λ_ _=>rfl) (λ_ _ h=>h) (λ_ X=>by kernel_rfl)
def Qbu(m:(List Int))(frame:Int)(s:(List UInt8))(z:(Int)×(List Int)):Nat:=(32-z.1).toNat
def Q2d(m:(List Int))(frame:Int)(s:(List UInt8)):Tree ((List Int)×Bool):=
.an (Q08 m) (.lv (Q03 m) λ(x0:List Int)=> .lv (Q69 m frame) λ(x1:Bool)=> .br (!x1) (.lf (x0,false)) (.br ((s.length:Int) !=(128:Int)) (.lf (x0,false)) (.lp inferInstance (Qbu m frame s (0,x0)+1) ((rE (s:List UInt8)∧True∧rE ((wrap i64 (frame*32)):Int)∧rE (0:Int)∧True)∧rE (x0:List Int)∧True) (0,x0) λ(v0:Int×List Int)=> .br (decide (v0.1<32)) (.cn (decide (0≤wrap i64 (4*v0.1)∧wrap i64 (4*v0.1)≤wrap i64 (wrap i64 (4*v0.1)+4)∧wrap i64 (wrap i64 (4*v0.1)+4)≤(s.length:Int))) (let E1:=List.take (Int.toNat (wrap i64 (wrap i64 (4*v0.1)+4))-Int.toNat (wrap i64 (4*v0.1))) (List.drop (Int.toNat (wrap i64 (4*v0.1))) s); .cn (decide ((0:Int)≤(0:Int)∧0<(↑(List.length E1):Int))) (.cn (decide ((0:Int)≤(1:Int)∧1<(↑(List.length E1):Int))) (.cn (decide ((0:Int)≤(2:Int)∧2<(↑(List.length E1):Int))) (.cn (decide ((0:Int)≤(3:Int)∧3<(↑(List.length E1):Int))) (.cn (Nat.beq 1 1&&Nat.blt 0 1&&decide (0≤wrap i64 (wrap i64 (frame*32)+v0.1)∧wrap i64 (wrap i64 (frame*32)+v0.1)<(v0.2.length:Int))) (.nx ((rE (s:List UInt8)∧True∧rE ((wrap i64 (frame*32)):Int)∧rE ((wrap i64 (v0.1+1)):Int)∧True)∧rE ((List.set v0.2 (Int.toNat (wrap i64 (wrap i64 (frame*32)+v0.1))) (ior u32 (ior u32 (ior u32 (wrap u32 (↑(UInt8.toNat (List.getD (List.take (Int.toNat (wrap i64 (wrap i64 (4*v0.1)+4))-Int.toNat (wrap i64 (4*v0.1))) (List.drop (Int.toNat (wrap i64 (4*v0.1))) s)) (Int.toNat 0) (0:UInt8))):Int)) (ishl u32 (wrap u32 (↑(UInt8.toNat (List.getD (List.take (Int.toNat (wrap i64 (wrap i64 (4*v0.1)+4))-Int.toNat (wrap i64 (4*v0.1))) (List.drop (Int.toNat (wrap i64 (4*v0.1))) s)) (Int.toNat 1) (0:UInt8))):Int)) 8)) (ishl u32 (wrap u32 (↑(UInt8.toNat (List.getD (List.take (Int.toNat (wrap i64 (wrap i64 (4*v0.1)+4))-Int.toNat (wrap i64 (4*v0.1))) (List.drop (Int.toNat (wrap i64 (4*v0.1))) s)) (Int.toNat 2) (0:UInt8))):Int)) 16)) (ishl u32 (wrap u32 (↑(UInt8.toNat (List.getD (List.take (Int.toNat (wrap i64 (wrap i64 (4*v0.1)+4))-Int.toNat (wrap i64 (4*v0.1))) (List.drop (Int.toNat (wrap i64 (4*v0.1))) s)) (Int.toNat 3) (0:UInt8))):Int)) 24))):List Int)∧True) (Sum.inl (wrap i64 (v0.1+1),List.set v0.2 (Int.toNat (wrap i64 (wrap i64 (frame*32)+v0.1))) (ior u32 (ior u32 (ior u32 (wrap u32 (↑(UInt8.toNat (List.getD E1 (Int.toNat 0) (0:UInt8))):Int)) (ishl u32 (wrap u32 (↑(UInt8.toNat (List.getD E1 (Int.toNat 1) (0:UInt8))):Int)) 8)) (ishl u32 (wrap u32 (↑(UInt8.toNat (List.getD E1 (Int.toNat 2) (0:UInt8))):Int)) 16)) (ishl u32 (wrap u32 (↑(UInt8.toNat (List.getD E1 (Int.toNat 3) (0:UInt8))):Int)) 24))))))))))) (.lf (Sum.inr (v0.2,true))))))
def Q3d(m:(List Int))(frame:Int)(s:(List UInt8)):((List Int)×Bool):=(Q2d m frame s).m
abbrev Q3w(m:(List Int))(frame:Int)(s:(List UInt8)):Prop:=(Q2d m frame s).p
def Qw3:LInv:={
 α:=(Int)×(List Int)
 F:=λst a=>([(2,(lk st 2)),(8, .all 0),(9,(lk st 9)),(26, .int i64 a.1)],[⟨false,23,1, .ints u32 a.2⟩])
 a0:=λst=>((lk st 26).toInt,(Q67 st.rows (rN st 8)))
 ex0:=λst=>[]++[(Q0r (lk st 8) (st.rows.length+0))]
 next:=λst=>((lk st 26).toInt,(Q67 st.rows (rN st 8)))
 ex:=λst=>[]++[(Q0r (lk st 8) (st.rows.length+0))]}
def Qri:List (Nat×LInv):=[(6,Qw3)]
def Qyj:Q0d:=mkP 125 [] true [.one (.ints .u32), .one (.int .i64), .one (.str)] [] (λargs rows=>Q3w (argL .u32 args 0) (argI args 1) (argS args 2)) (λargs rows=>Q3d (argL .u32 args 0) (argI args 1) (argS args 2)) (λX=> .tup [.all 0, .bool (X.2)]) (λX=>[⟨false,23,1, .ints .u32 (X.1)⟩])
theorem Qf5:Q05 Tryz.prog Qyj:=Q0k Q0j Q0i (.cons Q0x (.cons Qkz (.nil))) Tryz.func125 Tryz.call125 (λargs rows=>Q2d (argL .u32 args 0) (argI args 1) (argS args 2)) [.row 23 1 (.ints .u32)] Qri 3 (λ_ _ _=>by kernel_rfl) (λ_ _=>rfl) (λ_ _ h=>h) (λ_ X=>by kernel_rfl)
def strings_Repeat(s:(List UInt8))(count:Int):(List UInt8):=
Lib.repeatL s count.toNat
def Q37(s:(List UInt8))(count:Int):Prop:=
0≤count∧count≤9223372036854775807∧s.length*count.toNat≤140737488355328
def Qjj(s:(List UInt8))(count:Int):List D:=[.str s, .int .i64 count]
def Qia(s:(List UInt8))(count:Int):List Row:=[]
def Qe0(X:(List UInt8)):D:= .str X
def Qe7(X:(List UInt8)):List Row:=[]
def Qka:List PT:=[.one (.str), .one (.int .i64)]
def Qiq:List RT:=[]
def Qsl(args:List D)(rows:List Row):(List UInt8):=strings_Repeat (argS args 0) (argI args 1)
def Qru(args:List D)(rows:List Row):Prop:=Q37 (argS args 0) (argI args 1)
def Qya:Q0d:=mkP 197 [] true Qka Qiq Qru Qsl Qe0 Qe7
theorem Qpo(s:(List UInt8))(count:Int)(hw:Q37 s count):Q5c Tryz.prog 197 (Qjj s count) (Qia s count) (Qe0 (strings_Repeat s count)) (Qe7 (strings_Repeat s count)):=by
 exact repeat_of Tryz.strings_Repeat hw.1 hw.2.1 hw.2.2
set_option maxRecDepth 100000 in
theorem Qr(args:List D)(rows:List Row):Qlf Qka args 0=Qjj (argS args 0) (argI args 1):=by kernel_rfl
set_option maxRecDepth 100000 in
theorem Qpu(args:List D)(rows:List Row):Qa Qiq rows 0=Qia (argS args 0) (argI args 1):=by kernel_rfl
set_option maxRecDepth 100000 in
theorem Qvh(X:(List UInt8)):(ffB (Qe0 X)&&ffBR (Qe7 X))=true:=by kernel_rfl
theorem Qvl:Q05 Tryz.prog Qya:=Z2f Tryz.call197 (λargs rows hp=>by rw[Qr args rows,Qpu args rows];exact Qpo (argS args 0) (argI args 1) hp) (λ_ X=>Qvh X)
def Q2z(b:Q07)(m:(List Int))(port:Int)(v:Int):Tree (Q07×(List Int)):=
let T1:Tree ((Q07×(List Int))):= .an (Q08 m) (.lv (Q03 m) λ(x0:List Int)=> .lf (b,x0)); .br (decide (v≥32)) T1 (.cn (decide (0≤v)) (.br (port==10) (.lv (Q0v m) λ(x1:Int)=> .br (decide (wrap i64 v<x1)) (.br (iand u32 b.C5 (ishl u32 1 v)==0) (.an (Q37 [(0:UInt8)] 128) (.lv (strings_Repeat [(0:UInt8)] 128) λ(x2:List UInt8)=> .an (Q3w m (wrap i64 v) x2) (.lv (Q3d m (wrap i64 v) x2) λ(x3:List Int×Bool)=> .lf ({C9:=b.C9,C5:=ior u32 b.C5 (ishl u32 1 v)},x3.1)))) T1) T1) (.br (port==11) (.an (Q08 m) (.lv (Q03 m) λ(x6:List Int)=> .lf ({C9:=b.C9,C5:=Qhf u32 b.C5 (ishl u32 1 v)},x6))) T1)))
def Q8w(b:Q07)(m:(List Int))(port:Int)(v:Int):(Q07×(List Int)):=(Q2z b m port v).m
abbrev Qay(b:Q07)(m:(List Int))(port:Int)(v:Int):Prop:=(Q2z b m port v).p
def Z7h:Q0d:=mkP 145 [] true [.agg Q07.sig, .one (.ints .u32), .one (.int .i64), .one (.int .u32)] [] (λargs rows=>Qay (Q07.of (args.getD 0 .dead).cells) (argL .u32 args 1) (argI args 2) (argI args 3)) (λargs rows=>Q8w (Q07.of (args.getD 0 .dead).cells) (argL .u32 args 1) (argI args 2) (argI args 3)) (λX=> .tup [.agg (Q07.cells (X.1)), .all 0]) (λX=>[⟨false,23,1, .ints .u32 (X.2)⟩])
theorem Z4n:Q05 Tryz.prog Z7h:=Q0k Q0j Q0i (.cons Q0x (.cons Q54 (.cons Qf5 (.cons Qvl (.nil))))) Tryz.func145 Tryz.call145 (λargs rows=>Q2z (Q07.of (args.getD 0 .dead).cells) (argL .u32 args 1) (argI args 2) (argI args 3)) [.row 23 1 (.ints .u32)] [] 2 (λ_ _ _=>by kernel_rfl) (λ_ _=>rfl) (λ_ _ h=>h) (λ_ X=>by kernel_rfl)
def Q2a(m:Q01)(port:Int)(v:Int)(at0:Int):Tree (Q01×(List Q04)):=
.br (port==0) (.lf (m,[{B8:=1,At:=at0,C1:=0,C6:=[(λ(n:Int)=>UInt8.ofNat n.toNat) (wrap u8 v)]}])) (.br (port==3) (.lv (Ql6 m.A9 v) λ(x0:Q0f)=> .lf ({B2:=m.B2,Mem:=m.Mem,A3:=m.A3,A9:=x0,B1:=m.B1,C2:=m.C2,A1:=m.A1,A6:=m.A6,A4:=m.A4,A7:=m.A7},[])) (let T1:Tree ((Q01×(List Q04))):= .an (Qfr m.B1 m.Mem port v at0) (.lv (Qzc m.B1 m.Mem port v at0) λ(x1:Q0e×List Q04)=> .lf ({B2:=m.B2,Mem:=m.Mem,A3:=m.A3,A9:=m.A9,B1:=x1.1,C2:=m.C2,A1:=m.A1,A6:=m.A6,A4:=m.A4,A7:=m.A7},x1.2)); .br (port==4) T1 (.br (port==5) T1 (.br (port==6) T1 (let T2:Tree ((Q01×(List Q04))):= .an (Qje m.C2 m.Mem port v at0) (.lv (Z8r m.C2 m.Mem port v at0) λ(x4:Q0n×List Q04)=> .lf ({B2:=m.B2,Mem:=m.Mem,A3:=m.A3,A9:=m.A9,B1:=m.B1,C2:=x4.1,A1:=m.A1,A6:=m.A6,A4:=m.A4,A7:=m.A7},x4.2)); .br (port==7) T2 (.br (port==8) T2 (.br (port==9) T2 (let T3:Tree ((Q01×(List Q04))):= .an (Qay m.A1 m.Mem port v) (.lv (Q8w m.A1 m.Mem port v) λ(x7:Q07×List Int)=> .lf ({B2:=m.B2,Mem:=x7.2,A3:=m.A3,A9:=m.A9,B1:=m.B1,C2:=m.C2,A1:=x7.1,A6:=m.A6,A4:=m.A4,A7:=m.A7},[])); .br (port==10) T3 (.br (port==11) T3 (.lf (m,[])))))))))))
def Q2w(m:Q01)(port:Int)(v:Int)(at0:Int):(Q01×(List Q04)):=(Q2a m port v at0).m
abbrev Q4z(m:Q01)(port:Int)(v:Int)(at0:Int):Prop:=(Q2a m port v at0).p
def Qr4:Q0d:=Q0d.fz<|mkP 100 [] false [.agg Q01.sig, .one (.int .i64), .one (.int .u32), .one (.int .u64)] [] (λargs rows=>Q4z (Q01.of (args.getD 0 .dead).cells) (argI args 1) (argI args 2) (argI args 3)) (λargs rows=>Q2w (Q01.of (args.getD 0 .dead).cells) (argI args 1) (argI args 2) (argI args 3)) (λX=> .tup [.agg (Q01.cells (X.1)), .sl 4 (.recs .apiOutput (X.2)) true]) (λX=>[])
theorem Qpp:Q05 Tryz.prog Qr4:=fz_ok<|Q0k Q0j Q0i (.cons Zeu (.cons Zgz (.cons Zme (.cons Z4n (.nil))))) Tryz.func100 Tryz.call100 (λargs rows=>Q2a (Q01.of (args.getD 0 .dead).cells) (argI args 1) (argI args 2) (argI args 3)) [.sl (.ints .u32) false, .sl (.recs .apiOutput) true] [] 2 (λ_ _ _=>by kernel_rfl) (λ_ _=>rfl) (λ_ _ h=>h) (λh=>by cases h)
def Q3b(m:Q01)(clock:Int):Tree (Q01×(List Q04)):=
.an (Q08 m.Mem) (.lv (Q03 m.Mem) λ(x0:List Int)=>let E1:=({B2:=m.B2,Mem:=x0,A3:=m.A3,A9:=m.A9,B1:=m.B1,C2:=m.C2,A1:=m.A1,A6:=m.A6,A4:=m.A4,A7:=m.A7}:Q01); .an (Q79 E1) (.lv (Q36 E1) λ(x1:Bool)=> .br (!x1) (.lf (E1,[])) (.an (Q6d E1) (.lv (Q0y E1) λ(x2:Q01)=> .an (Qdb x2.B2 x2.Mem) (.lv (Q9a x2.B2 x2.Mem) λ(x3:Q02×List Int×Q14)=>let E2:=({B2:=x3.1,Mem:=x3.2.1,A3:=x2.A3,A9:=x2.A9,B1:=x2.B1,C2:=x2.C2,A1:=x2.A1,A6:=x2.A6,A4:=x2.A4,A7:=x2.A7}:Q01); .br (x3.2.2.B8==1) (.an (Q5n E2 x3.2.2.D0 clock) (.lv (Q1k E2 x3.2.2.D0 clock) λ(x4:Q01×Int)=> .br (x3.2.2.D9 !=0) (.cn (Nat.blt 0 1&&decide (0≤x3.2.2.D9∧x3.2.2.D9<(↑16:Int))) (.lf ({B2:={X:=A16.of 0 (List.set (A16.l x4.1.B2.X) x3.2.2.D9.toNat x4.2),Pc:=x4.1.B2.Pc,B5:=x4.1.B2.B5},Mem:=x4.1.Mem,A3:=x4.1.A3,A9:=x4.1.A9,B1:=x4.1.B1,C2:=x4.1.C2,A1:=x4.1.A1,A6:=wrap u64 (x4.1.A6+1),A4:=x4.1.A4,A7:=x4.1.A7},[]))) (.lf ({B2:=x4.1.B2,Mem:=x4.1.Mem,A3:=x4.1.A3,A9:=x4.1.A9,B1:=x4.1.B1,C2:=x4.1.C2,A1:=x4.1.A1,A6:=wrap u64 (x4.1.A6+1),A4:=x4.1.A4,A7:=x4.1.A7},[])))) (.br (x3.2.2.B8==2) (.an (Q4z E2 x3.2.2.D0 x3.2.2.Value m.A6) (.lv (Q2w E2 x3.2.2.D0 x3.2.2.Value m.A6) λ(x5:Q01×List Q04)=> .lf ({B2:=x5.1.B2,Mem:=x5.1.Mem,A3:=x5.1.A3,A9:=x5.1.A9,B1:=x5.1.B1,C2:=x5.1.C2,A1:=x5.1.A1,A6:=wrap u64 (x5.1.A6+1),A4:=x5.1.A4,A7:=x5.1.A7},x5.2))) (.br (x3.2.2.B8==3) (.lf ({B2:=x3.1,Mem:=x3.2.1,A3:=x2.A3,A9:=x2.A9,B1:=x2.B1,C2:=x2.C2,A1:=x2.A1,A6:=wrap u64 (x2.A6+1),A4:=true,A7:=x2.A7},[])) (.br (x3.2.2.B8==4) (.lf ({B2:=x3.1,Mem:=x3.2.1,A3:=x2.A3,A9:=x2.A9,B1:=x2.B1,C2:=x2.C2,A1:=x2.A1,A6:=wrap u64 (x2.A6+1),A4:=x2.A4,A7:=true},[])) (.lf ({B2:=x3.1,Mem:=x3.2.1,A3:=x2.A3,A9:=x2.A9,B1:=x2.B1,C2:=x2.C2,A1:=x2.A1,A6:=wrap u64 (x2.A6+1),A4:=x2.A4,A7:=x2.A7},[]))))))))))
def Q3m(m:Q01)(clock:Int):(Q01×(List Q04)):=(Q3b m clock).m
abbrev Q3j(m:Q01)(clock:Int):Prop:=(Q3b m clock).p
def Z33:Q0d:=Q0d.fz<|mkP 58 [] false [.agg Q01.sig, .one (.int .u32)] [] (λargs rows=>Q3j (Q01.of (args.getD 0 .dead).cells) (argI args 1)) (λargs rows=>Q3m (Q01.of (args.getD 0 .dead).cells) (argI args 1)) (λX=> .tup [.agg (Q01.cells (X.1)), .sl 4 (.recs .apiOutput (X.2)) false]) (λX=>[])
theorem Z09:Q05 Tryz.prog Z33:=fz_ok<|Q0k Q0j Q0i (.cons Q0x (.cons Qo (.cons Qmz (.cons Z14 (.cons Qqw (.cons Qpp (.nil))))))) Tryz.func58 Tryz.call58 (λargs rows=>Q3b (Q01.of (args.getD 0 .dead).cells) (argI args 1)) [.sl (.ints .u32) false, .sl (.recs .apiOutput) false] [] 2 (λ_ _ _=>by kernel_rfl) (λ_ _=>rfl) (λ_ _ h=>h) (λh=>by cases h)
end
end Go.Proofs.YtpcbkbalabgnlaaGreat

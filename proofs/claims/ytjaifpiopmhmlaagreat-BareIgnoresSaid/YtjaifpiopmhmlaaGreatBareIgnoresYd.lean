/-
  Functions of the program: models, and that its calls come to them (by a program: gen3.py).
-/
import Derived.Test.YtjaifpiopmhmlaaGreatBareIgnoresBase
import Derived.Test.YtjaifpiopmhmlaaGreatBareIgnoresHand
import Derived.Test.YtjaifpiopmhmlaaGreatBareIgnoresYc
import Derived.Test.YtjaifpiopmhmlaaGreatBareIgnoresYb
import Derived.Test.YtjaifpiopmhmlaaGreatBareIgnoresYa
set_option maxRecDepth 100000
set_option linter.all false
namespace Go.Proofs.YtjaifpiopmhmlaaGreat
open Go Go.GD Go.IntKind
noncomputable section
def Q3t(m:Q00):Tree Bool:=
.an (Q5a m) (.lv (Q1a m) λ(x0:Bool)=> .br x0 (.br (!m.A7) (.an (Q5t m) (.lv (Q39 m) λ(x1:Bool)=> .br (!x1) (.lf (decide (m.A1<1152921504606846976))) (.lf false))) (.lf false)) (.lf false))
def Q23(m:Q00):Bool:=(Q3t m).m
abbrev Qaq(m:Q00):Prop:=(Q3t m).p
def Z39:Q0c:=mkP 105 [] true [.agg Q00.sig] [] (λargs rows=>Qaq (Q00.of (args.getD 0 .dead).cells)) (λargs rows=>Q23 (Q00.of (args.getD 0 .dead).cells)) (λX=> .bool X) (λX=>[])
theorem Qnj:Q05 Tryz.prog Z39:=Q0n Q0j Q0k (.cons Qjg (.cons Qno (.nil))) Tryz.func105 Tryz.call105 (λargs rows=>Q3t (Q00.of (args.getD 0 .dead).cells)) [] [] 2 (λ_ _ _=>by kernel_rfl) (λ_ _=>rfl) (λ_ _ h=>h) (λ_ X=>by kernel_rfl)
def Qar(m:Q00)(z:(Int)):Nat:=(5-z).toNat
def Q2n(m:Q00):Tree Q00:=
let E1:=({B2:=m.B2,Mem:=m.Mem,A3:=m.A3,B0:=m.B0,B1:=m.B1,C5:=m.C5,A2:=m.A2,A1:=m.A1,A4:=false,A7:=m.A7}:Q00); .br (iand u32 m.B2.B6.a0 (2:Int)==(0:Int)) (.lf (E1)) (.an (Qav E1) (.lv (Q57 E1) λ(x0:Int)=> .lp inferInstance (Qar m 0+1) (((rE (0:Nat)/\rE (0:Nat))/\(rE (0:Nat)/\rE (0:Nat))/\rE (x0:Int)/\rE (0:Int)/\True)/\(rE m.B2.X.a0/\rE m.B2.X.a1/\rE m.B2.X.a2/\rE m.B2.X.a3/\rE m.B2.X.a4/\rE m.B2.X.a5/\rE m.B2.X.a6/\rE m.B2.X.a7/\rE m.B2.X.a8/\rE m.B2.X.a9/\rE m.B2.X.a10/\rE m.B2.X.a11/\rE m.B2.X.a12/\rE m.B2.X.a13/\rE m.B2.X.a14/\rE m.B2.X.a15/\rE m.B2.Pc/\rE m.B2.B6.a0/\rE m.B2.B6.a1/\rE m.B2.B6.a2/\rE m.B2.B6.a3/\rE m.B2.B6.a4/\rE m.B2.B6.a5/\rE m.B2.B6.a6/\rE m.B2.B6.a7/\((Els.Nil (Els.ints u32 m.Mem)\/rE (1:Nat))/\rE m.Mem)/\rE m.A3.D3/\rE m.B0.D2/\rE m.B0.C9/\rE m.B0.D5/\rE m.B1.Blocks/\rE m.B1.B9/\rE m.B1.B4/\rE m.B1.C2/\rE m.B1.D8/\rE m.B1.B7/\rE m.B1.B3/\rE m.B1.C4/\rE m.C5.B4/\rE m.C5.F0/\rE m.C5.C7/\rE m.C5.C1/\rE m.C5.B8/\rE m.C5.F2/\rE m.A2.D0/\rE m.A2.C3/\rE m.A1/\rE (false:Bool)/\rE m.A7/\True)/\(mE zM True True)/\True) 0 λ(v0:Int)=> .br (decide (v0<5)) (.cn (decide (0<=v0)) (.br (iand u32 x0 (ishl u32 1 v0) !=0) (.lv (Q48 m.B2 (wrap i64 (16+v0)) 0) λ(x1:Q04)=> .lf (Sum.inr {B2:=x1,Mem:=m.Mem,A3:=m.A3,B0:=m.B0,B1:=m.B1,C5:=m.C5,A2:=m.A2,A1:=m.A1,A4:=false,A7:=m.A7})) (.nx (((rE (0:Nat)/\rE (0:Nat))/\(rE (0:Nat)/\rE (0:Nat))/\rE (x0:Int)/\rE ((wrap i64 (v0+1)):Int)/\True)/\(rE m.B2.X.a0/\rE m.B2.X.a1/\rE m.B2.X.a2/\rE m.B2.X.a3/\rE m.B2.X.a4/\rE m.B2.X.a5/\rE m.B2.X.a6/\rE m.B2.X.a7/\rE m.B2.X.a8/\rE m.B2.X.a9/\rE m.B2.X.a10/\rE m.B2.X.a11/\rE m.B2.X.a12/\rE m.B2.X.a13/\rE m.B2.X.a14/\rE m.B2.X.a15/\rE m.B2.Pc/\rE m.B2.B6.a0/\rE m.B2.B6.a1/\rE m.B2.B6.a2/\rE m.B2.B6.a3/\rE m.B2.B6.a4/\rE m.B2.B6.a5/\rE m.B2.B6.a6/\rE m.B2.B6.a7/\((Els.Nil (Els.ints u32 m.Mem)\/rE (1:Nat))/\rE m.Mem)/\rE m.A3.D3/\rE m.B0.D2/\rE m.B0.C9/\rE m.B0.D5/\rE m.B1.Blocks/\rE m.B1.B9/\rE m.B1.B4/\rE m.B1.C2/\rE m.B1.D8/\rE m.B1.B7/\rE m.B1.B3/\rE m.B1.C4/\rE m.C5.B4/\rE m.C5.F0/\rE m.C5.C7/\rE m.C5.C1/\rE m.C5.B8/\rE m.C5.F2/\rE m.A2.D0/\rE m.A2.C3/\rE m.A1/\rE (false:Bool)/\rE m.A7/\True)/\(mE zM True True)/\True) (Sum.inl (wrap i64 (v0+1)))))) (.lf (Sum.inr E1))))
def Q0p(m:Q00):Q00:=(Q2n m).m
abbrev Q9r(m:Q00):Prop:=(Q2n m).p
def Qxt:LInv:={
 α:=(Int)
 F:=λst a=>([(1, .ptr 0 0 0),(2, .ptr 1 0 0),(3,(lk st 3)),(15, .int i64 a)],[⟨true,41,49, .gen [[(cT st 1 0),(cT st 1 1),(cT st 1 2),(cT st 1 3),(cT st 1 4),(cT st 1 5),(cT st 1 6),(cT st 1 7),(cT st 1 8),(cT st 1 9),(cT st 1 10),(cT st 1 11),(cT st 1 12),(cT st 1 13),(cT st 1 14),(cT st 1 15),(cT st 1 16),(cT st 1 17),(cT st 1 18),(cT st 1 19),(cT st 1 20),(cT st 1 21),(cT st 1 22),(cT st 1 23),(cT st 1 24),(cT st 1 25),(cT st 1 26),(cT st 1 27),(cT st 1 28),(cT st 1 29),(cT st 1 30),(cT st 1 31),(cT st 1 32),(cT st 1 33),(cT st 1 34),(cT st 1 35),(cT st 1 36),(cT st 1 37),(cT st 1 38),(cT st 1 39),(cT st 1 40),(cT st 1 41),(cT st 1 42),(cT st 1 43),(cT st 1 44),(cT st 1 45),(cT st 1 46),(cT st 1 47),(cT st 1 48)]]⟩,⟨true,41,49, .gen [[(cT st 2 0),(cT st 2 1),(cT st 2 2),(cT st 2 3),(cT st 2 4),(cT st 2 5),(cT st 2 6),(cT st 2 7),(cT st 2 8),(cT st 2 9),(cT st 2 10),(cT st 2 11),(cT st 2 12),(cT st 2 13),(cT st 2 14),(cT st 2 15),(cT st 2 16),(cT st 2 17),(cT st 2 18),(cT st 2 19),(cT st 2 20),(cT st 2 21),(cT st 2 22),(cT st 2 23),(cT st 2 24),(cT st 2 25),(cT st 2 26),(cT st 2 27),(cT st 2 28),(cT st 2 29),(cT st 2 30),(cT st 2 31),(cT st 2 32),(cT st 2 33),(cT st 2 34),(cT st 2 35),(cT st 2 36),(cT st 2 37),(cT st 2 38),(cT st 2 39),(cT st 2 40),(cT st 2 41),(cT st 2 42),(cT st 2 43),(cT st 2 44),(cT st 2 45),(cT st 2 46),(cT st 2 47),(cT st 2 48)]]⟩])
 a0:=λst=>(lk st 15).toInt
 ex0:=λst=>[]++[(Q0r (lk st 1) (st.rows.length+0)),(Q0r (lk st 2) (st.rows.length+1))]
 next:=λst=>(lk st 15).toInt
 ex:=λst=>[]++[(Q0r (lk st 1) (st.rows.length+0)),(Q0r (lk st 2) (st.rows.length+1))]}
def Qra:List (Nat×LInv):=[(6,Qxt)]
def Z0u:Q0c:=Q0c.fz<|mkP 106 [] false [.agg Q00.sig] [] (λargs rows=>Q9r (Q00.of (args.getD 0 .dead).cells)) (λargs rows=>Q0p (Q00.of (args.getD 0 .dead).cells)) (λX=> .agg (Q00.cells X)) (λX=>[])
theorem Qlu:Q05 Tryz.prog Z0u:=fz_ok<|Q0n Q0j Q0k (.cons Qit (.cons Qhc (.nil))) Tryz.func106 Tryz.call106 (λargs rows=>Q2n (Q00.of (args.getD 0 .dead).cells)) [.sl (.ints .u32) false] Qra 3 (λ_ _ _=>by kernel_rfl) (λ_ _=>rfl) (λ_ _ h=>h) (λh=>by cases h)
def Q95(c:Q0b)(port:Int):Tree (Q0b×Int):=
.br (port==0) (.br (decide (c.D3=[])) (.lf (c,4294967295)) (.cn (decide ((0:Int)<=(0:Int)/\0<(c.D3.length:Int))) (.cn (decide ((0:Int)<=(1:Int)/\1<=(c.D3.length:Int)/\(c.D3.length:Int)<=(c.D3.length:Int))) (.lf ({D3:=List.take (Int.toNat (c.D3.length:Int)-Int.toNat 1) (List.drop (Int.toNat 1) c.D3)},wrap u32 (↑(UInt8.toNat (c.D3.getD (Int.toNat 0) (0:UInt8))):Int)))))) (.br (port==1) (.lf (c,wrap u32 (c.D3.length:Int))) (.lf (c,0)))
def Qo5(c:Q0b)(port:Int):(Q0b×Int):=(Q95 c port).m
theorem Z2z(c:Q0b)(port:Int):(Q95 c port).p:=by
 unfold Tree.p Q95
 repeat'(first|exact trivial|refine w_br (λ_=> ?_) (λ_=> ?_)|refine w_cn ?_ ?_|refine w_an ?_ ?_|refine w_lv (λ_ _=> ?_)|refine w_nx ?_|refine w_lf ?_|refine And.intro ?_ ?_)
 all_goals(((subst_vars;first|trivial|assumption|omega|((simp(config:={decide:=true,failIfUnchanged:=false}) only[Bool.and_eq_true,Bool.or_eq_true,Bool.and_eq_false_iff,Bool.or_eq_false_iff,Bool.not_eq_true',Bool.not_eq_false',Bool.not_eq_true,Bool.not_eq_false,decide_eq_true_eq,decide_eq_false_iff_not,Q4j,Q2t,Q4f,Q2u,beq_iff_eq,beq_eq_false_iff_ne,bne_iff_ne,bne_eq_false_iff_eq,ne_eq,List.all_cons,List.all_nil,D.plain,List.length_cons,List.length_nil,List.length_append,List.length_set,List.length_replicate,IntKind.wrap_i64,IntKind.wrap_u64,IntKind.wrap_u32,IntKind.wrap_i32,IntKind.wrap_u8,true_and,and_true,or_false,false_or,or_true,true_or,not_true_eq_false,not_false_eq_true,Prod.fst,Prod.snd]at*);first|done|assumption|omega)|((simp(config:={decide:=true,failIfUnchanged:=false}) only[Bool.and_eq_true,Bool.or_eq_true,Bool.and_eq_false_iff,Bool.or_eq_false_iff,Bool.not_eq_true',Bool.not_eq_false',Bool.not_eq_true,Bool.not_eq_false,decide_eq_true_eq,decide_eq_false_iff_not,Q4j,Q2t,Q4f,Q2u,beq_iff_eq,beq_eq_false_iff_ne,bne_iff_ne,bne_eq_false_iff_eq,ne_eq,List.all_cons,List.all_nil,D.plain,List.length_cons,List.length_nil,List.length_append,List.length_set,List.length_replicate,IntKind.wrap_i64,IntKind.wrap_u64,IntKind.wrap_u32,IntKind.wrap_i32,IntKind.wrap_u8,true_and,and_true,or_false,false_or,or_true,true_or,not_true_eq_false,not_false_eq_true,Prod.fst,Prod.snd]at*);simp only[<-List.length_pos_iff]at*;omega)|(simp_all;done)|(have:= @Qfc;simp_all;try omega))))
def Za:Q0c:=mkR 170 [] true [.agg Q0b.sig, .one (.int .i64)] [] (λargs rows=>Qo5 (Q0b.of (args.getD 0 .dead).cells) (argI args 1)) (λX=> .tup [.agg (Q0b.cells (X.1)), .int .u32 (X.2)]) (λX=>[])
theorem Z72:Q05 Tryz.prog Za:=Q0z Q0j Q0k (.nil) Tryz.func170 Tryz.call170 (λargs rows=>Q95 (Q0b.of (args.getD 0 .dead).cells) (argI args 1)) [] [] 2 (λ_ _ _=>by kernel_rfl) (λ_ _=>rfl) (λargs rows=>Z2z (Q0b.of (args.getD 0 .dead).cells) (argI args 1)) (λ_ X=>by kernel_rfl)
def Qo8(t:Q0g):Tree Int:=
.br t.D5 (.lf 1) (.lf 0)
def Qyk(t:Q0g):Int:=(Qo8 t).m
def Zl5:Q0c:=mkR 171 [] true [.agg Q0g.sig] [] (λargs rows=>Qyk (Q0g.of (args.getD 0 .dead).cells)) (λX=> .int .u32 X) (λX=>[])
theorem Zgd:Q05 Tryz.prog Zl5:=Q0z Q0j Q0k (.nil) Tryz.func171 Tryz.call171 (λargs rows=>Qo8 (Q0g.of (args.getD 0 .dead).cells)) [] [] 2 (λ_ _ _=>by kernel_rfl) (λ_ _=>rfl) (λ_ _=>Tree.free_ok (by kernel_rfl)) (λ_ X=>by kernel_rfl)
def Qsx(d0:Q0f)(port:Int):Tree Int:=
.br (port==4) (.lf d0.B9) (.br (port==5) (.lf d0.B4) (.br (port==6) (.lf (wrap u32 d0.C2)) (.lf 0)))
def Qun(d0:Q0f)(port:Int):Int:=(Qsx d0 port).m
def xB:Q0c:=mkR 172 [] true [.agg Q0f.sig, .one (.int .i64)] [] (λargs rows=>Qun (Q0f.of (args.getD 0 .dead).cells) (argI args 1)) (λX=> .int .u32 X) (λX=>[])
theorem Zlk:Q05 Tryz.prog xB:=Q0z Q0j Q0k (.nil) Tryz.func172 Tryz.call172 (λargs rows=>Qsx (Q0f.of (args.getD 0 .dead).cells) (argI args 1)) [] [] 2 (λ_ _ _=>by kernel_rfl) (λ_ _=>rfl) (λ_ _=>Tree.free_ok (by kernel_rfl)) (λ_ X=>by kernel_rfl)
def Qr1(n:Q0q)(port:Int):Tree Int:=
.br (port==7) (.lf n.B4) (.br (port==8) (.lf n.F2) (.br (port==9) (.br n.C7 (.br n.B8 (.lf (wrap u32 (wrap u32 ((0:Int)+(1:Int))+2))) (.lf (wrap u32 ((0:Int)+(1:Int))))) (.br n.B8 (.lf (wrap u32 ((0:Int)+(2:Int)))) (.lf 0))) (.lf 0)))
def Qzg(n:Q0q)(port:Int):Int:=(Qr1 n port).m
def vU:Q0c:=mkR 173 [] true [.agg Q0q.sig, .one (.int .i64)] [] (λargs rows=>Qzg (Q0q.of (args.getD 0 .dead).cells) (argI args 1)) (λX=> .int .u32 X) (λX=>[])
theorem zB:Q05 Tryz.prog vU:=Q0z Q0j Q0k (.nil) Tryz.func173 Tryz.call173 (λargs rows=>Qr1 (Q0q.of (args.getD 0 .dead).cells) (argI args 1)) [] [] 2 (λ_ _ _=>by kernel_rfl) (λ_ _=>rfl) (λ_ _=>Tree.free_ok (by kernel_rfl)) (λ_ X=>by kernel_rfl)
def Qbh(b:Q07)(port:Int):Tree Int:=
.br (port==10) (.lf b.D0) (.br (port==11) (.an (Qdj b) (.lv (Qbu b) λ(x0:Int)=> .lf (wrap u32 x0))) (.lf 0))
def Qos(b:Q07)(port:Int):Int:=(Qbh b port).m
abbrev Qpu(b:Q07)(port:Int):Prop:=(Qbh b port).p
def Zba:Q0c:=mkP 174 [] true [.agg Q07.sig, .one (.int .i64)] [] (λargs rows=>Qpu (Q07.of (args.getD 0 .dead).cells) (argI args 1)) (λargs rows=>Qos (Q07.of (args.getD 0 .dead).cells) (argI args 1)) (λX=> .int .u32 X) (λX=>[])
theorem Z6k:Q05 Tryz.prog Zba:=Q0n Q0j Q0k (.cons Qln (.nil)) Tryz.func174 Tryz.call174 (λargs rows=>Qbh (Q07.of (args.getD 0 .dead).cells) (argI args 1)) [] [] 2 (λ_ _ _=>by kernel_rfl) (λ_ _=>rfl) (λ_ _ h=>h) (λ_ X=>by kernel_rfl)
def Q3(m:Q00)(port:Int)(clock:Int):Tree (Q00×Int):=
let T1:Tree ((Q00×Int)):= .lv (Qo5 m.A3 port) λ(x0:Q0b×Int)=> .lf ({B2:=m.B2,Mem:=m.Mem,A3:=x0.1,B0:=m.B0,B1:=m.B1,C5:=m.C5,A2:=m.A2,A1:=m.A1,A4:=m.A4,A7:=m.A7},x0.2); .br (port==0) T1 (.br (port==1) T1 (.br (port==2) (.lf (m,clock)) (.br (port==3) (.lv (Qyk m.B0) λ(x2:Int)=> .lf (m,x2)) (.br (port==4) (.lv (Qun m.B1 port) λ(x3:Int)=> .lf (m,x3)) (.br (port==5) (.lv (Qun m.B1 port) λ(x4:Int)=> .lf (m,x4)) (.br (port==6) (.lv (Qun m.B1 port) λ(x5:Int)=> .lf (m,x5)) (.br (port==7) (.lv (Qzg m.C5 port) λ(x6:Int)=> .lf (m,x6)) (.br (port==8) (.lv (Qzg m.C5 port) λ(x7:Int)=> .lf (m,x7)) (.br (port==9) (.lv (Qzg m.C5 port) λ(x8:Int)=> .lf (m,x8)) (let T2:Tree ((Q00×Int)):= .an (Qpu m.A2 port) (.lv (Qos m.A2 port) λ(x9:Int)=> .lf (m,x9)); .br (port==10) T2 (.br (port==11) T2 (.lf (m,0)))))))))))))
def Q10(m:Q00)(port:Int)(clock:Int):(Q00×Int):=(Q3 m port clock).m
abbrev Qfl(m:Q00)(port:Int)(clock:Int):Prop:=(Q3 m port clock).p
def Qqw:Q0c:=Q0c.fz<|mkP 125 [] false [.agg Q00.sig, .one (.int .i64), .one (.int .u32)] [] (λargs rows=>Qfl (Q00.of (args.getD 0 .dead).cells) (argI args 1) (argI args 2)) (λargs rows=>Q10 (Q00.of (args.getD 0 .dead).cells) (argI args 1) (argI args 2)) (λX=> .tup [.agg (Q00.cells (X.1)), .int .u32 (X.2)]) (λX=>[])
theorem Qqd:Q05 Tryz.prog Qqw:=fz_ok<|Q0n Q0j Q0k (.cons Z72 (.cons Zgd (.cons Zlk (.cons zB (.cons Z6k (.nil)))))) Tryz.func125 Tryz.call125 (λargs rows=>Q3 (Q00.of (args.getD 0 .dead).cells) (argI args 1) (argI args 2)) [.sl (.ints .u32) false] [] 2 (λ_ _ _=>by kernel_rfl) (λ_ _=>rfl) (λ_ _ h=>h) (λh=>by cases h)
def Qld(t:Q0g)(deadline:Int):Tree Q0g:=
.lf ({D2:=deadline !=0,C9:=deadline,D5:=false})
def Qjq(t:Q0g)(deadline:Int):Q0g:=(Qld t deadline).m
def Zgs:Q0c:=mkR 175 [] true [.agg Q0g.sig, .one (.int .u32)] [] (λargs rows=>Qjq (Q0g.of (args.getD 0 .dead).cells) (argI args 1)) (λX=> .agg (Q0g.cells X)) (λX=>[])
theorem Zca:Q05 Tryz.prog Zgs:=Q0z Q0j Q0k (.nil) Tryz.func175 Tryz.call175 (λargs rows=>Qld (Q0g.of (args.getD 0 .dead).cells) (argI args 1)) [] [] 2 (λ_ _ _=>by kernel_rfl) (λ_ _=>rfl) (λ_ _=>Tree.free_ok (by kernel_rfl)) (λ_ X=>by kernel_rfl)
def Qbo(m:(List Int))(frame:Int):Tree Bool:=
.lv (Q0v m) λ(x0:Int)=> .lf (decide (wrap u64 frame<wrap u64 x0))
def Q9j(m:(List Int))(frame:Int):Bool:=(Qbo m frame).m
def Z8q:Q0c:=mkR 166 [] true [.one (.ints .u32), .one (.int .u32)] [] (λargs rows=>Q9j (argL .u32 args 0) (argI args 1)) (λX=> .bool X) (λX=>[])
theorem Qp6:Q05 Tryz.prog Z8q:=Q0z Q0j Q0k (.cons Q41 (.nil)) Tryz.func166 Tryz.call166 (λargs rows=>Qbo (argL .u32 args 0) (argI args 1)) [] [] 2 (λ_ _ _=>by kernel_rfl) (λ_ _=>rfl) (λ_ _=>Tree.free_ok (by kernel_rfl)) (λ_ X=>by kernel_rfl)
def Q7y(m:(List Int))(frame:Int):Tree Bool:=
.br (decide (frame>=0)) (.lv (Q0v m) λ(x0:Int)=> .lf (decide (frame<x0))) (.lf false)
def Q50(m:(List Int))(frame:Int):Bool:=(Q7y m frame).m
def Qx1:Q0c:=mkR 228 [] true [.one (.ints .u32), .one (.int .i64)] [] (λargs rows=>Q50 (argL .u32 args 0) (argI args 1)) (λX=> .bool X) (λX=>[])
theorem Qjr:Q05 Tryz.prog Qx1:=Q0z Q0j Q0k (.cons Q41 (.nil)) Tryz.func228 Tryz.call228 (λargs rows=>Q7y (argL .u32 args 0) (argI args 1)) [] [] 2 (λ_ _ _=>by kernel_rfl) (λ_ _=>rfl) (λ_ _=>Tree.free_ok (by kernel_rfl)) (λ_ X=>by kernel_rfl)
def Qls(words:(List Int))(z:(Int)×(List Int)):Prop:=0<=z.1/\z.1<=words.length/\(z.2.length:Int)=4*z.1
def Q6t(words:(List Int))(z:(Int)×(List Int)):Nat:=(words.length-z.1).toNat
def Q4u(words:(List Int)):Tree (List UInt8):=
.cn (Nat.blt 0 1&&Nat.beq 1 1&&List.all [D.int u8 0] D.plain&&decide ((0:Int)<=(0:Int)/\0<=wrap i64 (4*(words.length:Int))/\wrap i64 (4*(words.length:Int))<=9223372036854775807/\(↑1:Int)*wrap i64 (4*(words.length:Int))<=140737488355328)) (.lp inferInstance (Q6t words (0,[])+1) ((True/\((Els.Nil (Els.ints u32 words)\/rE (1:Nat))/\rE (words:List Int))/\rE ((words.length:Int):Int)/\rE (0:Int)/\True)/\rE ([]:List Int)/\True) (0,[]) λ(v0:Int×List Int)=> .br (decide (v0.1<(words.length:Int))) (.cn (Nat.beq 1 1&&Nat.blt 0 1&&decide (0<=v0.1/\v0.1<(words.length:Int))) (.cn (decide (1*(v0.2.length+4)<=140737488355328)) (let E1:=words.getD v0.1.toNat 0; .nx ((True/\((Els.Nil (Els.ints u32 words)\/rE (1:Nat))/\rE (words:List Int))/\rE ((words.length:Int):Int)/\rE ((wrap i64 (v0.1+1)):Int)/\True)/\rE ((v0.2++[wrap u8 (words.getD v0.1.toNat 0),wrap u8 (ishr u32 (words.getD v0.1.toNat 0) 8),wrap u8 (ishr u32 (words.getD v0.1.toNat 0) 16),wrap u8 (ishr u32 (words.getD v0.1.toNat 0) 24)]):List Int)/\True) (Sum.inl (wrap i64 (v0.1+1),v0.2++[wrap u8 E1,wrap u8 (ishr u32 E1 8),wrap u8 (ishr u32 E1 16),wrap u8 (ishr u32 E1 24)]))))) (.lf (Sum.inr (bytesOf v0.2))))
def Z1j(words:(List Int)):(List UInt8):=(Q4u words).m
def Qbx(words:(List Int)):Prop:=
words.length<=1000000000000
theorem Z0m(words:(List Int))(hw:Qbx words):(Q4u words).p:=by
 simp only[Qbx]at hw
 unfold Tree.p Q4u
 repeat'(first|refine w_lp (inv:=Qls words) (μ:=Q6t words) ?_ (Nat.lt_succ_self _) (λ_ _=> ?_)|exact trivial|refine w_br (λ_=> ?_) (λ_=> ?_)|refine w_cn ?_ ?_|refine w_an ?_ ?_|refine w_lv (λ_ _=> ?_)|refine w_nx ?_|refine w_lf ?_|refine And.intro ?_ ?_)
 all_goals((try simp only[Qls,Q6t]at*);((subst_vars;first|trivial|assumption|omega|((simp(config:={decide:=true,failIfUnchanged:=false}) only[Bool.and_eq_true,Bool.or_eq_true,Bool.and_eq_false_iff,Bool.or_eq_false_iff,Bool.not_eq_true',Bool.not_eq_false',Bool.not_eq_true,Bool.not_eq_false,decide_eq_true_eq,decide_eq_false_iff_not,Q4j,Q2t,Q4f,Q2u,beq_iff_eq,beq_eq_false_iff_ne,bne_iff_ne,bne_eq_false_iff_eq,ne_eq,List.all_cons,List.all_nil,D.plain,List.length_cons,List.length_nil,List.length_append,List.length_set,List.length_replicate,IntKind.wrap_i64,IntKind.wrap_u64,IntKind.wrap_u32,IntKind.wrap_i32,IntKind.wrap_u8,true_and,and_true,or_false,false_or,or_true,true_or,not_true_eq_false,not_false_eq_true,Prod.fst,Prod.snd]at*);first|done|assumption|omega)|((simp(config:={decide:=true,failIfUnchanged:=false}) only[Bool.and_eq_true,Bool.or_eq_true,Bool.and_eq_false_iff,Bool.or_eq_false_iff,Bool.not_eq_true',Bool.not_eq_false',Bool.not_eq_true,Bool.not_eq_false,decide_eq_true_eq,decide_eq_false_iff_not,Q4j,Q2t,Q4f,Q2u,beq_iff_eq,beq_eq_false_iff_ne,bne_iff_ne,bne_eq_false_iff_eq,ne_eq,List.all_cons,List.all_nil,D.plain,List.length_cons,List.length_nil,List.length_append,List.length_set,List.length_replicate,IntKind.wrap_i64,IntKind.wrap_u64,IntKind.wrap_u32,IntKind.wrap_i32,IntKind.wrap_u8,true_and,and_true,or_false,false_or,or_true,true_or,not_true_eq_false,not_false_eq_true,Prod.fst,Prod.snd]at*);simp only[<-List.length_pos_iff]at*;omega)|(simp_all;done)|(have:= @Qfc;simp_all;try omega))))
def Z3w:LInv:={
 α:=(Int)×(List Int)
 F:=λst a=>([(3, .all 0),(10,(lk st 10)),(11,(lk st 11)),(12, .int i64 a.1)],[⟨false,5,1, .ints u8 a.2⟩])
 a0:=λst=>((lk st 12).toInt,(Q4e st.rows (rN st 3)))
 ex0:=λst=>[]++[(Q0r (lk st 3) (st.rows.length+0))]
 next:=λst=>((lk st 12).toInt,(Q4e st.rows (rN st 3)))
 ex:=λst=>[]++[(Q0r (lk st 3) (st.rows.length+0))]}
def Qxr:List (Nat×LInv):=[(3,Z3w)]
def Z76:Q0c:=mkP 229 [] true [.one (.ints .u32)] [] (λargs rows=>Qbx (argL .u32 args 0)) (λargs rows=>Z1j (argL .u32 args 0)) (λX=> .str X) (λX=>[])
theorem Z2e:Q05 Tryz.prog Z76:=Q0n Q0j Q0k (.nil) Tryz.func229 Tryz.call229 (λargs rows=>Q4u (argL .u32 args 0)) [] Qxr 3 (λ_ _ _=>by kernel_rfl) (λ_ _=>rfl) (λargs rows h=>Z0m (argL .u32 args 0) h) (λ_ X=>by kernel_rfl)
def Q65(m:(List Int))(frame:Int):Tree ((List UInt8)×Bool):=
.lv (Q50 m frame) λ(x0:Bool)=> .br (!x0) (.lf ([],false)) (.cn (Nat.beq 1 1&&Nat.blt 0 1&&decide (0<=wrap i64 (frame*32)/\wrap i64 (frame*32)<=wrap i64 (wrap i64 (frame*32)+32)/\wrap i64 (wrap i64 (frame*32)+32)<=(m.length:Int))) (let E1:=List.take (Int.toNat (wrap i64 (wrap i64 (frame*32)+32))-Int.toNat (wrap i64 (frame*32))) (List.drop (Int.toNat (wrap i64 (frame*32))) m); .an (Qbx E1) (.lv (Z1j E1) λ(x1:List UInt8)=> .lf (x1,true))))
def Q56(m:(List Int))(frame:Int):((List UInt8)×Bool):=(Q65 m frame).m
abbrev Qbq(m:(List Int))(frame:Int):Prop:=(Q65 m frame).p
def Z98:Q0c:=mkP 169 [] true [.one (.ints .u32), .one (.int .i64)] [] (λargs rows=>Qbq (argL .u32 args 0) (argI args 1)) (λargs rows=>Q56 (argL .u32 args 0) (argI args 1)) (λX=> .tup [.str (X.1), .bool (X.2)]) (λX=>[])
theorem Qj3:Q05 Tryz.prog Z98:=Q0n Q0j Q0k (.cons Qjr (.cons Z2e (.nil))) Tryz.func169 Tryz.call169 (λargs rows=>Q65 (argL .u32 args 0) (argI args 1)) [] [] 2 (λ_ _ _=>by kernel_rfl) (λ_ _=>rfl) (λ_ _ h=>h) (λ_ X=>by kernel_rfl)
def Qp8(d0:Q0f)(at0:Int):Tree (Q02×Bool):=
.br (d0.C2 !=1) (.lf ({B5:=0,At:=0,B9:=0,C8:=[]},false)) (.br (d0.D8==1) (.lf ({B5:=3,At:=at0,B9:=d0.B7,C8:=[]},true)) (.br (d0.D8==2) (.lf ({B5:=4,At:=at0,B9:=d0.B7,C8:=d0.C4},true)) (.lf ({B5:=0,At:=0,B9:=0,C8:=[]},false))))
def Qik(d0:Q0f)(at0:Int):(Q02×Bool):=(Qp8 d0 at0).m
def Z2h:Q0c:=mkR 263 [] true [.agg Q0f.sig, .one (.int .u64)] [] (λargs rows=>Qik (Q0f.of (args.getD 0 .dead).cells) (argI args 1)) (λX=> .tup [.agg (Q02.cells (X.1)), .bool (X.2)]) (λX=>[])
theorem Z1b:Q05 Tryz.prog Z2h:=Q0z Q0j Q0k (.nil) Tryz.func263 Tryz.call263 (λargs rows=>Qp8 (Q0f.of (args.getD 0 .dead).cells) (argI args 1)) [] [] 2 (λ_ _ _=>by kernel_rfl) (λ_ _=>rfl) (λ_ _=>Tree.free_ok (by kernel_rfl)) (λ_ X=>by kernel_rfl)
def Qbb(d0:Q0f)(m:(List Int))(cmd:Int)(at0:Int):Tree (Q0f×(List Q02)):=
.br (d0.C2 !=0) (.lf (d0,[])) (let T1:Tree ((Q0f×(List Q02))):= .lf ({Blocks:=d0.Blocks,B9:=d0.B9,B4:=d0.B4,C2:=3,D8:=d0.D8,B7:=d0.B7,B3:=d0.B3,C4:=d0.C4},[]); .br (decide (d0.B9>=d0.Blocks)) T1 (.lv (Q9j m d0.B4) λ(x0:Bool)=> .br (!x0) T1 (.br (cmd==2) (.an (Qbq m (wrap i64 d0.B4)) (.lv (Q56 m (wrap i64 d0.B4)) λ(x1:List UInt8×Bool)=>let E2:=({Blocks:=d0.Blocks,B9:=d0.B9,B4:=d0.B4,C2:=1,D8:=cmd,B7:=d0.B9,B3:=d0.B4,C4:=x1.1}:Q0f); .lv (Qik E2 at0) λ(x2:Q02×Bool)=> .lf (E2,[x2.1]))) (let E3:=({Blocks:=d0.Blocks,B9:=d0.B9,B4:=d0.B4,C2:=1,D8:=cmd,B7:=d0.B9,B3:=d0.B4,C4:=[]}:Q0f); .lv (Qik E3 at0) λ(x3:Q02×Bool)=> .lf (E3,[x3.1])))))
def Quf(d0:Q0f)(m:(List Int))(cmd:Int)(at0:Int):(Q0f×(List Q02)):=(Qbb d0 m cmd at0).m
abbrev Qp9(d0:Q0f)(m:(List Int))(cmd:Int)(at0:Int):Prop:=(Qbb d0 m cmd at0).p
def Zao:Q0c:=mkP 230 [] true [.agg Q0f.sig, .one (.ints .u32), .one (.int .i64), .one (.int .u64)] [] (λargs rows=>Qp9 (Q0f.of (args.getD 0 .dead).cells) (argL .u32 args 1) (argI args 2) (argI args 3)) (λargs rows=>Quf (Q0f.of (args.getD 0 .dead).cells) (argL .u32 args 1) (argI args 2) (argI args 3)) (λX=> .tup [.agg (Q0f.cells (X.1)), .sl 4 (.recs .apiOutput (X.2)) true]) (λX=>[])
theorem Z82:Q05 Tryz.prog Zao:=Q0n Q0j Q0k (.cons Qp6 (.cons Qj3 (.cons Z1b (.nil)))) Tryz.func230 Tryz.call230 (λargs rows=>Qbb (Q0f.of (args.getD 0 .dead).cells) (argL .u32 args 1) (argI args 2) (argI args 3)) [.sl (.recs .apiOutput) true] [] 2 (λ_ _ _=>by kernel_rfl) (λ_ _=>rfl) (λ_ _ h=>h) (λ_ X=>by kernel_rfl)
def Qgf(d0:Q0f)(m:(List Int))(port:Int)(v:Int)(at0:Int):Tree (Q0f×(List Q02)):=
.br (port==4) (.lf ({Blocks:=d0.Blocks,B9:=v,B4:=d0.B4,C2:=d0.C2,D8:=d0.D8,B7:=d0.B7,B3:=d0.B3,C4:=d0.C4},[])) (.br (port==5) (.lf ({Blocks:=d0.Blocks,B9:=d0.B9,B4:=v,C2:=d0.C2,D8:=d0.D8,B7:=d0.B7,B3:=d0.B3,C4:=d0.C4},[])) (.br (port==6) (let T1:Tree ((Q0f×(List Q02))):= .an (Qp9 d0 m (wrap i64 v) at0) (.lv (Quf d0 m (wrap i64 v) at0) λ(x0:Q0f×List Q02)=> .lf (x0.1,x0.2)); .br (v==1) T1 (.br (v==2) T1 (.br (v==0) (.lv (Q8v d0) λ(x2:Bool)=> .br x2 (.lf ({Blocks:=d0.Blocks,B9:=d0.B9,B4:=d0.B4,C2:=0,D8:=d0.D8,B7:=d0.B7,B3:=d0.B3,C4:=d0.C4},[])) (.lf (d0,[]))) (.lf (d0,[]))))) (.lf (d0,[]))))
def Qyg(d0:Q0f)(m:(List Int))(port:Int)(v:Int)(at0:Int):(Q0f×(List Q02)):=(Qgf d0 m port v at0).m
abbrev Qvm(d0:Q0f)(m:(List Int))(port:Int)(v:Int)(at0:Int):Prop:=(Qgf d0 m port v at0).p
def Zk7:Q0c:=mkP 176 [] true [.agg Q0f.sig, .one (.ints .u32), .one (.int .i64), .one (.int .u32), .one (.int .u64)] [] (λargs rows=>Qvm (Q0f.of (args.getD 0 .dead).cells) (argL .u32 args 1) (argI args 2) (argI args 3) (argI args 4)) (λargs rows=>Qyg (Q0f.of (args.getD 0 .dead).cells) (argL .u32 args 1) (argI args 2) (argI args 3) (argI args 4)) (λX=> .tup [.agg (Q0f.cells (X.1)), .sl 4 (.recs .apiOutput (X.2)) true]) (λX=>[])
theorem Zgr:Q05 Tryz.prog Zk7:=Q0n Q0j Q0k (.cons Z82 (.cons Qn (.nil))) Tryz.func176 Tryz.call176 (λargs rows=>Qgf (Q0f.of (args.getD 0 .dead).cells) (argL .u32 args 1) (argI args 2) (argI args 3) (argI args 4)) [.sl (.recs .apiOutput) true] [] 2 (λ_ _ _=>by kernel_rfl) (λ_ _=>rfl) (λ_ _ h=>h) (λ_ X=>by kernel_rfl)
def Qex(m:(List Int))(frame:Int):Tree Bool:=
.lv (Q0v m) λ(x0:Int)=> .lf (decide (wrap u64 frame<wrap u64 x0))
def Q9n(m:(List Int))(frame:Int):Bool:=(Qex m frame).m
def Zcm:Q0c:=mkR 168 [] true [.one (.ints .u32), .one (.int .u32)] [] (λargs rows=>Q9n (argL .u32 args 0) (argI args 1)) (λX=> .bool X) (λX=>[])
theorem Ql8:Q05 Tryz.prog Zcm:=Q0z Q0j Q0k (.cons Q41 (.nil)) Tryz.func168 Tryz.call168 (λargs rows=>Qex (argL .u32 args 0) (argI args 1)) [] [] 2 (λ_ _ _=>by kernel_rfl) (λ_ _=>rfl) (λ_ _=>Tree.free_ok (by kernel_rfl)) (λ_ X=>by kernel_rfl)
def Qgi(n:Q0q)(m:(List Int))(at0:Int):Tree (List Q02):=
.br (decide (n.F0<1)) (.lf ([])) (.br (decide (n.F0>128)) (.lf ([])) (.lv (Q9n m n.B4) λ(x0:Bool)=> .br (!x0) (.lf ([])) (.an (Qbq m (wrap i64 n.B4)) (.lv (Q56 m (wrap i64 n.B4)) λ(x1:List UInt8×Bool)=> .cn (decide ((0:Int)<=(0:Int)/\0<=n.F0/\n.F0<=(x1.1.length:Int))) (.lf ([{B5:=2,At:=at0,B9:=0,C8:=List.take (Int.toNat n.F0-Int.toNat 0) (List.drop (Int.toNat 0) x1.1)}]))))))
def Z6h(n:Q0q)(m:(List Int))(at0:Int):(List Q02):=(Qgi n m at0).m
abbrev Qwe(n:Q0q)(m:(List Int))(at0:Int):Prop:=(Qgi n m at0).p
def Zjc:Q0c:=mkP 231 [] true [.agg Q0q.sig, .one (.ints .u32), .one (.int .u64)] [] (λargs rows=>Qwe (Q0q.of (args.getD 0 .dead).cells) (argL .u32 args 1) (argI args 2)) (λargs rows=>Z6h (Q0q.of (args.getD 0 .dead).cells) (argL .u32 args 1) (argI args 2)) (λX=> .sl 4 (.recs .apiOutput X) true) (λX=>[])
theorem Zfq:Q05 Tryz.prog Zjc:=Q0n Q0j Q0k (.cons Ql8 (.cons Qj3 (.nil))) Tryz.func231 Tryz.call231 (λargs rows=>Qgi (Q0q.of (args.getD 0 .dead).cells) (argL .u32 args 1) (argI args 2)) [.sl (.recs .apiOutput) true] [] 2 (λ_ _ _=>by kernel_rfl) (λ_ _=>rfl) (λ_ _ h=>h) (λ_ X=>by kernel_rfl)
def Qjn(n:Q0q)(m:(List Int))(port:Int)(v:Int)(at0:Int):Tree (Q0q×(List Q02)):=
.br (port==7) (.lf ({B4:=v,F0:=n.F0,C7:=n.C7,C1:=n.C1,B8:=n.B8,F2:=n.F2},[])) (.br (port==8) (.lf ({B4:=n.B4,F0:=v,C7:=n.C7,C1:=n.C1,B8:=n.B8,F2:=n.F2},[])) (.br (port==9) (.br (v==1) (.an (Qwe n m at0) (.lv (Z6h n m at0) λ(x0:List Q02)=> .lf (n,x0))) (.br (v==2) (.lv (Q9n m n.B4) λ(x1:Bool)=> .br x1 (.br (!n.C7) (.br (!n.B8) (.lf ({B4:=n.B4,F0:=n.F0,C7:=true,C1:=n.B4,B8:=n.B8,F2:=n.F2},[])) (.lf (n,[]))) (.lf (n,[]))) (.lf (n,[]))) (.br (v==0) (.lf ({B4:=n.B4,F0:=n.F0,C7:=n.C7,C1:=n.C1,B8:=false,F2:=0},[])) (.lf (n,[]))))) (.lf (n,[]))))
def Z6z(n:Q0q)(m:(List Int))(port:Int)(v:Int)(at0:Int):(Q0q×(List Q02)):=(Qjn n m port v at0).m
abbrev Z1(n:Q0q)(m:(List Int))(port:Int)(v:Int)(at0:Int):Prop:=(Qjn n m port v at0).p
def yB:Q0c:=mkP 177 [] true [.agg Q0q.sig, .one (.ints .u32), .one (.int .i64), .one (.int .u32), .one (.int .u64)] [] (λargs rows=>Z1 (Q0q.of (args.getD 0 .dead).cells) (argL .u32 args 1) (argI args 2) (argI args 3) (argI args 4)) (λargs rows=>Z6z (Q0q.of (args.getD 0 .dead).cells) (argL .u32 args 1) (argI args 2) (argI args 3) (argI args 4)) (λX=> .tup [.agg (Q0q.cells (X.1)), .sl 4 (.recs .apiOutput (X.2)) true]) (λX=>[])
theorem Zjd:Q05 Tryz.prog yB:=Q0n Q0j Q0k (.cons Zfq (.cons Ql8 (.nil))) Tryz.func177 Tryz.call177 (λargs rows=>Qjn (Q0q.of (args.getD 0 .dead).cells) (argL .u32 args 1) (argI args 2) (argI args 3) (argI args 4)) [.sl (.recs .apiOutput) true] [] 2 (λ_ _ _=>by kernel_rfl) (λ_ _=>rfl) (λ_ _ h=>h) (λ_ X=>by kernel_rfl)
def Qa8(m:(List Int))(frame:Int)(s:(List UInt8))(z:(Int)×(List Int)):Nat:=(32-z.1).toNat
def Q37(m:(List Int))(frame:Int)(s:(List UInt8)):Tree ((List Int)×Bool):=
.an (Q06 m) (.lv (Q03 m) λ(x0:List Int)=> .lv (Q50 m frame) λ(x1:Bool)=> .br (!x1) (.lf (x0,false)) (.br ((s.length:Int) !=(128:Int)) (.lf (x0,false)) (.lp inferInstance (Qa8 m frame s (0,x0)+1) ((rE (s:List UInt8)/\True/\rE ((wrap i64 (frame*32)):Int)/\rE (0:Int)/\True)/\rE (x0:List Int)/\True) (0,x0) λ(v0:Int×List Int)=> .br (decide (v0.1<32)) (.cn (decide (0<=wrap i64 (4*v0.1)/\wrap i64 (4*v0.1)<=wrap i64 (wrap i64 (4*v0.1)+4)/\wrap i64 (wrap i64 (4*v0.1)+4)<=(s.length:Int))) (let E1:=List.take (Int.toNat (wrap i64 (wrap i64 (4*v0.1)+4))-Int.toNat (wrap i64 (4*v0.1))) (List.drop (Int.toNat (wrap i64 (4*v0.1))) s); .cn (decide ((0:Int)<=(0:Int)/\0<(↑(List.length E1):Int))) (.cn (decide ((0:Int)<=(1:Int)/\1<(↑(List.length E1):Int))) (.cn (decide ((0:Int)<=(2:Int)/\2<(↑(List.length E1):Int))) (.cn (decide ((0:Int)<=(3:Int)/\3<(↑(List.length E1):Int))) (.cn (Nat.beq 1 1&&Nat.blt 0 1&&decide (0<=wrap i64 (wrap i64 (frame*32)+v0.1)/\wrap i64 (wrap i64 (frame*32)+v0.1)<(v0.2.length:Int))) (.nx ((rE (s:List UInt8)/\True/\rE ((wrap i64 (frame*32)):Int)/\rE ((wrap i64 (v0.1+1)):Int)/\True)/\rE ((List.set v0.2 (Int.toNat (wrap i64 (wrap i64 (frame*32)+v0.1))) (ior u32 (ior u32 (ior u32 (wrap u32 (↑(UInt8.toNat (List.getD (List.take (Int.toNat (wrap i64 (wrap i64 (4*v0.1)+4))-Int.toNat (wrap i64 (4*v0.1))) (List.drop (Int.toNat (wrap i64 (4*v0.1))) s)) (Int.toNat 0) (0:UInt8))):Int)) (ishl u32 (wrap u32 (↑(UInt8.toNat (List.getD (List.take (Int.toNat (wrap i64 (wrap i64 (4*v0.1)+4))-Int.toNat (wrap i64 (4*v0.1))) (List.drop (Int.toNat (wrap i64 (4*v0.1))) s)) (Int.toNat 1) (0:UInt8))):Int)) 8)) (ishl u32 (wrap u32 (↑(UInt8.toNat (List.getD (List.take (Int.toNat (wrap i64 (wrap i64 (4*v0.1)+4))-Int.toNat (wrap i64 (4*v0.1))) (List.drop (Int.toNat (wrap i64 (4*v0.1))) s)) (Int.toNat 2) (0:UInt8))):Int)) 16)) (ishl u32 (wrap u32 (↑(UInt8.toNat (List.getD (List.take (Int.toNat (wrap i64 (wrap i64 (4*v0.1)+4))-Int.toNat (wrap i64 (4*v0.1))) (List.drop (Int.toNat (wrap i64 (4*v0.1))) s)) (Int.toNat 3) (0:UInt8))):Int)) 24))):List Int)/\True) (Sum.inl (wrap i64 (v0.1+1),List.set v0.2 (Int.toNat (wrap i64 (wrap i64 (frame*32)+v0.1))) (ior u32 (ior u32 (ior u32 (wrap u32 (↑(UInt8.toNat (List.getD E1 (Int.toNat 0) (0:UInt8))):Int)) (ishl u32 (wrap u32 (↑(UInt8.toNat (List.getD E1 (Int.toNat 1) (0:UInt8))):Int)) 8)) (ishl u32 (wrap u32 (↑(UInt8.toNat (List.getD E1 (Int.toNat 2) (0:UInt8))):Int)) 16)) (ishl u32 (wrap u32 (↑(UInt8.toNat (List.getD E1 (Int.toNat 3) (0:UInt8))):Int)) 24))))))))))) (.lf (Sum.inr (v0.2,true))))))
def Q2k(m:(List Int))(frame:Int)(s:(List UInt8)):((List Int)×Bool):=(Q37 m frame s).m
abbrev Q8k(m:(List Int))(frame:Int)(s:(List UInt8)):Prop:=(Q37 m frame s).p
def Qv0:LInv:={
 α:=(Int)×(List Int)
 F:=λst a=>([(2,(lk st 2)),(8, .all 0),(9,(lk st 9)),(26, .int i64 a.1)],[⟨false,23,1, .ints u32 a.2⟩])
 a0:=λst=>((lk st 26).toInt,(Q4e st.rows (rN st 8)))
 ex0:=λst=>[]++[(Q0r (lk st 8) (st.rows.length+0))]
 next:=λst=>((lk st 26).toInt,(Q4e st.rows (rN st 8)))
 ex:=λst=>[]++[(Q0r (lk st 8) (st.rows.length+0))]}
def Qq4:List (Nat×LInv):=[(6,Qv0)]
def Qxu:Q0c:=mkP 167 [] true [.one (.ints .u32), .one (.int .i64), .one (.str)] [] (λargs rows=>Q8k (argL .u32 args 0) (argI args 1) (argS args 2)) (λargs rows=>Q2k (argL .u32 args 0) (argI args 1) (argS args 2)) (λX=> .tup [.all 0, .bool (X.2)]) (λX=>[⟨false,23,1, .ints .u32 (X.1)⟩])
theorem Qdm:Q05 Tryz.prog Qxu:=Q0n Q0j Q0k (.cons Q0w (.cons Qjr (.nil))) Tryz.func167 Tryz.call167 (λargs rows=>Q37 (argL .u32 args 0) (argI args 1) (argS args 2)) [.row 23 1 (.ints .u32)] Qq4 3 (λ_ _ _=>by kernel_rfl) (λ_ _=>rfl) (λ_ _ h=>h) (λ_ X=>by kernel_rfl)
def strings_Repeat(s:(List UInt8))(count:Int):(List UInt8):=
Lib.repeatL s count.toNat
def Qck(s:(List UInt8))(count:Int):Prop:=
0<=count/\count<=9223372036854775807/\s.length*count.toNat<=140737488355328
def Qgs(s:(List UInt8))(count:Int):List D:=[.str s, .int .i64 count]
def Qi1(s:(List UInt8))(count:Int):List Row:=[]
def Qbw(X:(List UInt8)):D:= .str X
def Qc3(X:(List UInt8)):List Row:=[]
def Qip:List PT:=[.one (.str), .one (.int .i64)]
def Qh:List RT:=[]
def Qt4(args:List D)(rows:List Row):(List UInt8):=strings_Repeat (argS args 0) (argI args 1)
def Qsv(args:List D)(rows:List Row):Prop:=Qck (argS args 0) (argI args 1)
def Qwy:Q0c:=mkP 232 [] true Qip Qh Qsv Qt4 Qbw Qc3
theorem Qp2(s:(List UInt8))(count:Int)(hw:Qck s count):Q40 Tryz.prog 232 (Qgs s count) (Qi1 s count) (Qbw (strings_Repeat s count)) (Qc3 (strings_Repeat s count)):=by
 exact vq Tryz.strings_Repeat hw.1 hw.2.1 hw.2.2
set_option maxRecDepth 100000 in
theorem Qqr(args:List D)(rows:List Row):Qih Qip args 0=Qgs (argS args 0) (argI args 1):=by kernel_rfl
set_option maxRecDepth 100000 in
theorem Qov(args:List D)(rows:List Row):Q70 Qh rows 0=Qi1 (argS args 0) (argI args 1):=by kernel_rfl
set_option maxRecDepth 100000 in
theorem Qu1(X:(List UInt8)):(ffB (Qbw X)&&ffBR (Qc3 X))=true:=by kernel_rfl
theorem Qu4:Q05 Tryz.prog Qwy:=Z4t Tryz.call232 (λargs rows hp=>by rw[Qqr args rows,Qov args rows];exact Qp2 (argS args 0) (argI args 1) hp) (λ_ X=>Qu1 X)
def Q3q(b:Q07)(m:(List Int))(port:Int)(v:Int):Tree (Q07×(List Int)):=
let T1:Tree ((Q07×(List Int))):= .an (Q06 m) (.lv (Q03 m) λ(x0:List Int)=> .lf (b,x0)); .br (decide (v>=32)) T1 (.cn (decide (0<=v)) (.br (port==10) (.lv (Q0v m) λ(x1:Int)=> .br (decide (wrap i64 v<x1)) (.br (iand u32 b.C3 (ishl u32 1 v)==0) (.an (Qck [(0:UInt8)] 128) (.lv (strings_Repeat [(0:UInt8)] 128) λ(x2:List UInt8)=> .an (Q8k m (wrap i64 v) x2) (.lv (Q2k m (wrap i64 v) x2) λ(x3:List Int×Bool)=> .lf ({D0:=b.D0,C3:=ior u32 b.C3 (ishl u32 1 v)},x3.1)))) T1) T1) (.br (port==11) (.an (Q06 m) (.lv (Q03 m) λ(x6:List Int)=> .lf ({D0:=b.D0,C3:=Qft u32 b.C3 (ishl u32 1 v)},x6))) T1)))
def Q7l(b:Q07)(m:(List Int))(port:Int)(v:Int):(Q07×(List Int)):=(Q3q b m port v).m
abbrev Qmo(b:Q07)(m:(List Int))(port:Int)(v:Int):Prop:=(Q3q b m port v).p
def Z73:Q0c:=mkP 178 [] true [.agg Q07.sig, .one (.ints .u32), .one (.int .i64), .one (.int .u32)] [] (λargs rows=>Qmo (Q07.of (args.getD 0 .dead).cells) (argL .u32 args 1) (argI args 2) (argI args 3)) (λargs rows=>Q7l (Q07.of (args.getD 0 .dead).cells) (argL .u32 args 1) (argI args 2) (argI args 3)) (λX=> .tup [.agg (Q07.cells (X.1)), .all 0]) (λX=>[⟨false,23,1, .ints .u32 (X.2)⟩])
theorem Z3a:Q05 Tryz.prog Z73:=Q0n Q0j Q0k (.cons Q0w (.cons Q41 (.cons Qdm (.cons Qu4 (.nil))))) Tryz.func178 Tryz.call178 (λargs rows=>Q3q (Q07.of (args.getD 0 .dead).cells) (argL .u32 args 1) (argI args 2) (argI args 3)) [.row 23 1 (.ints .u32)] [] 2 (λ_ _ _=>by kernel_rfl) (λ_ _=>rfl) (λ_ _ h=>h) (λ_ X=>by kernel_rfl)
def Q3e(m:Q00)(port:Int)(v:Int)(at0:Int):Tree (Q00×(List Q02)):=
.br (port==0) (.lf (m,[{B5:=1,At:=at0,B9:=0,C8:=[(λ(n:Int)=>UInt8.ofNat n.toNat) (wrap u8 v)]}])) (.br (port==3) (.lv (Qjq m.B0 v) λ(x0:Q0g)=> .lf ({B2:=m.B2,Mem:=m.Mem,A3:=m.A3,B0:=x0,B1:=m.B1,C5:=m.C5,A2:=m.A2,A1:=m.A1,A4:=m.A4,A7:=m.A7},[])) (let T1:Tree ((Q00×(List Q02))):= .an (Qvm m.B1 m.Mem port v at0) (.lv (Qyg m.B1 m.Mem port v at0) λ(x1:Q0f×List Q02)=> .lf ({B2:=m.B2,Mem:=m.Mem,A3:=m.A3,B0:=m.B0,B1:=x1.1,C5:=m.C5,A2:=m.A2,A1:=m.A1,A4:=m.A4,A7:=m.A7},x1.2)); .br (port==4) T1 (.br (port==5) T1 (.br (port==6) T1 (let T2:Tree ((Q00×(List Q02))):= .an (Z1 m.C5 m.Mem port v at0) (.lv (Z6z m.C5 m.Mem port v at0) λ(x4:Q0q×List Q02)=> .lf ({B2:=m.B2,Mem:=m.Mem,A3:=m.A3,B0:=m.B0,B1:=m.B1,C5:=x4.1,A2:=m.A2,A1:=m.A1,A4:=m.A4,A7:=m.A7},x4.2)); .br (port==7) T2 (.br (port==8) T2 (.br (port==9) T2 (let T3:Tree ((Q00×(List Q02))):= .an (Qmo m.A2 m.Mem port v) (.lv (Q7l m.A2 m.Mem port v) λ(x7:Q07×List Int)=> .lf ({B2:=m.B2,Mem:=x7.2,A3:=m.A3,B0:=m.B0,B1:=m.B1,C5:=m.C5,A2:=x7.1,A1:=m.A1,A4:=m.A4,A7:=m.A7},[])); .br (port==10) T3 (.br (port==11) T3 (.lf (m,[])))))))))))
def Q2e(m:Q00)(port:Int)(v:Int)(at0:Int):(Q00×(List Q02)):=(Q3e m port v at0).m
abbrev Qev(m:Q00)(port:Int)(v:Int)(at0:Int):Prop:=(Q3e m port v at0).p
def Qq:Q0c:=Q0c.fz<|mkP 126 [] false [.agg Q00.sig, .one (.int .i64), .one (.int .u32), .one (.int .u64)] [] (λargs rows=>Qev (Q00.of (args.getD 0 .dead).cells) (argI args 1) (argI args 2) (argI args 3)) (λargs rows=>Q2e (Q00.of (args.getD 0 .dead).cells) (argI args 1) (argI args 2) (argI args 3)) (λX=> .tup [.agg (Q00.cells (X.1)), .sl 4 (.recs .apiOutput (X.2)) true]) (λX=>[])
theorem Qp3:Q05 Tryz.prog Qq:=fz_ok<|Q0n Q0j Q0k (.cons Zca (.cons Zgr (.cons Zjd (.cons Z3a (.nil))))) Tryz.func126 Tryz.call126 (λargs rows=>Q3e (Q00.of (args.getD 0 .dead).cells) (argI args 1) (argI args 2) (argI args 3)) [.sl (.ints .u32) false, .sl (.recs .apiOutput) true] [] 2 (λ_ _ _=>by kernel_rfl) (λ_ _=>rfl) (λ_ _ h=>h) (λh=>by cases h)
def Q2l(m:Q00)(clock:Int):Tree (Q00×(List Q02)):=
.an (Q06 m.Mem) (.lv (Q03 m.Mem) λ(x0:List Int)=>let E1:=({B2:=m.B2,Mem:=x0,A3:=m.A3,B0:=m.B0,B1:=m.B1,C5:=m.C5,A2:=m.A2,A1:=m.A1,A4:=m.A4,A7:=m.A7}:Q00); .an (Qaq E1) (.lv (Q23 E1) λ(x1:Bool)=> .br (!x1) (.lf (E1,[])) (.an (Q9r E1) (.lv (Q0p E1) λ(x2:Q00)=> .an (Qiz x2.B2 x2.Mem) (.lv (Q4s x2.B2 x2.Mem) λ(x3:Q04×List Int×Q11)=>let E2:=({B2:=x3.1,Mem:=x3.2.1,A3:=x2.A3,B0:=x2.B0,B1:=x2.B1,C5:=x2.C5,A2:=x2.A2,A1:=x2.A1,A4:=x2.A4,A7:=x2.A7}:Q00); .br (x3.2.2.B5==1) (.an (Qfl E2 x3.2.2.D1 clock) (.lv (Q10 E2 x3.2.2.D1 clock) λ(x4:Q00×Int)=> .br (x3.2.2.E0 !=0) (.cn (Nat.blt 0 1&&decide (0<=x3.2.2.E0/\x3.2.2.E0<(↑16:Int))) (.lf ({B2:={X:=A16.of 0 (List.set (A16.l x4.1.B2.X) x3.2.2.E0.toNat x4.2),Pc:=x4.1.B2.Pc,B6:=x4.1.B2.B6},Mem:=x4.1.Mem,A3:=x4.1.A3,B0:=x4.1.B0,B1:=x4.1.B1,C5:=x4.1.C5,A2:=x4.1.A2,A1:=wrap u64 (x4.1.A1+1),A4:=x4.1.A4,A7:=x4.1.A7},[]))) (.lf ({B2:=x4.1.B2,Mem:=x4.1.Mem,A3:=x4.1.A3,B0:=x4.1.B0,B1:=x4.1.B1,C5:=x4.1.C5,A2:=x4.1.A2,A1:=wrap u64 (x4.1.A1+1),A4:=x4.1.A4,A7:=x4.1.A7},[])))) (.br (x3.2.2.B5==2) (.an (Qev E2 x3.2.2.D1 x3.2.2.Value m.A1) (.lv (Q2e E2 x3.2.2.D1 x3.2.2.Value m.A1) λ(x5:Q00×List Q02)=> .lf ({B2:=x5.1.B2,Mem:=x5.1.Mem,A3:=x5.1.A3,B0:=x5.1.B0,B1:=x5.1.B1,C5:=x5.1.C5,A2:=x5.1.A2,A1:=wrap u64 (x5.1.A1+1),A4:=x5.1.A4,A7:=x5.1.A7},x5.2))) (.br (x3.2.2.B5==3) (.lf ({B2:=x3.1,Mem:=x3.2.1,A3:=x2.A3,B0:=x2.B0,B1:=x2.B1,C5:=x2.C5,A2:=x2.A2,A1:=wrap u64 (x2.A1+1),A4:=true,A7:=x2.A7},[])) (.br (x3.2.2.B5==4) (.lf ({B2:=x3.1,Mem:=x3.2.1,A3:=x2.A3,B0:=x2.B0,B1:=x2.B1,C5:=x2.C5,A2:=x2.A2,A1:=wrap u64 (x2.A1+1),A4:=x2.A4,A7:=true},[])) (.lf ({B2:=x3.1,Mem:=x3.2.1,A3:=x2.A3,B0:=x2.B0,B1:=x2.B1,C5:=x2.C5,A2:=x2.A2,A1:=wrap u64 (x2.A1+1),A4:=x2.A4,A7:=x2.A7},[]))))))))))
def Q29(m:Q00)(clock:Int):(Q00×(List Q02)):=(Q2l m clock).m
abbrev Q7r(m:Q00)(clock:Int):Prop:=(Q2l m clock).p
def Z2n:Q0c:=Q0c.fz<|mkP 58 [] false [.agg Q00.sig, .one (.int .u32)] [] (λargs rows=>Q7r (Q00.of (args.getD 0 .dead).cells) (argI args 1)) (λargs rows=>Q29 (Q00.of (args.getD 0 .dead).cells) (argI args 1)) (λX=> .tup [.agg (Q00.cells (X.1)), .sl 4 (.recs .apiOutput (X.2)) false]) (λX=>[])
theorem Z0s:Q05 Tryz.prog Z2n:=fz_ok<|Q0n Q0j Q0k (.cons Q0w (.cons Qnj (.cons Qlu (.cons Z1l (.cons Qqd (.cons Qp3 (.nil))))))) Tryz.func58 Tryz.call58 (λargs rows=>Q2l (Q00.of (args.getD 0 .dead).cells) (argI args 1)) [.sl (.ints .u32) false, .sl (.recs .apiOutput) false] [] 2 (λ_ _ _=>by kernel_rfl) (λ_ _=>rfl) (λ_ _ h=>h) (λh=>by cases h)
end
end Go.Proofs.YtjaifpiopmhmlaaGreat

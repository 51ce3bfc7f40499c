/-
  Functions of the program: models, and that its calls come to them (by a program: gen3.py).
-/
import Derived.Test.YtjaifpiopmhmlaaGreatBareSeesBase
import Derived.Test.YtjaifpiopmhmlaaGreatBareSeesHand
import Derived.Test.YtjaifpiopmhmlaaGreatBareSeesYc
import Derived.Test.YtjaifpiopmhmlaaGreatBareSeesYb
import Derived.Test.YtjaifpiopmhmlaaGreatBareSeesYa
set_option maxRecDepth 100000
set_option linter.all false
namespace Go.Proofs.YtjaifpiopmhmlaaGreat
open Go Go.GD Go.IntKind
noncomputable section
def Q3o(m:Q00):Tree Bool:=
.an (Q57 m) (.lv (Q1c m) λ(x0:Bool)=> .br x0 (.br (!m.A7) (.an (Qaq m) (.lv (Qbf m) λ(x1:Bool)=> .br (!x1) (.lf (decide (m.A3<1152921504606846976))) (.lf false))) (.lf false)) (.lf false))
def Q41(m:Q00):Bool:=(Q3o m).m
abbrev Qam(m:Q00):Prop:=(Q3o m).p
def Z2h:Q0b:=mkP 105 [] true [.agg Q00.sig] [] (λargs rows=>Qam (Q00.of (args.getD 0 .dead).cells)) (λargs rows=>Q41 (Q00.of (args.getD 0 .dead).cells)) (λX=> .bool X) (λX=>[])
theorem Qmu:Q05 Tryz.prog Z2h:=Q0k Q0j Q0h (.cons Qjh (.cons Qn6 (.nil))) Tryz.func105 Tryz.call105 (λargs rows=>Q3o (Q00.of (args.getD 0 .dead).cells)) [] [] 2 (λ_ _ _=>by kernel_rfl) (λ_ _=>rfl) (λ_ _ h=>h) (λ_ X=>by kernel_rfl)
def Qhv(m:Q00)(z:(Int)):Nat:=(5-z).toNat
def Q3v(m:Q00):Tree Q00:=
let E1:=({B3:=m.B3,Mem:=m.Mem,A1:=m.A1,B1:=m.B1,B0:=m.B0,C7:=m.C7,A2:=m.A2,A3:=m.A3,A6:=false,A7:=m.A7}:Q00); .br (iand u32 m.B3.B7.a0 (2:Int)==(0:Int)) (.lf (E1)) (.an (Qb3 E1) (.lv (Q56 E1) λ(x0:Int)=> .lp inferInstance (Qhv m 0+1) (((rE (0:Nat)/\rE (0:Nat))/\(rE (0:Nat)/\rE (0:Nat))/\rE (x0:Int)/\rE (0:Int)/\True)/\(rE m.B3.X.a0/\rE m.B3.X.a1/\rE m.B3.X.a2/\rE m.B3.X.a3/\rE m.B3.X.a4/\rE m.B3.X.a5/\rE m.B3.X.a6/\rE m.B3.X.a7/\rE m.B3.X.a8/\rE m.B3.X.a9/\rE m.B3.X.a10/\rE m.B3.X.a11/\rE m.B3.X.a12/\rE m.B3.X.a13/\rE m.B3.X.a14/\rE m.B3.X.a15/\rE m.B3.Pc/\rE m.B3.B7.a0/\rE m.B3.B7.a1/\rE m.B3.B7.a2/\rE m.B3.B7.a3/\rE m.B3.B7.a4/\rE m.B3.B7.a5/\rE m.B3.B7.a6/\rE m.B3.B7.a7/\((Els.Nil (Els.ints u32 m.Mem)\/rE (1:Nat))/\rE m.Mem)/\rE m.A1.D5/\rE m.B1.D4/\rE m.B1.D1/\rE m.B1.D9/\rE m.B0.Blocks/\rE m.B0.B6/\rE m.B0.B4/\rE m.B0.C1/\rE m.B0.F1/\rE m.B0.B8/\rE m.B0.B2/\rE m.B0.C5/\rE m.C7.B4/\rE m.C7.F4/\rE m.C7.C9/\rE m.C7.C3/\rE m.C7.C0/\rE m.C7.F6/\rE m.A2.D0/\rE m.A2.C4/\rE m.A3/\rE (false:Bool)/\rE m.A7/\True)/\(mE zM True True)/\True) 0 λ(v0:Int)=> .br (decide (v0<5)) (.cn (decide (0<=v0)) (.br (iand u32 x0 (ishl u32 1 v0) !=0) (.lv (Q45 m.B3 (wrap i64 (16+v0)) 0) λ(x1:Q03)=> .lf (Sum.inr {B3:=x1,Mem:=m.Mem,A1:=m.A1,B1:=m.B1,B0:=m.B0,C7:=m.C7,A2:=m.A2,A3:=m.A3,A6:=false,A7:=m.A7})) (.nx (((rE (0:Nat)/\rE (0:Nat))/\(rE (0:Nat)/\rE (0:Nat))/\rE (x0:Int)/\rE ((wrap i64 (v0+1)):Int)/\True)/\(rE m.B3.X.a0/\rE m.B3.X.a1/\rE m.B3.X.a2/\rE m.B3.X.a3/\rE m.B3.X.a4/\rE m.B3.X.a5/\rE m.B3.X.a6/\rE m.B3.X.a7/\rE m.B3.X.a8/\rE m.B3.X.a9/\rE m.B3.X.a10/\rE m.B3.X.a11/\rE m.B3.X.a12/\rE m.B3.X.a13/\rE m.B3.X.a14/\rE m.B3.X.a15/\rE m.B3.Pc/\rE m.B3.B7.a0/\rE m.B3.B7.a1/\rE m.B3.B7.a2/\rE m.B3.B7.a3/\rE m.B3.B7.a4/\rE m.B3.B7.a5/\rE m.B3.B7.a6/\rE m.B3.B7.a7/\((Els.Nil (Els.ints u32 m.Mem)\/rE (1:Nat))/\rE m.Mem)/\rE m.A1.D5/\rE m.B1.D4/\rE m.B1.D1/\rE m.B1.D9/\rE m.B0.Blocks/\rE m.B0.B6/\rE m.B0.B4/\rE m.B0.C1/\rE m.B0.F1/\rE m.B0.B8/\rE m.B0.B2/\rE m.B0.C5/\rE m.C7.B4/\rE m.C7.F4/\rE m.C7.C9/\rE m.C7.C3/\rE m.C7.C0/\rE m.C7.F6/\rE m.A2.D0/\rE m.A2.C4/\rE m.A3/\rE (false:Bool)/\rE m.A7/\True)/\(mE zM True True)/\True) (Sum.inl (wrap i64 (v0+1)))))) (.lf (Sum.inr E1))))
def Q0y(m:Q00):Q00:=(Q3v m).m
abbrev Q9k(m:Q00):Prop:=(Q3v m).p
def Qxq:LInv:={
 α:=(Int)
 F:=λst a=>([(1, .ptr 0 0 0),(2, .ptr 1 0 0),(3,(lk st 3)),(15, .int i64 a)],[⟨true,41,49, .gen [[(cT st 1 0),(cT st 1 1),(cT st 1 2),(cT st 1 3),(cT st 1 4),(cT st 1 5),(cT st 1 6),(cT st 1 7),(cT st 1 8),(cT st 1 9),(cT st 1 10),(cT st 1 11),(cT st 1 12),(cT st 1 13),(cT st 1 14),(cT st 1 15),(cT st 1 16),(cT st 1 17),(cT st 1 18),(cT st 1 19),(cT st 1 20),(cT st 1 21),(cT st 1 22),(cT st 1 23),(cT st 1 24),(cT st 1 25),(cT st 1 26),(cT st 1 27),(cT st 1 28),(cT st 1 29),(cT st 1 30),(cT st 1 31),(cT st 1 32),(cT st 1 33),(cT st 1 34),(cT st 1 35),(cT st 1 36),(cT st 1 37),(cT st 1 38),(cT st 1 39),(cT st 1 40),(cT st 1 41),(cT st 1 42),(cT st 1 43),(cT st 1 44),(cT st 1 45),(cT st 1 46),(cT st 1 47),(cT st 1 48)]]⟩,⟨true,41,49, .gen [[(cT st 2 0),(cT st 2 1),(cT st 2 2),(cT st 2 3),(cT st 2 4),(cT st 2 5),(cT st 2 6),(cT st 2 7),(cT st 2 8),(cT st 2 9),(cT st 2 10),(cT st 2 11),(cT st 2 12),(cT st 2 13),(cT st 2 14),(cT st 2 15),(cT st 2 16),(cT st 2 17),(cT st 2 18),(cT st 2 19),(cT st 2 20),(cT st 2 21),(cT st 2 22),(cT st 2 23),(cT st 2 24),(cT st 2 25),(cT st 2 26),(cT st 2 27),(cT st 2 28),(cT st 2 29),(cT st 2 30),(cT st 2 31),(cT st 2 32),(cT st 2 33),(cT st 2 34),(cT st 2 35),(cT st 2 36),(cT st 2 37),(cT st 2 38),(cT st 2 39),(cT st 2 40),(cT st 2 41),(cT st 2 42),(cT st 2 43),(cT st 2 44),(cT st 2 45),(cT st 2 46),(cT st 2 47),(cT st 2 48)]]⟩])
 a0:=λst=>(lk st 15).toInt
 ex0:=λst=>[]++[(Q0n (lk st 1) (st.rows.length+0)),(Q0n (lk st 2) (st.rows.length+1))]
 next:=λst=>(lk st 15).toInt
 ex:=λst=>[]++[(Q0n (lk st 1) (st.rows.length+0)),(Q0n (lk st 2) (st.rows.length+1))]}
def Qs1:List (Nat×LInv):=[(6,Qxq)]
def Qzk:Q0b:=Q0b.fz<|mkP 106 [] false [.agg Q00.sig] [] (λargs rows=>Q9k (Q00.of (args.getD 0 .dead).cells)) (λargs rows=>Q0y (Q00.of (args.getD 0 .dead).cells)) (λX=> .agg (Q00.cells X)) (λX=>[])
theorem Qm5:Q05 Tryz.prog Qzk:=fz_ok<|Q0k Q0j Q0h (.cons Qiv (.cons Qh8 (.nil))) Tryz.func106 Tryz.call106 (λargs rows=>Q3v (Q00.of (args.getD 0 .dead).cells)) [.sl (.ints .u32) false] Qs1 3 (λ_ _ _=>by kernel_rfl) (λ_ _=>rfl) (λ_ _ h=>h) (λh=>by cases h)
def Q96(c:Q0a)(port:Int):Tree (Q0a×Int):=
.br (port==0) (.br (decide (c.D5=[])) (.lf (c,4294967295)) (.cn (decide ((0:Int)<=(0:Int)/\0<(c.D5.length:Int))) (.cn (decide ((0:Int)<=(1:Int)/\1<=(c.D5.length:Int)/\(c.D5.length:Int)<=(c.D5.length:Int))) (.lf ({D5:=List.take (Int.toNat (c.D5.length:Int)-Int.toNat 1) (List.drop (Int.toNat 1) c.D5)},wrap u32 (↑(UInt8.toNat (c.D5.getD (Int.toNat 0) (0:UInt8))):Int)))))) (.br (port==1) (.lf (c,wrap u32 (c.D5.length:Int))) (.lf (c,0)))
def Qor(c:Q0a)(port:Int):(Q0a×Int):=(Q96 c port).m
theorem Z2o(c:Q0a)(port:Int):(Q96 c port).p:=by
 unfold Tree.p Q96
 repeat'(first|exact trivial|refine w_br (λ_=> ?_) (λ_=> ?_)|refine w_cn ?_ ?_|refine w_an ?_ ?_|refine w_lv (λ_ _=> ?_)|refine w_nx ?_|refine w_lf ?_|refine And.intro ?_ ?_)
 all_goals(((subst_vars;first|trivial|assumption|omega|((simp(config:={decide:=true,failIfUnchanged:=false}) only[Bool.and_eq_true,Bool.or_eq_true,Bool.and_eq_false_iff,Bool.or_eq_false_iff,Bool.not_eq_true',Bool.not_eq_false',Bool.not_eq_true,Bool.not_eq_false,decide_eq_true_eq,decide_eq_false_iff_not,Q4f,Q2r,Q4i,Q2s,beq_iff_eq,beq_eq_false_iff_ne,bne_iff_ne,bne_eq_false_iff_eq,ne_eq,List.all_cons,List.all_nil,D.plain,List.length_cons,List.length_nil,List.length_append,List.length_set,List.length_replicate,IntKind.wrap_i64,IntKind.wrap_u64,IntKind.wrap_u32,IntKind.wrap_i32,IntKind.wrap_u8,true_and,and_true,or_false,false_or,or_true,true_or,not_true_eq_false,not_false_eq_true,Prod.fst,Prod.snd]at*);first|done|assumption|omega)|((simp(config:={decide:=true,failIfUnchanged:=false}) only[Bool.and_eq_true,Bool.or_eq_true,Bool.and_eq_false_iff,Bool.or_eq_false_iff,Bool.not_eq_true',Bool.not_eq_false',Bool.not_eq_true,Bool.not_eq_false,decide_eq_true_eq,decide_eq_false_iff_not,Q4f,Q2r,Q4i,Q2s,beq_iff_eq,beq_eq_false_iff_ne,bne_iff_ne,bne_eq_false_iff_eq,ne_eq,List.all_cons,List.all_nil,D.plain,List.length_cons,List.length_nil,List.length_append,List.length_set,List.length_replicate,IntKind.wrap_i64,IntKind.wrap_u64,IntKind.wrap_u32,IntKind.wrap_i32,IntKind.wrap_u8,true_and,and_true,or_false,false_or,or_true,true_or,not_true_eq_false,not_false_eq_true,Prod.fst,Prod.snd]at*);simp only[<-List.length_pos_iff]at*;omega)|(simp_all;done)|(have:= @Qf8;simp_all;try omega))))
def Zdf:Q0b:=mkR 170 [] true [.agg Q0a.sig, .one (.int .i64)] [] (λargs rows=>Qor (Q0a.of (args.getD 0 .dead).cells) (argI args 1)) (λX=> .tup [.agg (Q0a.cells (X.1)), .int .u32 (X.2)]) (λX=>[])
theorem Z8y:Q05 Tryz.prog Zdf:=Q0x Q0j Q0h (.nil) Tryz.func170 Tryz.call170 (λargs rows=>Q96 (Q0a.of (args.getD 0 .dead).cells) (argI args 1)) [] [] 2 (λ_ _ _=>by kernel_rfl) (λ_ _=>rfl) (λargs rows=>Z2o (Q0a.of (args.getD 0 .dead).cells) (argI args 1)) (λ_ X=>by kernel_rfl)
def Qok(t:Q0f):Tree Int:=
.br t.D9 (.lf 1) (.lf 0)
def Qyc(t:Q0f):Int:=(Qok t).m
def Zkf:Q0b:=mkR 171 [] true [.agg Q0f.sig] [] (λargs rows=>Qyc (Q0f.of (args.getD 0 .dead).cells)) (λX=> .int .u32 X) (λX=>[])
theorem Zg6:Q05 Tryz.prog Zkf:=Q0x Q0j Q0h (.nil) Tryz.func171 Tryz.call171 (λargs rows=>Qok (Q0f.of (args.getD 0 .dead).cells)) [] [] 2 (λ_ _ _=>by kernel_rfl) (λ_ _=>rfl) (λ_ _=>Tree.free_ok (by kernel_rfl)) (λ_ X=>by kernel_rfl)
def Qtf(d0:Q0d)(port:Int):Tree Int:=
.br (port==4) (.lf d0.B6) (.br (port==5) (.lf d0.B4) (.br (port==6) (.lf (wrap u32 d0.C1)) (.lf 0)))
def Qvc(d0:Q0d)(port:Int):Int:=(Qtf d0 port).m
def zB:Q0b:=mkR 172 [] true [.agg Q0d.sig, .one (.int .i64)] [] (λargs rows=>Qvc (Q0d.of (args.getD 0 .dead).cells) (argI args 1)) (λX=> .int .u32 X) (λX=>[])
theorem Zju:Q05 Tryz.prog zB:=Q0x Q0j Q0h (.nil) Tryz.func172 Tryz.call172 (λargs rows=>Qtf (Q0d.of (args.getD 0 .dead).cells) (argI args 1)) [] [] 2 (λ_ _ _=>by kernel_rfl) (λ_ _=>rfl) (λ_ _=>Tree.free_ok (by kernel_rfl)) (λ_ X=>by kernel_rfl)
def Qt4(n:Q0p)(port:Int):Tree Int:=
.br (port==7) (.lf n.B4) (.br (port==8) (.lf n.F6) (.br (port==9) (.br n.C9 (.br n.C0 (.lf (wrap u32 (wrap u32 ((0:Int)+(1:Int))+2))) (.lf (wrap u32 ((0:Int)+(1:Int))))) (.br n.C0 (.lf (wrap u32 ((0:Int)+(2:Int)))) (.lf 0))) (.lf 0)))
def Z1m(n:Q0p)(port:Int):Int:=(Qt4 n port).m
def xV:Q0b:=mkR 173 [] true [.agg Q0p.sig, .one (.int .i64)] [] (λargs rows=>Z1m (Q0p.of (args.getD 0 .dead).cells) (argI args 1)) (λX=> .int .u32 X) (λX=>[])
theorem yB:Q05 Tryz.prog xV:=Q0x Q0j Q0h (.nil) Tryz.func173 Tryz.call173 (λargs rows=>Qt4 (Q0p.of (args.getD 0 .dead).cells) (argI args 1)) [] [] 2 (λ_ _ _=>by kernel_rfl) (λ_ _=>rfl) (λ_ _=>Tree.free_ok (by kernel_rfl)) (λ_ X=>by kernel_rfl)
def Qb8(b:Q07)(port:Int):Tree Int:=
.br (port==10) (.lf b.D0) (.br (port==11) (.an (Qds b) (.lv (Qbm b) λ(x0:Int)=> .lf (wrap u32 x0))) (.lf 0))
def Qoj(b:Q07)(port:Int):Int:=(Qb8 b port).m
abbrev Qq4(b:Q07)(port:Int):Prop:=(Qb8 b port).p
def Zc5:Q0b:=mkP 174 [] true [.agg Q07.sig, .one (.int .i64)] [] (λargs rows=>Qq4 (Q07.of (args.getD 0 .dead).cells) (argI args 1)) (λargs rows=>Qoj (Q07.of (args.getD 0 .dead).cells) (argI args 1)) (λX=> .int .u32 X) (λX=>[])
theorem Z8a:Q05 Tryz.prog Zc5:=Q0k Q0j Q0h (.cons Qmf (.nil)) Tryz.func174 Tryz.call174 (λargs rows=>Qb8 (Q07.of (args.getD 0 .dead).cells) (argI args 1)) [] [] 2 (λ_ _ _=>by kernel_rfl) (λ_ _=>rfl) (λ_ _ h=>h) (λ_ X=>by kernel_rfl)
def Q46(m:Q00)(port:Int)(clock:Int):Tree (Q00×Int):=
let T1:Tree ((Q00×Int)):= .lv (Qor m.A1 port) λ(x0:Q0a×Int)=> .lf ({B3:=m.B3,Mem:=m.Mem,A1:=x0.1,B1:=m.B1,B0:=m.B0,C7:=m.C7,A2:=m.A2,A3:=m.A3,A6:=m.A6,A7:=m.A7},x0.2); .br (port==0) T1 (.br (port==1) T1 (.br (port==2) (.lf (m,clock)) (.br (port==3) (.lv (Qyc m.B1) λ(x2:Int)=> .lf (m,x2)) (.br (port==4) (.lv (Qvc m.B0 port) λ(x3:Int)=> .lf (m,x3)) (.br (port==5) (.lv (Qvc m.B0 port) λ(x4:Int)=> .lf (m,x4)) (.br (port==6) (.lv (Qvc m.B0 port) λ(x5:Int)=> .lf (m,x5)) (.br (port==7) (.lv (Z1m m.C7 port) λ(x6:Int)=> .lf (m,x6)) (.br (port==8) (.lv (Z1m m.C7 port) λ(x7:Int)=> .lf (m,x7)) (.br (port==9) (.lv (Z1m m.C7 port) λ(x8:Int)=> .lf (m,x8)) (let T2:Tree ((Q00×Int)):= .an (Qq4 m.A2 port) (.lv (Qoj m.A2 port) λ(x9:Int)=> .lf (m,x9)); .br (port==10) T2 (.br (port==11) T2 (.lf (m,0)))))))))))))
def Q1a(m:Q00)(port:Int)(clock:Int):(Q00×Int):=(Q46 m port clock).m
abbrev Qfu(m:Q00)(port:Int)(clock:Int):Prop:=(Q46 m port clock).p
def Qsl:Q0b:=Q0b.fz<|mkP 125 [] false [.agg Q00.sig, .one (.int .i64), .one (.int .u32)] [] (λargs rows=>Qfu (Q00.of (args.getD 0 .dead).cells) (argI args 1) (argI args 2)) (λargs rows=>Q1a (Q00.of (args.getD 0 .dead).cells) (argI args 1) (argI args 2)) (λX=> .tup [.agg (Q00.cells (X.1)), .int .u32 (X.2)]) (λX=>[])
theorem Qqn:Q05 Tryz.prog Qsl:=fz_ok<|Q0k Q0j Q0h (.cons Z8y (.cons Zg6 (.cons Zju (.cons yB (.cons Z8a (.nil)))))) Tryz.func125 Tryz.call125 (λargs rows=>Q46 (Q00.of (args.getD 0 .dead).cells) (argI args 1) (argI args 2)) [.sl (.ints .u32) false] [] 2 (λ_ _ _=>by kernel_rfl) (λ_ _=>rfl) (λ_ _ h=>h) (λh=>by cases h)
def Qlk(t:Q0f)(deadline:Int):Tree Q0f:=
.lf ({D4:=deadline !=0,D1:=deadline,D9:=false})
def Qkt(t:Q0f)(deadline:Int):Q0f:=(Qlk t deadline).m
def Zeu:Q0b:=mkR 175 [] true [.agg Q0f.sig, .one (.int .u32)] [] (λargs rows=>Qkt (Q0f.of (args.getD 0 .dead).cells) (argI args 1)) (λX=> .agg (Q0f.cells X)) (λX=>[])
theorem Zan:Q05 Tryz.prog Zeu:=Q0x Q0j Q0h (.nil) Tryz.func175 Tryz.call175 (λargs rows=>Qlk (Q0f.of (args.getD 0 .dead).cells) (argI args 1)) [] [] 2 (λ_ _ _=>by kernel_rfl) (λ_ _=>rfl) (λ_ _=>Tree.free_ok (by kernel_rfl)) (λ_ X=>by kernel_rfl)
def Qbo(m:(List Int))(frame:Int):Tree Bool:=
.lv (Q0t m) λ(x0:Int)=> .lf (decide (wrap u64 frame<wrap u64 x0))
def Q8p(m:(List Int))(frame:Int):Bool:=(Qbo m frame).m
def Z6s:Q0b:=mkR 166 [] true [.one (.ints .u32), .one (.int .u32)] [] (λargs rows=>Q8p (argL .u32 args 0) (argI args 1)) (λX=> .bool X) (λX=>[])
theorem Qpw:Q05 Tryz.prog Z6s:=Q0x Q0j Q0h (.cons Q3w (.nil)) Tryz.func166 Tryz.call166 (λargs rows=>Qbo (argL .u32 args 0) (argI args 1)) [] [] 2 (λ_ _ _=>by kernel_rfl) (λ_ _=>rfl) (λ_ _=>Tree.free_ok (by kernel_rfl)) (λ_ X=>by kernel_rfl)
def Q7z(m:(List Int))(frame:Int):Tree Bool:=
.br (decide (frame>=0)) (.lv (Q0t m) λ(x0:Int)=> .lf (decide (frame<x0))) (.lf false)
def Q4w(m:(List Int))(frame:Int):Bool:=(Q7z m frame).m
def Qx4:Q0b:=mkR 228 [] true [.one (.ints .u32), .one (.int .i64)] [] (λargs rows=>Q4w (argL .u32 args 0) (argI args 1)) (λX=> .bool X) (λX=>[])
theorem Qjp:Q05 Tryz.prog Qx4:=Q0x Q0j Q0h (.cons Q3w (.nil)) Tryz.func228 Tryz.call228 (λargs rows=>Q7z (argL .u32 args 0) (argI args 1)) [] [] 2 (λ_ _ _=>by kernel_rfl) (λ_ _=>rfl) (λ_ _=>Tree.free_ok (by kernel_rfl)) (λ_ X=>by kernel_rfl)
def Qmh(words:(List Int))(z:(Int)×(List Int)):Prop:=0<=z.1/\z.1<=words.length/\(z.2.length:Int)=4*z.1
def Q70(words:(List Int))(z:(Int)×(List Int)):Nat:=(words.length-z.1).toNat
def Q4o(words:(List Int)):Tree (List UInt8):=
.cn (Nat.blt 0 1&&Nat.beq 1 1&&List.all [D.int u8 0] D.plain&&decide ((0:Int)<=(0:Int)/\0<=wrap i64 (4*(words.length:Int))/\wrap i64 (4*(words.length:Int))<=9223372036854775807/\(↑1:Int)*wrap i64 (4*(words.length:Int))<=140737488355328)) (.lp inferInstance (Q70 words (0,[])+1) ((True/\((Els.Nil (Els.ints u32 words)\/rE (1:Nat))/\rE (words:List Int))/\rE ((words.length:Int):Int)/\rE (0:Int)/\True)/\rE ([]:List Int)/\True) (0,[]) λ(v0:Int×List Int)=> .br (decide (v0.1<(words.length:Int))) (.cn (Nat.beq 1 1&&Nat.blt 0 1&&decide (0<=v0.1/\v0.1<(words.length:Int))) (.cn (decide (1*(v0.2.length+4)<=140737488355328)) (let E1:=words.getD v0.1.toNat 0; .nx ((True/\((Els.Nil (Els.ints u32 words)\/rE (1:Nat))/\rE (words:List Int))/\rE ((words.length:Int):Int)/\rE ((wrap i64 (v0.1+1)):Int)/\True)/\rE ((v0.2++[wrap u8 (words.getD v0.1.toNat 0),wrap u8 (ishr u32 (words.getD v0.1.toNat 0) 8),wrap u8 (ishr u32 (words.getD v0.1.toNat 0) 16),wrap u8 (ishr u32 (words.getD v0.1.toNat 0) 24)]):List Int)/\True) (Sum.inl (wrap i64 (v0.1+1),v0.2++[wrap u8 E1,wrap u8 (ishr u32 E1 8),wrap u8 (ishr u32 E1 16),wrap u8 (ishr u32 E1 24)]))))) (.lf (Sum.inr (bytesOf v0.2))))
def Qyp(words:(List Int)):(List UInt8):=(Q4o words).m
def Qbr(words:(List Int)):Prop:=
words.length<=1000000000000
theorem Qzj(words:(List Int))(hw:Qbr words):(Q4o words).p:=by
 simp only[Qbr]at hw
 unfold Tree.p Q4o
 repeat'(first|refine w_lp (inv:=Qmh words) (μ:=Q70 words) ?_ (Nat.lt_succ_self _) (λ_ _=> ?_)|exact trivial|refine w_br (λ_=> ?_) (λ_=> ?_)|refine w_cn ?_ ?_|refine w_an ?_ ?_|refine w_lv (λ_ _=> ?_)|refine w_nx ?_|refine w_lf ?_|refine And.intro ?_ ?_)
 all_goals((try simp only[Qmh,Q70]at*);((subst_vars;first|trivial|assumption|omega|((simp(config:={decide:=true,failIfUnchanged:=false}) only[Bool.and_eq_true,Bool.or_eq_true,Bool.and_eq_false_iff,Bool.or_eq_false_iff,Bool.not_eq_true',Bool.not_eq_false',Bool.not_eq_true,Bool.not_eq_false,decide_eq_true_eq,decide_eq_false_iff_not,Q4f,Q2r,Q4i,Q2s,beq_iff_eq,beq_eq_false_iff_ne,bne_iff_ne,bne_eq_false_iff_eq,ne_eq,List.all_cons,List.all_nil,D.plain,List.length_cons,List.length_nil,List.length_append,List.length_set,List.length_replicate,IntKind.wrap_i64,IntKind.wrap_u64,IntKind.wrap_u32,IntKind.wrap_i32,IntKind.wrap_u8,true_and,and_true,or_false,false_or,or_true,true_or,not_true_eq_false,not_false_eq_true,Prod.fst,Prod.snd]at*);first|done|assumption|omega)|((simp(config:={decide:=true,failIfUnchanged:=false}) only[Bool.and_eq_true,Bool.or_eq_true,Bool.and_eq_false_iff,Bool.or_eq_false_iff,Bool.not_eq_true',Bool.not_eq_false',Bool.not_eq_true,Bool.not_eq_false,decide_eq_true_eq,decide_eq_false_iff_not,Q4f,Q2r,Q4i,Q2s,beq_iff_eq,beq_eq_false_iff_ne,bne_iff_ne,bne_eq_false_iff_eq,ne_eq,List.all_cons,List.all_nil,D.plain,List.length_cons,List.length_nil,List.length_append,List.length_set,List.length_replicate,IntKind.wrap_i64,IntKind.wrap_u64,IntKind.wrap_u32,IntKind.wrap_i32,IntKind.wrap_u8,true_and,and_true,or_false,false_or,or_true,true_or,not_true_eq_false,not_false_eq_true,Prod.fst,Prod.snd]at*);simp only[<-List.length_pos_iff]at*;omega)|(simp_all;done)|(have:= @Qf8;simp_all;try omega))))
def Z4b:LInv:={
 α:=(Int)×(List Int)
 F:=λst a=>([(3, .all 0),(10,(lk st 10)),(11,(lk st 11)),(12, .int i64 a.1)],[⟨false,5,1, .ints u8 a.2⟩])
 a0:=λst=>((lk st 12).toInt,(Q3k st.rows (rN st 3)))
 ex0:=λst=>[]++[(Q0n (lk st 3) (st.rows.length+0))]
 next:=λst=>((lk st 12).toInt,(Q3k st.rows (rN st 3)))
 ex:=λst=>[]++[(Q0n (lk st 3) (st.rows.length+0))]}
def Qxs:List (Nat×LInv):=[(3,Z4b)]
def Z9c:Q0b:=mkP 229 [] true [.one (.ints .u32)] [] (λargs rows=>Qbr (argL .u32 args 0)) (λargs rows=>Qyp (argL .u32 args 0)) (λX=> .str X) (λX=>[])
theorem Z2n:Q05 Tryz.prog Z9c:=Q0k Q0j Q0h (.nil) Tryz.func229 Tryz.call229 (λargs rows=>Q4o (argL .u32 args 0)) [] Qxs 3 (λ_ _ _=>by kernel_rfl) (λ_ _=>rfl) (λargs rows h=>Qzj (argL .u32 args 0) h) (λ_ X=>by kernel_rfl)
def Q5u(m:(List Int))(frame:Int):Tree ((List UInt8)×Bool):=
.lv (Q4w m frame) λ(x0:Bool)=> .br (!x0) (.lf ([],false)) (.cn (Nat.beq 1 1&&Nat.blt 0 1&&decide (0<=wrap i64 (frame*32)/\wrap i64 (frame*32)<=wrap i64 (wrap i64 (frame*32)+32)/\wrap i64 (wrap i64 (frame*32)+32)<=(m.length:Int))) (let E1:=List.take (Int.toNat (wrap i64 (wrap i64 (frame*32)+32))-Int.toNat (wrap i64 (frame*32))) (List.drop (Int.toNat (wrap i64 (frame*32))) m); .an (Qbr E1) (.lv (Qyp E1) λ(x1:List UInt8)=> .lf (x1,true))))
def Q5e(m:(List Int))(frame:Int):((List UInt8)×Bool):=(Q5u m frame).m
abbrev Qbw(m:(List Int))(frame:Int):Prop:=(Q5u m frame).p
def Z7q:Q0b:=mkP 169 [] true [.one (.ints .u32), .one (.int .i64)] [] (λargs rows=>Qbw (argL .u32 args 0) (argI args 1)) (λargs rows=>Q5e (argL .u32 args 0) (argI args 1)) (λX=> .tup [.str (X.1), .bool (X.2)]) (λX=>[])
theorem Qjf:Q05 Tryz.prog Z7q:=Q0k Q0j Q0h (.cons Qjp (.cons Z2n (.nil))) Tryz.func169 Tryz.call169 (λargs rows=>Q5u (argL .u32 args 0) (argI args 1)) [] [] 2 (λ_ _ _=>by kernel_rfl) (λ_ _=>rfl) (λ_ _ h=>h) (λ_ X=>by kernel_rfl)
def Qpq(d0:Q0d)(at0:Int):Tree (Q02×Bool):=
.br (d0.C1 !=1) (.lf ({B5:=0,At:=0,B6:=0,C8:=[]},false)) (.br (d0.F1==1) (.lf ({B5:=3,At:=at0,B6:=d0.B8,C8:=[]},true)) (.br (d0.F1==2) (.lf ({B5:=4,At:=at0,B6:=d0.B8,C8:=d0.C5},true)) (.lf ({B5:=0,At:=0,B6:=0,C8:=[]},false))))
def Qix(d0:Q0d)(at0:Int):(Q02×Bool):=(Qpq d0 at0).m
def Z3m:Q0b:=mkR 263 [] true [.agg Q0d.sig, .one (.int .u64)] [] (λargs rows=>Qix (Q0d.of (args.getD 0 .dead).cells) (argI args 1)) (λX=> .tup [.agg (Q02.cells (X.1)), .bool (X.2)]) (λX=>[])
theorem Qz:Q05 Tryz.prog Z3m:=Q0x Q0j Q0h (.nil) Tryz.func263 Tryz.call263 (λargs rows=>Qpq (Q0d.of (args.getD 0 .dead).cells) (argI args 1)) [] [] 2 (λ_ _ _=>by kernel_rfl) (λ_ _=>rfl) (λ_ _=>Tree.free_ok (by kernel_rfl)) (λ_ X=>by kernel_rfl)
def Qbc(d0:Q0d)(m:(List Int))(cmd:Int)(at0:Int):Tree (Q0d×(List Q02)):=
.br (d0.C1 !=0) (.lf (d0,[])) (let T1:Tree ((Q0d×(List Q02))):= .lf ({Blocks:=d0.Blocks,B6:=d0.B6,B4:=d0.B4,C1:=3,F1:=d0.F1,B8:=d0.B8,B2:=d0.B2,C5:=d0.C5},[]); .br (decide (d0.B6>=d0.Blocks)) T1 (.lv (Q8p m d0.B4) λ(x0:Bool)=> .br (!x0) T1 (.br (cmd==2) (.an (Qbw m (wrap i64 d0.B4)) (.lv (Q5e m (wrap i64 d0.B4)) λ(x1:List UInt8×Bool)=>let E2:=({Blocks:=d0.Blocks,B6:=d0.B6,B4:=d0.B4,C1:=1,F1:=cmd,B8:=d0.B6,B2:=d0.B4,C5:=x1.1}:Q0d); .lv (Qix E2 at0) λ(x2:Q02×Bool)=> .lf (E2,[x2.1]))) (let E3:=({Blocks:=d0.Blocks,B6:=d0.B6,B4:=d0.B4,C1:=1,F1:=cmd,B8:=d0.B6,B2:=d0.B4,C5:=[]}:Q0d); .lv (Qix E3 at0) λ(x3:Q02×Bool)=> .lf (E3,[x3.1])))))
def Qub(d0:Q0d)(m:(List Int))(cmd:Int)(at0:Int):(Q0d×(List Q02)):=(Qbc d0 m cmd at0).m
abbrev Qq2(d0:Q0d)(m:(List Int))(cmd:Int)(at0:Int):Prop:=(Qbc d0 m cmd at0).p
def Zed:Q0b:=mkP 230 [] true [.agg Q0d.sig, .one (.ints .u32), .one (.int .i64), .one (.int .u64)] [] (λargs rows=>Qq2 (Q0d.of (args.getD 0 .dead).cells) (argL .u32 args 1) (argI args 2) (argI args 3)) (λargs rows=>Qub (Q0d.of (args.getD 0 .dead).cells) (argL .u32 args 1) (argI args 2) (argI args 3)) (λX=> .tup [.agg (Q0d.cells (X.1)), .sl 4 (.recs .apiOutput (X.2)) true]) (λX=>[])
theorem Z8k:Q05 Tryz.prog Zed:=Q0k Q0j Q0h (.cons Qpw (.cons Qjf (.cons Qz (.nil)))) Tryz.func230 Tryz.call230 (λargs rows=>Qbc (Q0d.of (args.getD 0 .dead).cells) (argL .u32 args 1) (argI args 2) (argI args 3)) [.sl (.recs .apiOutput) true] [] 2 (λ_ _ _=>by kernel_rfl) (λ_ _=>rfl) (λ_ _ h=>h) (λ_ X=>by kernel_rfl)
def Qgr(d0:Q0d)(m:(List Int))(port:Int)(v:Int)(at0:Int):Tree (Q0d×(List Q02)):=
.br (port==4) (.lf ({Blocks:=d0.Blocks,B6:=v,B4:=d0.B4,C1:=d0.C1,F1:=d0.F1,B8:=d0.B8,B2:=d0.B2,C5:=d0.C5},[])) (.br (port==5) (.lf ({Blocks:=d0.Blocks,B6:=d0.B6,B4:=v,C1:=d0.C1,F1:=d0.F1,B8:=d0.B8,B2:=d0.B2,C5:=d0.C5},[])) (.br (port==6) (let T1:Tree ((Q0d×(List Q02))):= .an (Qq2 d0 m (wrap i64 v) at0) (.lv (Qub d0 m (wrap i64 v) at0) λ(x0:Q0d×List Q02)=> .lf (x0.1,x0.2)); .br (v==1) T1 (.br (v==2) T1 (.br (v==0) (.lv (Q95 d0) λ(x2:Bool)=> .br x2 (.lf ({Blocks:=d0.Blocks,B6:=d0.B6,B4:=d0.B4,C1:=0,F1:=d0.F1,B8:=d0.B8,B2:=d0.B2,C5:=d0.C5},[])) (.lf (d0,[]))) (.lf (d0,[]))))) (.lf (d0,[]))))
def Qyh(d0:Q0d)(m:(List Int))(port:Int)(v:Int)(at0:Int):(Q0d×(List Q02)):=(Qgr d0 m port v at0).m
abbrev Qvy(d0:Q0d)(m:(List Int))(port:Int)(v:Int)(at0:Int):Prop:=(Qgr d0 m port v at0).p
def Zll:Q0b:=mkP 176 [] true [.agg Q0d.sig, .one (.ints .u32), .one (.int .i64), .one (.int .u32), .one (.int .u64)] [] (λargs rows=>Qvy (Q0d.of (args.getD 0 .dead).cells) (argL .u32 args 1) (argI args 2) (argI args 3) (argI args 4)) (λargs rows=>Qyh (Q0d.of (args.getD 0 .dead).cells) (argL .u32 args 1) (argI args 2) (argI args 3) (argI args 4)) (λX=> .tup [.agg (Q0d.cells (X.1)), .sl 4 (.recs .apiOutput (X.2)) true]) (λX=>[])
theorem Zfe:Q05 Tryz.prog Zll:=Q0k Q0j Q0h (.cons Z8k (.cons Qmz (.nil))) Tryz.func176 Tryz.call176 (λargs rows=>Qgr (Q0d.of (args.getD 0 .dead).cells) (argL .u32 args 1) (argI args 2) (argI args 3) (argI args 4)) [.sl (.recs .apiOutput) true] [] 2 (λ_ _ _=>by kernel_rfl) (λ_ _=>rfl) (λ_ _ h=>h) (λ_ X=>by kernel_rfl)
def Qeb(m:(List Int))(frame:Int):Tree Bool:=
.lv (Q0t m) λ(x0:Int)=> .lf (decide (wrap u64 frame<wrap u64 x0))
def Q9o(m:(List Int))(frame:Int):Bool:=(Qeb m frame).m
def Zb4:Q0b:=mkR 168 [] true [.one (.ints .u32), .one (.int .u32)] [] (λargs rows=>Q9o (argL .u32 args 0) (argI args 1)) (λX=> .bool X) (λX=>[])
theorem Qly:Q05 Tryz.prog Zb4:=Q0x Q0j Q0h (.cons Q3w (.nil)) Tryz.func168 Tryz.call168 (λargs rows=>Qeb (argL .u32 args 0) (argI args 1)) [] [] 2 (λ_ _ _=>by kernel_rfl) (λ_ _=>rfl) (λ_ _=>Tree.free_ok (by kernel_rfl)) (λ_ X=>by kernel_rfl)
def Qgm(n:Q0p)(m:(List Int))(at0:Int):Tree (List Q02):=
.br (decide (n.F4<1)) (.lf ([])) (.br (decide (n.F4>128)) (.lf ([])) (.lv (Q9o m n.B4) λ(x0:Bool)=> .br (!x0) (.lf ([])) (.an (Qbw m (wrap i64 n.B4)) (.lv (Q5e m (wrap i64 n.B4)) λ(x1:List UInt8×Bool)=> .cn (decide ((0:Int)<=(0:Int)/\0<=n.F4/\n.F4<=(x1.1.length:Int))) (.lf ([{B5:=2,At:=at0,B6:=0,C8:=List.take (Int.toNat n.F4-Int.toNat 0) (List.drop (Int.toNat 0) x1.1)}]))))))
def Z88(n:Q0p)(m:(List Int))(at0:Int):(List Q02):=(Qgm n m at0).m
abbrev Qwb(n:Q0p)(m:(List Int))(at0:Int):Prop:=(Qgm n m at0).p
def Zkm:Q0b:=mkP 231 [] true [.agg Q0p.sig, .one (.ints .u32), .one (.int .u64)] [] (λargs rows=>Qwb (Q0p.of (args.getD 0 .dead).cells) (argL .u32 args 1) (argI args 2)) (λargs rows=>Z88 (Q0p.of (args.getD 0 .dead).cells) (argL .u32 args 1) (argI args 2)) (λX=> .sl 4 (.recs .apiOutput X) true) (λX=>[])
theorem Zhc:Q05 Tryz.prog Zkm:=Q0k Q0j Q0h (.cons Qly (.cons Qjf (.nil))) Tryz.func231 Tryz.call231 (λargs rows=>Qgm (Q0p.of (args.getD 0 .dead).cells) (argL .u32 args 1) (argI args 2)) [.sl (.recs .apiOutput) true] [] 2 (λ_ _ _=>by kernel_rfl) (λ_ _=>rfl) (λ_ _ h=>h) (λ_ X=>by kernel_rfl)
def Qks(n:Q0p)(m:(List Int))(port:Int)(v:Int)(at0:Int):Tree (Q0p×(List Q02)):=
.br (port==7) (.lf ({B4:=v,F4:=n.F4,C9:=n.C9,C3:=n.C3,C0:=n.C0,F6:=n.F6},[])) (.br (port==8) (.lf ({B4:=n.B4,F4:=v,C9:=n.C9,C3:=n.C3,C0:=n.C0,F6:=n.F6},[])) (.br (port==9) (.br (v==1) (.an (Qwb n m at0) (.lv (Z88 n m at0) λ(x0:List Q02)=> .lf (n,x0))) (.br (v==2) (.lv (Q9o m n.B4) λ(x1:Bool)=> .br x1 (.br (!n.C9) (.br (!n.C0) (.lf ({B4:=n.B4,F4:=n.F4,C9:=true,C3:=n.B4,C0:=n.C0,F6:=n.F6},[])) (.lf (n,[]))) (.lf (n,[]))) (.lf (n,[]))) (.br (v==0) (.lf ({B4:=n.B4,F4:=n.F4,C9:=n.C9,C3:=n.C3,C0:=false,F6:=0},[])) (.lf (n,[]))))) (.lf (n,[]))))
def Z8s(n:Q0p)(m:(List Int))(port:Int)(v:Int)(at0:Int):(Q0p×(List Q02)):=(Qks n m port v at0).m
abbrev Qz7(n:Q0p)(m:(List Int))(port:Int)(v:Int)(at0:Int):Prop:=(Qks n m port v at0).p
def vB:Q0b:=mkP 177 [] true [.agg Q0p.sig, .one (.ints .u32), .one (.int .i64), .one (.int .u32), .one (.int .u64)] [] (λargs rows=>Qz7 (Q0p.of (args.getD 0 .dead).cells) (argL .u32 args 1) (argI args 2) (argI args 3) (argI args 4)) (λargs rows=>Z8s (Q0p.of (args.getD 0 .dead).cells) (argL .u32 args 1) (argI args 2) (argI args 3) (argI args 4)) (λX=> .tup [.agg (Q0p.cells (X.1)), .sl 4 (.recs .apiOutput (X.2)) true]) (λX=>[])
theorem Zlh:Q05 Tryz.prog vB:=Q0k Q0j Q0h (.cons Zhc (.cons Qly (.nil))) Tryz.func177 Tryz.call177 (λargs rows=>Qks (Q0p.of (args.getD 0 .dead).cells) (argL .u32 args 1) (argI args 2) (argI args 3) (argI args 4)) [.sl (.recs .apiOutput) true] [] 2 (λ_ _ _=>by kernel_rfl) (λ_ _=>rfl) (λ_ _ h=>h) (λ_ X=>by kernel_rfl)
def Qa8(m:(List Int))(frame:Int)(s:(List UInt8))(z:(Int)×(List Int)):Nat:=(32-z.1).toNat
def Q32(m:(List Int))(frame:Int)(s:(List UInt8)):Tree ((List Int)×Bool):=
.an (Q06 m) (.lv (Q04 m) λ(x0:List Int)=> .lv (Q4w m frame) λ(x1:Bool)=> .br (!x1) (.lf (x0,false)) (.br ((s.length:Int) !=(128:Int)) (.lf (x0,false)) (.lp inferInstance (Qa8 m frame s (0,x0)+1) ((rE (s:List UInt8)/\True/\rE ((wrap i64 (frame*32)):Int)/\rE (0:Int)/\True)/\rE (x0:List Int)/\True) (0,x0) λ(v0:Int×List Int)=> .br (decide (v0.1<32)) (.cn (decide (0<=wrap i64 (4*v0.1)/\wrap i64 (4*v0.1)<=wrap i64 (wrap i64 (4*v0.1)+4)/\wrap i64 (wrap i64 (4*v0.1)+4)<=(s.length:Int))) (let E1:=List.take (Int.toNat (wrap i64 (wrap i64 (4*v0.1)+4))-Int.toNat (wrap i64 (4*v0.1))) (List.drop (Int.toNat (wrap i64 (4*v0.1))) s); .cn (decide ((0:Int)<=(0:Int)/\0<(↑(List.length E1):Int))) (.cn (decide ((0:Int)<=(1:Int)/\1<(↑(List.length E1):Int))) (.cn (decide ((0:Int)<=(2:Int)/\2<(↑(List.length E1):Int))) (.cn (decide ((0:Int)<=(3:Int)/\3<(↑(List.length E1):Int))) (.cn (Nat.beq 1 1&&Nat.blt 0 1&&decide (0<=wrap i64 (wrap i64 (frame*32)+v0.1)/\wrap i64 (wrap i64 (frame*32)+v0.1)<(v0.2.length:Int))) (.nx ((rE (s:List UInt8)/\True/\rE ((wrap i64 (frame*32)):Int)/\rE ((wrap i64 (v0.1+1)):Int)/\True)/\rE ((List.set v0.2 (Int.toNat (wrap i64 (wrap i64 (frame*32)+v0.1))) (ior u32 (ior u32 (ior u32 (wrap u32 (↑(UInt8.toNat (List.getD (List.take (Int.toNat (wrap i64 (wrap i64 (4*v0.1)+4))-Int.toNat (wrap i64 (4*v0.1))) (List.drop (Int.toNat (wrap i64 (4*v0.1))) s)) (Int.toNat 0) (0:UInt8))):Int)) (ishl u32 (wrap u32 (↑(UInt8.toNat (List.getD (List.take (Int.toNat (wrap i64 (wrap i64 (4*v0.1)+4))-Int.toNat (wrap i64 (4*v0.1))) (List.drop (Int.toNat (wrap i64 (4*v0.1))) s)) (Int.toNat 1) (0:UInt8))):Int)) 8)) (ishl u32 (wrap u32 (↑(UInt8.toNat (List.getD (List.take (Int.toNat (wrap i64 (wrap i64 (4*v0.1)+4))-Int.toNat (wrap i64 (4*v0.1))) (List.drop (Int.toNat (wrap i64 (4*v0.1))) s)) (Int.toNat 2) (0:UInt8))):Int)) 16)) (ishl u32 (wrap u32 (↑(UInt8.toNat (List.getD (List.take (Int.toNat (wrap i64 (wrap i64 (4*v0.1)+4))-Int.toNat (wrap i64 (4*v0.1))) (List.drop (Int.toNat (wrap i64 (4*v0.1))) s)) (Int.toNat 3) (0:UInt8))):Int)) 24))):List Int)/\True) (Sum.inl (wrap i64 (v0.1+1),List.set v0.2 (Int.toNat (wrap i64 (wrap i64 (frame*32)+v0.1))) (ior u32 (ior u32 (ior u32 (wrap u32 (↑(UInt8.toNat (List.getD E1 (Int.toNat 0) (0:UInt8))):Int)) (ishl u32 (wrap u32 (↑(UInt8.toNat (List.getD E1 (Int.toNat 1) (0:UInt8))):Int)) 8)) (ishl u32 (wrap u32 (↑(UInt8.toNat (List.getD E1 (Int.toNat 2) (0:UInt8))):Int)) 16)) (ishl u32 (wrap u32 (↑(UInt8.toNat (List.getD E1 (Int.toNat 3) (0:UInt8))):Int)) 24))))))))))) (.lf (Sum.inr (v0.2,true))))))
def Q2m(m:(List Int))(frame:Int)(s:(List UInt8)):((List Int)×Bool):=(Q32 m frame s).m
abbrev Q8g(m:(List Int))(frame:Int)(s:(List UInt8)):Prop:=(Q32 m frame s).p
def Qth:LInv:={
 α:=(Int)×(List Int)
 F:=λst a=>([(2,(lk st 2)),(8, .all 0),(9,(lk st 9)),(26, .int i64 a.1)],[⟨false,23,1, .ints u32 a.2⟩])
 a0:=λst=>((lk st 26).toInt,(Q3k st.rows (rN st 8)))
 ex0:=λst=>[]++[(Q0n (lk st 8) (st.rows.length+0))]
 next:=λst=>((lk st 26).toInt,(Q3k st.rows (rN st 8)))
 ex:=λst=>[]++[(Q0n (lk st 8) (st.rows.length+0))]}
def Qqi:List (Nat×LInv):=[(6,Qth)]
def Qxi:Q0b:=mkP 167 [] true [.one (.ints .u32), .one (.int .i64), .one (.str)] [] (λargs rows=>Q8g (argL .u32 args 0) (argI args 1) (argS args 2)) (λargs rows=>Q2m (argL .u32 args 0) (argI args 1) (argS args 2)) (λX=> .tup [.all 0, .bool (X.2)]) (λX=>[⟨false,23,1, .ints .u32 (X.1)⟩])
theorem Qdm:Q05 Tryz.prog Qxi:=Q0k Q0j Q0h (.cons Q0u (.cons Qjp (.nil))) Tryz.func167 Tryz.call167 (λargs rows=>Q32 (argL .u32 args 0) (argI args 1) (argS args 2)) [.row 23 1 (.ints .u32)] Qqi 3 (λ_ _ _=>by kernel_rfl) (λ_ _=>rfl) (λ_ _ h=>h) (λ_ X=>by kernel_rfl)
def strings_Repeat(s:(List UInt8))(count:Int):(List UInt8):=
Lib.repeatL s count.toNat
def Qc4(s:(List UInt8))(count:Int):Prop:=
0<=count/\count<=9223372036854775807/\s.length*count.toNat<=140737488355328
def Qho(s:(List UInt8))(count:Int):List D:=[.str s, .int .i64 count]
def Qhu(s:(List UInt8))(count:Int):List Row:=[]
def Qcb(X:(List UInt8)):D:= .str X
def Qby(X:(List UInt8)):List Row:=[]
def Qis:List PT:=[.one (.str), .one (.int .i64)]
def Qh6:List RT:=[]
def Qsx(args:List D)(rows:List Row):(List UInt8):=strings_Repeat (argS args 0) (argI args 1)
def Qsr(args:List D)(rows:List Row):Prop:=Qc4 (argS args 0) (argI args 1)
def Qx7:Q0b:=mkP 232 [] true Qis Qh6 Qsr Qsx Qcb Qby
theorem Qp6(s:(List UInt8))(count:Int)(hw:Qc4 s count):Q3l Tryz.prog 232 (Qho s count) (Qhu s count) (Qcb (strings_Repeat s count)) (Qby (strings_Repeat s count)):=by
 exact xr Tryz.strings_Repeat hw.1 hw.2.1 hw.2.2
set_option maxRecDepth 100000 in
theorem Qqy(args:List D)(rows:List Row):Qil Qis args 0=Qho (argS args 0) (argI args 1):=by kernel_rfl
set_option maxRecDepth 100000 in
theorem Qp9(args:List D)(rows:List Row):Q77 Qh6 rows 0=Qhu (argS args 0) (argI args 1):=by kernel_rfl
set_option maxRecDepth 100000 in
theorem Qur(X:(List UInt8)):(ffB (Qcb X)&&ffBR (Qby X))=true:=by kernel_rfl
theorem Qv9:Q05 Tryz.prog Qx7:=Z56 Tryz.call232 (λargs rows hp=>by rw[Qqy args rows,Qp9 args rows];exact Qp6 (argS args 0) (argI args 1) hp) (λ_ X=>Qur X)
def Q3q(b:Q07)(m:(List Int))(port:Int)(v:Int):Tree (Q07×(List Int)):=
let T1:Tree ((Q07×(List Int))):= .an (Q06 m) (.lv (Q04 m) λ(x0:List Int)=> .lf (b,x0)); .br (decide (v>=32)) T1 (.cn (decide (0<=v)) (.br (port==10) (.lv (Q0t m) λ(x1:Int)=> .br (decide (wrap i64 v<x1)) (.br (iand u32 b.C4 (ishl u32 1 v)==0) (.an (Qc4 [(0:UInt8)] 128) (.lv (strings_Repeat [(0:UInt8)] 128) λ(x2:List UInt8)=> .an (Q8g m (wrap i64 v) x2) (.lv (Q2m m (wrap i64 v) x2) λ(x3:List Int×Bool)=> .lf ({D0:=b.D0,C4:=ior u32 b.C4 (ishl u32 1 v)},x3.1)))) T1) T1) (.br (port==11) (.an (Q06 m) (.lv (Q04 m) λ(x6:List Int)=> .lf ({D0:=b.D0,C4:=Qg5 u32 b.C4 (ishl u32 1 v)},x6))) T1)))
def Q7q(b:Q07)(m:(List Int))(port:Int)(v:Int):(Q07×(List Int)):=(Q3q b m port v).m
abbrev Qn2(b:Q07)(m:(List Int))(port:Int)(v:Int):Prop:=(Q3q b m port v).p
def Z8f:Q0b:=mkP 178 [] true [.agg Q07.sig, .one (.ints .u32), .one (.int .i64), .one (.int .u32)] [] (λargs rows=>Qn2 (Q07.of (args.getD 0 .dead).cells) (argL .u32 args 1) (argI args 2) (argI args 3)) (λargs rows=>Q7q (Q07.of (args.getD 0 .dead).cells) (argL .u32 args 1) (argI args 2) (argI args 3)) (λX=> .tup [.agg (Q07.cells (X.1)), .all 0]) (λX=>[⟨false,23,1, .ints .u32 (X.2)⟩])
theorem Z2i:Q05 Tryz.prog Z8f:=Q0k Q0j Q0h (.cons Q0u (.cons Q3w (.cons Qdm (.cons Qv9 (.nil))))) Tryz.func178 Tryz.call178 (λargs rows=>Q3q (Q07.of (args.getD 0 .dead).cells) (argL .u32 args 1) (argI args 2) (argI args 3)) [.row 23 1 (.ints .u32)] [] 2 (λ_ _ _=>by kernel_rfl) (λ_ _=>rfl) (λ_ _ h=>h) (λ_ X=>by kernel_rfl)
def Q39(m:Q00)(port:Int)(v:Int)(at0:Int):Tree (Q00×(List Q02)):=
.br (port==0) (.lf (m,[{B5:=1,At:=at0,B6:=0,C8:=[(λ(n:Int)=>UInt8.ofNat n.toNat) (wrap u8 v)]}])) (.br (port==3) (.lv (Qkt m.B1 v) λ(x0:Q0f)=> .lf ({B3:=m.B3,Mem:=m.Mem,A1:=m.A1,B1:=x0,B0:=m.B0,C7:=m.C7,A2:=m.A2,A3:=m.A3,A6:=m.A6,A7:=m.A7},[])) (let T1:Tree ((Q00×(List Q02))):= .an (Qvy m.B0 m.Mem port v at0) (.lv (Qyh m.B0 m.Mem port v at0) λ(x1:Q0d×List Q02)=> .lf ({B3:=m.B3,Mem:=m.Mem,A1:=m.A1,B1:=m.B1,B0:=x1.1,C7:=m.C7,A2:=m.A2,A3:=m.A3,A6:=m.A6,A7:=m.A7},x1.2)); .br (port==4) T1 (.br (port==5) T1 (.br (port==6) T1 (let T2:Tree ((Q00×(List Q02))):= .an (Qz7 m.C7 m.Mem port v at0) (.lv (Z8s m.C7 m.Mem port v at0) λ(x4:Q0p×List Q02)=> .lf ({B3:=m.B3,Mem:=m.Mem,A1:=m.A1,B1:=m.B1,B0:=m.B0,C7:=x4.1,A2:=m.A2,A3:=m.A3,A6:=m.A6,A7:=m.A7},x4.2)); .br (port==7) T2 (.br (port==8) T2 (.br (port==9) T2 (let T3:Tree ((Q00×(List Q02))):= .an (Qn2 m.A2 m.Mem port v) (.lv (Q7q m.A2 m.Mem port v) λ(x7:Q07×List Int)=> .lf ({B3:=m.B3,Mem:=x7.2,A1:=m.A1,B1:=m.B1,B0:=m.B0,C7:=m.C7,A2:=x7.1,A3:=m.A3,A6:=m.A6,A7:=m.A7},[])); .br (port==10) T3 (.br (port==11) T3 (.lf (m,[])))))))))))
def Q2d(m:Q00)(port:Int)(v:Int)(at0:Int):(Q00×(List Q02)):=(Q39 m port v at0).m
abbrev Qey(m:Q00)(port:Int)(v:Int)(at0:Int):Prop:=(Q39 m port v at0).p
def Qr3:Q0b:=Q0b.fz<|mkP 126 [] false [.agg Q00.sig, .one (.int .i64), .one (.int .u32), .one (.int .u64)] [] (λargs rows=>Qey (Q00.of (args.getD 0 .dead).cells) (argI args 1) (argI args 2) (argI args 3)) (λargs rows=>Q2d (Q00.of (args.getD 0 .dead).cells) (argI args 1) (argI args 2) (argI args 3)) (λX=> .tup [.agg (Q00.cells (X.1)), .sl 4 (.recs .apiOutput (X.2)) true]) (λX=>[])
theorem Qph:Q05 Tryz.prog Qr3:=fz_ok<|Q0k Q0j Q0h (.cons Zan (.cons Zfe (.cons Zlh (.cons Z2i (.nil))))) Tryz.func126 Tryz.call126 (λargs rows=>Q39 (Q00.of (args.getD 0 .dead).cells) (argI args 1) (argI args 2) (argI args 3)) [.sl (.ints .u32) false, .sl (.recs .apiOutput) true] [] 2 (λ_ _ _=>by kernel_rfl) (λ_ _=>rfl) (λ_ _ h=>h) (λh=>by cases h)
def Q6h(m:Q00)(clock:Int):Tree (Q00×(List Q02)):=
.an (Q06 m.Mem) (.lv (Q04 m.Mem) λ(x0:List Int)=>let E1:=({B3:=m.B3,Mem:=x0,A1:=m.A1,B1:=m.B1,B0:=m.B0,C7:=m.C7,A2:=m.A2,A3:=m.A3,A6:=m.A6,A7:=m.A7}:Q00); .an (Qam E1) (.lv (Q41 E1) λ(x1:Bool)=> .br (!x1) (.lf (E1,[])) (.an (Q9k E1) (.lv (Q0y E1) λ(x2:Q00)=> .an (Qiu x2.B3 x2.Mem) (.lv (Q9l x2.B3 x2.Mem) λ(x3:Q03×List Int×Q1)=>let E2:=({B3:=x3.1,Mem:=x3.2.1,A1:=x2.A1,B1:=x2.B1,B0:=x2.B0,C7:=x2.C7,A2:=x2.A2,A3:=x2.A3,A6:=x2.A6,A7:=x2.A7}:Q00); .br (x3.2.2.B5==1) (.an (Qfu E2 x3.2.2.D3 clock) (.lv (Q1a E2 x3.2.2.D3 clock) λ(x4:Q00×Int)=> .br (x3.2.2.F3 !=0) (.cn (Nat.blt 0 1&&decide (0<=x3.2.2.F3/\x3.2.2.F3<(↑16:Int))) (.lf ({B3:={X:=A16.of 0 (List.set (A16.l x4.1.B3.X) x3.2.2.F3.toNat x4.2),Pc:=x4.1.B3.Pc,B7:=x4.1.B3.B7},Mem:=x4.1.Mem,A1:=x4.1.A1,B1:=x4.1.B1,B0:=x4.1.B0,C7:=x4.1.C7,A2:=x4.1.A2,A3:=wrap u64 (x4.1.A3+1),A6:=x4.1.A6,A7:=x4.1.A7},[]))) (.lf ({B3:=x4.1.B3,Mem:=x4.1.Mem,A1:=x4.1.A1,B1:=x4.1.B1,B0:=x4.1.B0,C7:=x4.1.C7,A2:=x4.1.A2,A3:=wrap u64 (x4.1.A3+1),A6:=x4.1.A6,A7:=x4.1.A7},[])))) (.br (x3.2.2.B5==2) (.an (Qey E2 x3.2.2.D3 x3.2.2.Value m.A3) (.lv (Q2d E2 x3.2.2.D3 x3.2.2.Value m.A3) λ(x5:Q00×List Q02)=> .lf ({B3:=x5.1.B3,Mem:=x5.1.Mem,A1:=x5.1.A1,B1:=x5.1.B1,B0:=x5.1.B0,C7:=x5.1.C7,A2:=x5.1.A2,A3:=wrap u64 (x5.1.A3+1),A6:=x5.1.A6,A7:=x5.1.A7},x5.2))) (.br (x3.2.2.B5==3) (.lf ({B3:=x3.1,Mem:=x3.2.1,A1:=x2.A1,B1:=x2.B1,B0:=x2.B0,C7:=x2.C7,A2:=x2.A2,A3:=wrap u64 (x2.A3+1),A6:=true,A7:=x2.A7},[])) (.br (x3.2.2.B5==4) (.lf ({B3:=x3.1,Mem:=x3.2.1,A1:=x2.A1,B1:=x2.B1,B0:=x2.B0,C7:=x2.C7,A2:=x2.A2,A3:=wrap u64 (x2.A3+1),A6:=x2.A6,A7:=true},[])) (.lf ({B3:=x3.1,Mem:=x3.2.1,A1:=x2.A1,B1:=x2.B1,B0:=x2.B0,C7:=x2.C7,A2:=x2.A2,A3:=wrap u64 (x2.A3+1),A6:=x2.A6,A7:=x2.A7},[]))))))))))
def Q7a(m:Q00)(clock:Int):(Q00×(List Q02)):=(Q6h m clock).m
abbrev Qal(m:Q00)(clock:Int):Prop:=(Q6h m clock).p
def Z2l:Q0b:=Q0b.fz<|mkP 58 [] false [.agg Q00.sig, .one (.int .u32)] [] (λargs rows=>Qal (Q00.of (args.getD 0 .dead).cells) (argI args 1)) (λargs rows=>Q7a (Q00.of (args.getD 0 .dead).cells) (argI args 1)) (λX=> .tup [.agg (Q00.cells (X.1)), .sl 4 (.recs .apiOutput (X.2)) false]) (λX=>[])
theorem Z1u:Q05 Tryz.prog Z2l:=fz_ok<|Q0k Q0j Q0h (.cons Q0u (.cons Qmu (.cons Qm5 (.cons Qzp (.cons Qqn (.cons Qph (.nil))))))) Tryz.func58 Tryz.call58 (λargs rows=>Q6h (Q00.of (args.getD 0 .dead).cells) (argI args 1)) [.sl (.ints .u32) false, .sl (.recs .apiOutput) false] [] 2 (λ_ _ _=>by kernel_rfl) (λ_ _=>rfl) (λ_ _ h=>h) (λh=>by cases h)
end
end Go.Proofs.YtjaifpiopmhmlaaGreat

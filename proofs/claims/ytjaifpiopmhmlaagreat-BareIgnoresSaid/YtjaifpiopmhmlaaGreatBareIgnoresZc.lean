/-
  Functions of the program: models, and that its calls come to them (by a program: gen3.py).
-/
import Derived.Test.YtjaifpiopmhmlaaGreatBareIgnoresBase
import Derived.Test.YtjaifpiopmhmlaaGreatBareIgnoresZa
import Derived.Test.YtjaifpiopmhmlaaGreatBareIgnoresZb
set_option maxRecDepth 100000
set_option linter.all false
namespace Go.Proofs.YtjaifpiopmhmlaaGreat
open Go Go.GD Go.IntKind
noncomputable section
def Qcc(steps:Int):Tree Int:=
.lf (if 4000<if 0>steps then 0 else steps then 4000 else if 0>steps then 0 else steps)
def Q13(steps:Int):Int:=(Qcc steps).m
def Qzv:Q0c:=mkR 183 [] true [.one (.int .i64)] [] (λargs rows=>Q13 (argI args 0)) (λX=> .int .i64 X) (λX=>[])
theorem Qxq:Q05 Tryz.prog Qzv:=Q0z Q0j Q0k (.nil) Tryz.func183 Tryz.call183 (λargs rows=>Qcc (argI args 0)) [] [] 2 (λ_ _ _=>by kernel_rfl) (λ_ _=>rfl) (λ_ _=>Tree.free_ok (by kernel_rfl)) (λ_ X=>by kernel_rfl)
def Qv9(t:Q0g)(now:Int):Tree Bool:=
.br t.D2 (.lf (decide (now>=t.C9))) (.lf false)
def Q7g(t:Q0g)(now:Int):Bool:=(Qv9 t now).m
def Zlh:Q0c:=mkR 184 [] true [.agg Q0g.sig, .one (.int .u32)] [] (λargs rows=>Q7g (Q0g.of (args.getD 0 .dead).cells) (argI args 1)) (λX=> .bool X) (λX=>[])
theorem Zh6:Q05 Tryz.prog Zlh:=Q0z Q0j Q0k (.nil) Tryz.func184 Tryz.call184 (λargs rows=>Qv9 (Q0g.of (args.getD 0 .dead).cells) (argI args 1)) [] [] 2 (λ_ _ _=>by kernel_rfl) (λ_ _=>rfl) (λ_ _=>Tree.free_ok (by kernel_rfl)) (λ_ X=>by kernel_rfl)
def Qcp(m:Q00)(z:(Int)):Nat:=(32-z).toNat
def Q4c(m:Q00):Tree Q04:=
.an (Qff m) (.lv (Q2s m) λ(x0:Int)=> .br (iand u32 m.B2.B6.a0 (2:Int)==(0:Int)) (.lf m.B2) (.br (x0==0) (.lf m.B2) (.lp inferInstance (Qcp m 0+1) (((rE (0:Nat)/\rE (0:Nat))/\(rE (0:Nat)/\rE (0:Nat))/\rE (x0:Int)/\rE (0:Int)/\True)/\(mE m (((Els.Nil (Els.ints u32 m.Mem)\/rE (1:Nat))/\rE m.Mem)) True)/\(rE (0:Int)/\rE (0:Int)/\rE (0:Int)/\rE (0:Int)/\rE (0:Int)/\rE (0:Int)/\rE (0:Int)/\rE (0:Int)/\rE (0:Int)/\rE (0:Int)/\rE (0:Int)/\rE (0:Int)/\rE (0:Int)/\rE (0:Int)/\rE (0:Int)/\rE (0:Int)/\rE (0:Int)/\rE (0:Int)/\rE (0:Int)/\rE (0:Int)/\rE (0:Int)/\rE (0:Int)/\rE (0:Int)/\rE (0:Int)/\rE (0:Int)/\True)/\True) 0 λ(v0:Int)=> .cn (decide (0<=wrap u64 v0)) (.br (iand u32 (ishr u32 x0 (wrap u64 v0)) (1:Int)==(0:Int)) (.nx (((rE (0:Nat)/\rE (0:Nat))/\(rE (0:Nat)/\rE (0:Nat))/\rE (x0:Int)/\rE ((wrap i64 (v0+1)):Int)/\True)/\(mE m (((Els.Nil (Els.ints u32 m.Mem)\/rE (1:Nat))/\rE m.Mem)) True)/\(rE (0:Int)/\rE (0:Int)/\rE (0:Int)/\rE (0:Int)/\rE (0:Int)/\rE (0:Int)/\rE (0:Int)/\rE (0:Int)/\rE (0:Int)/\rE (0:Int)/\rE (0:Int)/\rE (0:Int)/\rE (0:Int)/\rE (0:Int)/\rE (0:Int)/\rE (0:Int)/\rE (0:Int)/\rE (0:Int)/\rE (0:Int)/\rE (0:Int)/\rE (0:Int)/\rE (0:Int)/\rE (0:Int)/\rE (0:Int)/\rE (0:Int)/\True)/\True) (Sum.inl (wrap i64 (v0+1)))) (.lv (Q2m m.B2 (wrap i64 (16+v0)) 0) λ(x1:Q04)=> .lf (Sum.inr x1))))))
def Q0m(m:Q00):Q04:=(Q4c m).m
abbrev Q6i(m:Q00):Prop:=(Q4c m).p
def Qq6:LInv:={
 α:=(Int)
 F:=λst a=>([(1, .ptr 0 0 0),(2, .ptr 1 0 0),(3,(lk st 3)),(4, .int i64 a)],[⟨true,41,49, .gen [[(cT st 1 0),(cT st 1 1),(cT st 1 2),(cT st 1 3),(cT st 1 4),(cT st 1 5),(cT st 1 6),(cT st 1 7),(cT st 1 8),(cT st 1 9),(cT st 1 10),(cT st 1 11),(cT st 1 12),(cT st 1 13),(cT st 1 14),(cT st 1 15),(cT st 1 16),(cT st 1 17),(cT st 1 18),(cT st 1 19),(cT st 1 20),(cT st 1 21),(cT st 1 22),(cT st 1 23),(cT st 1 24),(cT st 1 25),(cT st 1 26),(cT st 1 27),(cT st 1 28),(cT st 1 29),(cT st 1 30),(cT st 1 31),(cT st 1 32),(cT st 1 33),(cT st 1 34),(cT st 1 35),(cT st 1 36),(cT st 1 37),(cT st 1 38),(cT st 1 39),(cT st 1 40),(cT st 1 41),(cT st 1 42),(cT st 1 43),(cT st 1 44),(cT st 1 45),(cT st 1 46),(cT st 1 47),(cT st 1 48)]]⟩,⟨true,27,25, .gen [[(cT st 2 0),(cT st 2 1),(cT st 2 2),(cT st 2 3),(cT st 2 4),(cT st 2 5),(cT st 2 6),(cT st 2 7),(cT st 2 8),(cT st 2 9),(cT st 2 10),(cT st 2 11),(cT st 2 12),(cT st 2 13),(cT st 2 14),(cT st 2 15),(cT st 2 16),(cT st 2 17),(cT st 2 18),(cT st 2 19),(cT st 2 20),(cT st 2 21),(cT st 2 22),(cT st 2 23),(cT st 2 24)]]⟩])
 a0:=λst=>(lk st 4).toInt
 ex0:=λst=>[]++[(Q0r (lk st 1) (st.rows.length+0)),(Q0r (lk st 2) (st.rows.length+1))]
 next:=λst=>(lk st 4).toInt
 ex:=λst=>[]++[(Q0r (lk st 1) (st.rows.length+0)),(Q0r (lk st 2) (st.rows.length+1))]}
def Qnh:List (Nat×LInv):=[(5,Qq6)]
def Qsw:Q0c:=mkP 136 [] true [.agg Q00.sig] [] (λargs rows=>Q6i (Q00.of (args.getD 0 .dead).cells)) (λargs rows=>Q0m (Q00.of (args.getD 0 .dead).cells)) (λX=> .agg (Q04.cells X)) (λX=>[])
theorem Qb4:Q05 Tryz.prog Qsw:=Q0n Q0j Q0k (.cons Qna (.cons Qj (.nil))) Tryz.func136 Tryz.call136 (λargs rows=>Q4c (Q00.of (args.getD 0 .dead).cells)) [] Qnh 3 (λ_ _ _=>by kernel_rfl) (λ_ _=>rfl) (λ_ _ h=>h) (λ_ X=>by kernel_rfl)
def Qe0(m:Q00):Tree Bool:=
.an (Q6i m) (.lv (Q0m m) λ(x0:Q04)=> .br (iand u32 x0.B6.a0 (1:Int)==(0:Int)) (.lf false) (.an (Qby m.Mem x0.Pc 4) (.lv (Q16 m.Mem x0.Pc 4) λ(x1:Int×Bool)=> .lv (Q1t x1.1) λ(x2:Q0i×Bool)=> .br x1.2 (.br x2.2 (.br (x2.1.Op==60) (.lf (x2.1.Imm==2)) (.lf false)) (.lf false)) (.lf false))))
def Qd1(m:Q00):Bool:=(Qe0 m).m
abbrev Qja(m:Q00):Prop:=(Qe0 m).p
def Zas:Q0c:=mkP 69 [] true [.agg Q00.sig] [] (λargs rows=>Qja (Q00.of (args.getD 0 .dead).cells)) (λargs rows=>Qd1 (Q00.of (args.getD 0 .dead).cells)) (λX=> .bool X) (λX=>[])
theorem Qs9:Q05 Tryz.prog Zas:=Q0n Q0j Q0k (.cons Qb4 (.cons Qmt (.cons Qpy (.nil)))) Tryz.func69 Tryz.call69 (λargs rows=>Qe0 (Q00.of (args.getD 0 .dead).cells)) [] [] 2 (λ_ _ _=>by kernel_rfl) (λ_ _=>rfl) (λ_ _ h=>h) (λ_ X=>by kernel_rfl)
def Q6x(m:Q00):Tree Bool:=
.an (Qdx m) (.lv (Q0y m) λ(x0:Bool)=> .br x0 (.lf false) (.an (Qja m) (.lv (Qd1 m) λ(x1:Bool)=> .lf x1)))
def Q0t(m:Q00):Bool:=(Q6x m).m
abbrev Qb6(m:Q00):Prop:=(Q6x m).p
def Qur:Q0c:=mkP 50 [] true [.agg Q00.sig] [] (λargs rows=>Qb6 (Q00.of (args.getD 0 .dead).cells)) (λargs rows=>Q0t (Q00.of (args.getD 0 .dead).cells)) (λX=> .bool X) (λX=>[])
theorem Qsb:Q05 Tryz.prog Qur:=Q0n Q0j Q0k (.cons Qr9 (.cons Qs9 (.nil))) Tryz.func50 Tryz.call50 (λargs rows=>Q6x (Q00.of (args.getD 0 .dead).cells)) [] [] 2 (λ_ _ _=>by kernel_rfl) (λ_ _=>rfl) (λ_ _ h=>h) (λ_ X=>by kernel_rfl)
def Q38(c:Q0b)(port:Int):Tree (Q0b×Int):=
let T1:Tree ((Q0b×Int)):= .br (port==0) (.cn (decide ((0:Int)<=(1:Int)/\1<=(c.D3.length:Int)/\(c.D3.length:Int)<=(c.D3.length:Int))) (.cn (decide ((0:Int)<=(0:Int)/\0<(c.D3.length:Int))) (.lf ({D3:=List.take (Int.toNat (c.D3.length:Int)-Int.toNat 1) (List.drop (Int.toNat 1) c.D3)},wrap u32 (↑(UInt8.toNat (c.D3.getD (Int.toNat 0) (0:UInt8))):Int))))) (.br (port==1) (.lf (c,wrap u32 (c.D3.length:Int))) (.lf (c,0))); .br (port==0) (.br ((c.D3.length:Int)==(0:Int)) (.lf (c,4294967295)) T1) T1
def Q4y(c:Q0b)(port:Int):(Q0b×Int):=(Q38 c port).m
theorem Qt5(c:Q0b)(port:Int):(Q38 c port).p:=by
 unfold Tree.p Q38
 repeat'(first|exact trivial|refine w_br (λ_=> ?_) (λ_=> ?_)|refine w_cn ?_ ?_|refine w_an ?_ ?_|refine w_lv (λ_ _=> ?_)|refine w_nx ?_|refine w_lf ?_|refine And.intro ?_ ?_)
 all_goals(((subst_vars;first|trivial|assumption|omega|((simp(config:={decide:=true,failIfUnchanged:=false}) only[Bool.and_eq_true,Bool.or_eq_true,Bool.and_eq_false_iff,Bool.or_eq_false_iff,Bool.not_eq_true',Bool.not_eq_false',Bool.not_eq_true,Bool.not_eq_false,decide_eq_true_eq,decide_eq_false_iff_not,Q4j,Q2t,Q4f,Q2u,beq_iff_eq,beq_eq_false_iff_ne,bne_iff_ne,bne_eq_false_iff_eq,ne_eq,List.all_cons,List.all_nil,D.plain,List.length_cons,List.length_nil,List.length_append,List.length_set,List.length_replicate,IntKind.wrap_i64,IntKind.wrap_u64,IntKind.wrap_u32,IntKind.wrap_i32,IntKind.wrap_u8,true_and,and_true,or_false,false_or,or_true,true_or,not_true_eq_false,not_false_eq_true,Prod.fst,Prod.snd]at*);first|done|assumption|omega)|((simp(config:={decide:=true,failIfUnchanged:=false}) only[Bool.and_eq_true,Bool.or_eq_true,Bool.and_eq_false_iff,Bool.or_eq_false_iff,Bool.not_eq_true',Bool.not_eq_false',Bool.not_eq_true,Bool.not_eq_false,decide_eq_true_eq,decide_eq_false_iff_not,Q4j,Q2t,Q4f,Q2u,beq_iff_eq,beq_eq_false_iff_ne,bne_iff_ne,bne_eq_false_iff_eq,ne_eq,List.all_cons,List.all_nil,D.plain,List.length_cons,List.length_nil,List.length_append,List.length_set,List.length_replicate,IntKind.wrap_i64,IntKind.wrap_u64,IntKind.wrap_u32,IntKind.wrap_i32,IntKind.wrap_u8,true_and,and_true,or_false,false_or,or_true,true_or,not_true_eq_false,not_false_eq_true,Prod.fst,Prod.snd]at*);simp only[<-List.length_pos_iff]at*;omega)|(simp_all;done)|(have:= @Qfc;simp_all;try omega))))
def Qxs:Q0c:=mkR 196 [] true [.agg Q0b.sig, .one (.int .i64)] [] (λargs rows=>Q4y (Q0b.of (args.getD 0 .dead).cells) (argI args 1)) (λX=> .tup [.agg (Q0b.cells (X.1)), .int .u32 (X.2)]) (λX=>[])
theorem Qkl:Q05 Tryz.prog Qxs:=Q0z Q0j Q0k (.nil) Tryz.func196 Tryz.call196 (λargs rows=>Q38 (Q0b.of (args.getD 0 .dead).cells) (argI args 1)) [] [] 2 (λ_ _ _=>by kernel_rfl) (λ_ _=>rfl) (λargs rows=>Qt5 (Q0b.of (args.getD 0 .dead).cells) (argI args 1)) (λ_ X=>by kernel_rfl)
def Qdv(t:Q0g):Tree Int:=
.br t.D5 (.lf 1) (.lf 0)
def Qe5(t:Q0g):Int:=(Qdv t).m
def Z2t:Q0c:=mkR 197 [] true [.agg Q0g.sig] [] (λargs rows=>Qe5 (Q0g.of (args.getD 0 .dead).cells)) (λX=> .int .u32 X) (λX=>[])
theorem Qnc:Q05 Tryz.prog Z2t:=Q0z Q0j Q0k (.nil) Tryz.func197 Tryz.call197 (λargs rows=>Qdv (Q0g.of (args.getD 0 .dead).cells)) [] [] 2 (λ_ _ _=>by kernel_rfl) (λ_ _=>rfl) (λ_ _=>Tree.free_ok (by kernel_rfl)) (λ_ X=>by kernel_rfl)
def Qfv(d0:Q0f)(port:Int):Tree Int:=
.br (port==4) (.lf d0.B9) (.br (port==5) (.lf d0.B4) (.br (port==6) (.lf (wrap u32 d0.C2)) (.lf 0)))
def Qgm(d0:Q0f)(port:Int):Int:=(Qfv d0 port).m
def Z8o:Q0c:=mkR 198 [] true [.agg Q0f.sig, .one (.int .i64)] [] (λargs rows=>Qgm (Q0f.of (args.getD 0 .dead).cells) (argI args 1)) (λX=> .int .u32 X) (λX=>[])
theorem Qph:Q05 Tryz.prog Z8o:=Q0z Q0j Q0k (.nil) Tryz.func198 Tryz.call198 (λargs rows=>Qfv (Q0f.of (args.getD 0 .dead).cells) (argI args 1)) [] [] 2 (λ_ _ _=>by kernel_rfl) (λ_ _=>rfl) (λ_ _=>Tree.free_ok (by kernel_rfl)) (λ_ X=>by kernel_rfl)
def Qey(n:Q0q)(port:Int):Tree Int:=
.br (port==7) (.lf n.B4) (.br (port==8) (.lf n.F2) (.br (port==9) (.br n.C7 (.br n.B8 (.lf (wrap u32 ((1:Int)+(2:Int)))) (.lf 1)) (.br n.B8 (.lf (wrap u32 ((0:Int)+(2:Int)))) (.lf 0))) (.lf 0)))
def Qge(n:Q0q)(port:Int):Int:=(Qey n port).m
def Zcy:Q0c:=mkR 199 [] true [.agg Q0q.sig, .one (.int .i64)] [] (λargs rows=>Qge (Q0q.of (args.getD 0 .dead).cells) (argI args 1)) (λX=> .int .u32 X) (λX=>[])
theorem Qsm:Q05 Tryz.prog Zcy:=Q0z Q0j Q0k (.nil) Tryz.func199 Tryz.call199 (λargs rows=>Qey (Q0q.of (args.getD 0 .dead).cells) (argI args 1)) [] [] 2 (λ_ _ _=>by kernel_rfl) (λ_ _=>rfl) (λ_ _=>Tree.free_ok (by kernel_rfl)) (λ_ X=>by kernel_rfl)
def Q5p(b:Q07)(port:Int):Tree Int:=
.br (port==10) (.lf b.D0) (.br (port==11) (.lv (Qdk b) λ(x0:Int)=> .lf (wrap u32 x0)) (.lf 0))
def Q5(b:Q07)(port:Int):Int:=(Q5p b port).m
def Qxj:Q0c:=mkR 200 [] true [.agg Q07.sig, .one (.int .i64)] [] (λargs rows=>Q5 (Q07.of (args.getD 0 .dead).cells) (argI args 1)) (λX=> .int .u32 X) (λX=>[])
theorem Qju:Q05 Tryz.prog Qxj:=Q0z Q0j Q0k (.cons Qri (.nil)) Tryz.func200 Tryz.call200 (λargs rows=>Q5p (Q07.of (args.getD 0 .dead).cells) (argI args 1)) [] [] 2 (λ_ _ _=>by kernel_rfl) (λ_ _=>rfl) (λ_ _=>Tree.free_ok (by kernel_rfl)) (λ_ X=>by kernel_rfl)
def Qjo(m:Q00)(port:Int)(clock:Int):Tree (Int×Q00):=
.br (decide (port<=1)) (.lv (Q4y m.A3 port) λ(x0:Q0b×Int)=> .lf (x0.2,{B2:=m.B2,Mem:=m.Mem,A3:=x0.1,B0:=m.B0,B1:=m.B1,C5:=m.C5,A2:=m.A2,A1:=m.A1,A4:=m.A4,A7:=m.A7})) (.br (port==2) (.lf (clock,m)) (.br (port==3) (.lv (Qe5 m.B0) λ(x1:Int)=> .lf (x1,m)) (.br (decide (port<=6)) (.lv (Qgm m.B1 port) λ(x2:Int)=> .lf (x2,m)) (.br (decide (port<=9)) (.lv (Qge m.C5 port) λ(x3:Int)=> .lf (x3,m)) (.lv (Q5 m.A2 port) λ(x4:Int)=> .lf (x4,m))))))
def Qc1(m:Q00)(port:Int)(clock:Int):(Int×Q00):=(Qjo m port clock).m
def qC:Q0c:=mkR 140 [true,false,false] true [.ptr 0, .one (.int .i64), .one (.int .u32)] [.box 41 49 (Q00.sigW (.row 1)), .arr 23 1 (.ints .u32)] (λargs rows=>Qc1 (Q00.ofW (rows.getD 0 default).cs (rowL .u32 rows 1)) (argI args 1) (argI args 2)) (λX=> .int .u32 (X.1)) (λX=>[⟨true,41,49, .gen [(Q00.cellsW (X.2) (.all 1))]⟩,⟨false,23,1, .ints .u32 (X.2).Mem⟩])
theorem Zlj:Q05 Tryz.prog qC:=Q0z Q0j Q0k (.cons Qkl (.cons Qnc (.cons Qph (.cons Qsm (.cons Qju (.nil)))))) Tryz.func140 Tryz.call140 (λargs rows=>Qjo (Q00.ofW (rows.getD 0 default).cs (rowL .u32 rows 1)) (argI args 1) (argI args 2)) [.row 23 1 (.ints .u32)] [] 2 (λ_ _ _=>by kernel_rfl) (λ_ _=>rfl) (λ_ _=>Tree.free_ok (by kernel_rfl)) (λ_ X=>by kernel_rfl)
def Qul(deadline:Int):Tree Q0g:=
.br (deadline==0) (.lf ({D2:=false,C9:=0,D5:=false})) (.lf ({D2:=true,C9:=deadline,D5:=false}))
def Qsy(deadline:Int):Q0g:=(Qul deadline).m
def Zjg:Q0c:=mkR 201 [] true [.one (.int .u32)] [] (λargs rows=>Qsy (argI args 0)) (λX=> .agg (Q0g.cells X)) (λX=>[])
theorem Z0o:Q05 Tryz.prog Zjg:=Q0z Q0j Q0k (.nil) Tryz.func201 Tryz.call201 (λargs rows=>Qul (argI args 0)) [] [] 2 (λ_ _ _=>by kernel_rfl) (λ_ _=>rfl) (λ_ _=>Tree.free_ok (by kernel_rfl)) (λ_ X=>by kernel_rfl)
def Qs7(x:Int)(n:Int)(z:(Int)×(List Int)):Prop:=0<=z.1/\(z.2.length:Int)=z.1/\(z.1<=n\/z.1=0)
def Qdw(x:Int)(n:Int)(z:(Int)×(List Int)):Nat:=(n-z.1).toNat
def Qga(x:Int)(n:Int):Tree (List UInt8):=
.lp inferInstance (Qdw x n (0,[])+1) ((rE (x:Int)/\rE (n:Int)/\True/\rE (0:Int)/\True)/\rE ([]:List Int)/\True) (0,[]) λ(v0:Int×List Int)=> .br (decide (v0.1<n)) (.cn (decide (0<=wrap u64 (wrap i64 (8*v0.1)))) (.cn (decide (1*(v0.2.length+1)<=140737488355328)) (.nx ((rE (x:Int)/\rE (n:Int)/\True/\rE ((wrap i64 (v0.1+1)):Int)/\True)/\rE ((v0.2++[wrap u8 (ishr u32 x (wrap u64 (wrap i64 (8*v0.1))))]):List Int)/\True) (Sum.inl (wrap i64 (v0.1+1),v0.2++[wrap u8 (ishr u32 x (wrap u64 (wrap i64 (8*v0.1))))]))))) (.lf (Sum.inr (bytesOf v0.2)))
def Z8n(x:Int)(n:Int):(List UInt8):=(Qga x n).m
def Qj1(x:Int)(n:Int):Prop:=
n<=1000000000000
theorem Zaj(x:Int)(n:Int)(hw:Qj1 x n):(Qga x n).p:=by
 simp only[Qj1]at hw
 unfold Tree.p Qga
 repeat'(first|refine w_lp (inv:=Qs7 x n) (μ:=Qdw x n) ?_ (Nat.lt_succ_self _) (λ_ _=> ?_)|exact trivial|refine w_br (λ_=> ?_) (λ_=> ?_)|refine w_cn ?_ ?_|refine w_an ?_ ?_|refine w_lv (λ_ _=> ?_)|refine w_nx ?_|refine w_lf ?_|refine And.intro ?_ ?_)
 all_goals((try simp only[Qs7,Qdw]at*);((subst_vars;first|trivial|assumption|omega|((simp(config:={decide:=true,failIfUnchanged:=false}) only[Bool.and_eq_true,Bool.or_eq_true,Bool.and_eq_false_iff,Bool.or_eq_false_iff,Bool.not_eq_true',Bool.not_eq_false',Bool.not_eq_true,Bool.not_eq_false,decide_eq_true_eq,decide_eq_false_iff_not,Q4j,Q2t,Q4f,Q2u,beq_iff_eq,beq_eq_false_iff_ne,bne_iff_ne,bne_eq_false_iff_eq,ne_eq,List.all_cons,List.all_nil,D.plain,List.length_cons,List.length_nil,List.length_append,List.length_set,List.length_replicate,IntKind.wrap_i64,IntKind.wrap_u64,IntKind.wrap_u32,IntKind.wrap_i32,IntKind.wrap_u8,true_and,and_true,or_false,false_or,or_true,true_or,not_true_eq_false,not_false_eq_true,Prod.fst,Prod.snd]at*);first|done|assumption|omega)|((simp(config:={decide:=true,failIfUnchanged:=false}) only[Bool.and_eq_true,Bool.or_eq_true,Bool.and_eq_false_iff,Bool.or_eq_false_iff,Bool.not_eq_true',Bool.not_eq_false',Bool.not_eq_true,Bool.not_eq_false,decide_eq_true_eq,decide_eq_false_iff_not,Q4j,Q2t,Q4f,Q2u,beq_iff_eq,beq_eq_false_iff_ne,bne_iff_ne,bne_eq_false_iff_eq,ne_eq,List.all_cons,List.all_nil,D.plain,List.length_cons,List.length_nil,List.length_append,List.length_set,List.length_replicate,IntKind.wrap_i64,IntKind.wrap_u64,IntKind.wrap_u32,IntKind.wrap_i32,IntKind.wrap_u8,true_and,and_true,or_false,false_or,or_true,true_or,not_true_eq_false,not_false_eq_true,Prod.fst,Prod.snd]at*);simp only[<-List.length_pos_iff]at*;omega)|(simp_all;done)|(have:= @Qfc;simp_all;try omega))))
def Zgp:LInv:={
 α:=(Int)×(List Int)
 F:=λst a=>([(0,(lk st 0)),(1,(lk st 1)),(5, .all 0),(6, .int i64 a.1)],[⟨false,5,1, .ints u8 a.2⟩])
 a0:=λst=>((lk st 6).toInt,(Q4e st.rows (rN st 5)))
 ex0:=λst=>[]++[(Q0r (lk st 5) (st.rows.length+0))]
 next:=λst=>((lk st 6).toInt,(Q4e st.rows (rN st 5)))
 ex:=λst=>[]++[(Q0r (lk st 5) (st.rows.length+0))]}
def Z77:List (Nat×LInv):=[(3,Zgp)]
def Zkm:Q0c:=mkP 268 [] true [.one (.int .u32), .one (.int .i64)] [] (λargs rows=>Qj1 (argI args 0) (argI args 1)) (λargs rows=>Z8n (argI args 0) (argI args 1)) (λX=> .str X) (λX=>[])
theorem Zf0:Q05 Tryz.prog Zkm:=Q0n Q0j Q0k (.nil) Tryz.func268 Tryz.call268 (λargs rows=>Qga (argI args 0) (argI args 1)) [] Z77 3 (λ_ _ _=>by kernel_rfl) (λ_ _=>rfl) (λargs rows h=>Zaj (argI args 0) (argI args 1) h) (λ_ X=>by kernel_rfl)
def Qhu(m:(List Int))(frame:Int)(z:(Int)×(List Int)):Nat:=(32-z.1).toNat
def Q8u(m:(List Int))(frame:Int):Tree ((List UInt8)×Bool):=
.br (decide (frame<0)) (.lf ([],false)) (.lv (Q3p m) λ(x0:Int)=> .br (decide (frame>=x0)) (.lf ([],false)) (.lp inferInstance (Qhu m frame (0,[])+1) ((((Els.Nil (Els.ints u32 m)\/rE (1:Nat))/\rE (m:List Int))/\rE (frame:Int)/\True/\rE (0:Int)/\True)/\rE ([]:List Int)/\True) (0,[]) λ(v0:Int×List Int)=> .br (decide (v0.1<32)) (.cn (Nat.beq 1 1&&Nat.blt 0 1&&decide (0<=wrap i64 (wrap i64 (frame*32)+v0.1)/\wrap i64 (wrap i64 (frame*32)+v0.1)<(m.length:Int))) (let E1:=m.getD (Int.toNat (wrap i64 (wrap i64 (frame*32)+v0.1))) 0; .an (Qj1 E1 4) (.lv (Z8n E1 4) λ(x1:List UInt8)=> .cn (decide (1*(v0.2.length+List.length (Q91 x1))<=140737488355328)) (.nx ((((Els.Nil (Els.ints u32 m)\/rE (1:Nat))/\rE (m:List Int))/\rE (frame:Int)/\True/\rE ((wrap i64 (v0.1+1)):Int)/\True)/\rE ((v0.2++Q91 x1):List Int)/\True) (Sum.inl (wrap i64 (v0.1+1),v0.2++Q91 x1)))))) (.lf (Sum.inr (bytesOf v0.2,true)))))
def Qhv(m:(List Int))(frame:Int):((List UInt8)×Bool):=(Q8u m frame).m
abbrev Qfn(m:(List Int))(frame:Int):Prop:=(Q8u m frame).p
def Z9o:LInv:={
 α:=(Int)×(List Int)
 F:=λst a=>([(0,(lk st 0)),(1,(lk st 1)),(6, .all 0),(7, .int i64 a.1)],[⟨false,5,1, .ints u8 a.2⟩])
 a0:=λst=>((lk st 7).toInt,(Q4e st.rows (rN st 6)))
 ex0:=λst=>[]++[(Q0r (lk st 6) (st.rows.length+0))]
 next:=λst=>((lk st 7).toInt,(Q4e st.rows (rN st 6)))
 ex:=λst=>[]++[(Q0r (lk st 6) (st.rows.length+0))]}
def Z3k:List (Nat×LInv):=[(5,Z9o)]
def Zf4:Q0c:=mkP 247 [] true [.one (.ints .u32), .one (.int .i64)] [] (λargs rows=>Qfn (argL .u32 args 0) (argI args 1)) (λargs rows=>Qhv (argL .u32 args 0) (argI args 1)) (λX=> .tup [.str (X.1), .bool (X.2)]) (λX=>[])
theorem Qwg:Q05 Tryz.prog Zf4:=Q0n Q0j Q0k (.cons Qc (.cons Zf0 (.nil))) Tryz.func247 Tryz.call247 (λargs rows=>Q8u (argL .u32 args 0) (argI args 1)) [] Z3k 3 (λ_ _ _=>by kernel_rfl) (λ_ _=>rfl) (λ_ _ h=>h) (λ_ X=>by kernel_rfl)
def Qpr(d0:Q0f)(at0:Int):Tree (Q02×Bool):=
.br (d0.C2 !=1) (.lf ({B5:=0,At:=0,B9:=0,C8:=[]},false)) (.br (d0.D8==1) (.lf ({B5:=3,At:=at0,B9:=d0.B7,C8:=[]},true)) (.br (d0.D8==2) (.lf ({B5:=4,At:=at0,B9:=d0.B7,C8:=d0.C4},true)) (.lf ({B5:=0,At:=0,B9:=0,C8:=[]},false))))
def Qj0(d0:Q0f)(at0:Int):(Q02×Bool):=(Qpr d0 at0).m
def Z31:Q0c:=mkR 248 [] true [.agg Q0f.sig, .one (.int .u64)] [] (λargs rows=>Qj0 (Q0f.of (args.getD 0 .dead).cells) (argI args 1)) (λX=> .tup [.agg (Q02.cells (X.1)), .bool (X.2)]) (λX=>[])
theorem Z0j:Q05 Tryz.prog Z31:=Q0z Q0j Q0k (.nil) Tryz.func248 Tryz.call248 (λargs rows=>Qpr (Q0f.of (args.getD 0 .dead).cells) (argI args 1)) [] [] 2 (λ_ _ _=>by kernel_rfl) (λ_ _=>rfl) (λ_ _=>Tree.free_ok (by kernel_rfl)) (λ_ X=>by kernel_rfl)
def Q84(d0:Q0f)(m:(List Int))(port:Int)(v:Int)(at0:Int):Tree (Q0f×(List Q02)):=
.br (port==4) (.lf ({Blocks:=d0.Blocks,B9:=v,B4:=d0.B4,C2:=d0.C2,D8:=d0.D8,B7:=d0.B7,B3:=d0.B3,C4:=d0.C4},[])) (.br (port==5) (.lf ({Blocks:=d0.Blocks,B9:=d0.B9,B4:=v,C2:=d0.C2,D8:=d0.D8,B7:=d0.B7,B3:=d0.B3,C4:=d0.C4},[])) (.br (port !=6) (.lf (d0,[])) (let T1:Tree ((Q0f×(List Q02))):= .br (d0.C2==0) (let T2:Tree ((Q0f×(List Q02))):= .lf ({Blocks:=d0.Blocks,B9:=d0.B9,B4:=d0.B4,C2:=3,D8:=d0.D8,B7:=d0.B7,B3:=d0.B3,C4:=d0.C4},[]); .br (decide (d0.B9>=d0.Blocks)) T2 (.lv (Q1z m d0.B4) λ(x0:Bool)=> .br (!x0) T2 (.br (v==2) (.an (Qfn m (wrap i64 d0.B4)) (.lv (Qhv m (wrap i64 d0.B4)) λ(x1:List UInt8×Bool)=>let E4:=({Blocks:=d0.Blocks,B9:=d0.B9,B4:=d0.B4,C2:=1,D8:=wrap i64 v,B7:=d0.B9,B3:=d0.B4,C4:=x1.1}:Q0f); .lv (Qj0 E4 at0) λ(x2:Q02×Bool)=> .lf (E4,[x2.1]))) (let E5:=({Blocks:=d0.Blocks,B9:=d0.B9,B4:=d0.B4,C2:=1,D8:=wrap i64 v,B7:=d0.B9,B3:=d0.B4,C4:=[]}:Q0f); .lv (Qj0 E5 at0) λ(x3:Q02×Bool)=> .lf (E5,[x3.1]))))) (.lf (d0,[])); .br (v==0) (let T3:Tree ((Q0f×(List Q02))):= .lf ({Blocks:=d0.Blocks,B9:=d0.B9,B4:=d0.B4,C2:=0,D8:=d0.D8,B7:=d0.B7,B3:=d0.B3,C4:=d0.C4},[]); .br (d0.C2==2) T3 (.br (d0.C2==3) T3 (.br (v==1) T1 (.br (v==2) T1 (.lf (d0,[])))))) (.br (v==1) T1 (.br (v==2) T1 (.lf (d0,[])))))))
def Qea(d0:Q0f)(m:(List Int))(port:Int)(v:Int)(at0:Int):(Q0f×(List Q02)):=(Q84 d0 m port v at0).m
abbrev Qfk(d0:Q0f)(m:(List Int))(port:Int)(v:Int)(at0:Int):Prop:=(Q84 d0 m port v at0).p
def Z3f:Q0c:=mkP 202 [] true [.agg Q0f.sig, .one (.ints .u32), .one (.int .i64), .one (.int .u32), .one (.int .u64)] [] (λargs rows=>Qfk (Q0f.of (args.getD 0 .dead).cells) (argL .u32 args 1) (argI args 2) (argI args 3) (argI args 4)) (λargs rows=>Qea (Q0f.of (args.getD 0 .dead).cells) (argL .u32 args 1) (argI args 2) (argI args 3) (argI args 4)) (λX=> .tup [.agg (Q0f.cells (X.1)), .sl 4 (.recs .apiOutput (X.2)) true]) (λX=>[])
theorem Qn7:Q05 Tryz.prog Z3f:=Q0n Q0j Q0k (.cons Qed (.cons Qwg (.cons Z0j (.nil)))) Tryz.func202 Tryz.call202 (λargs rows=>Q84 (Q0f.of (args.getD 0 .dead).cells) (argL .u32 args 1) (argI args 2) (argI args 3) (argI args 4)) [.sl (.recs .apiOutput) true] [] 2 (λ_ _ _=>by kernel_rfl) (λ_ _=>rfl) (λ_ _ h=>h) (λ_ X=>by kernel_rfl)
def Q9v(n:Q0q)(m:(List Int))(port:Int)(v:Int)(at0:Int):Tree (Q0q×(List Q02)):=
.br (port==7) (.lf ({B4:=v,F0:=n.F0,C7:=n.C7,C1:=n.C1,B8:=n.B8,F2:=n.F2},[])) (.br (port==8) (.lf ({B4:=n.B4,F0:=v,C7:=n.C7,C1:=n.C1,B8:=n.B8,F2:=n.F2},[])) (.br (port !=9) (.lf (n,[])) (.br (v==0) (.lf ({B4:=n.B4,F0:=n.F0,C7:=n.C7,C1:=n.C1,B8:=false,F2:=0},[])) (let T1:Tree ((Q0q×(List Q02))):= .br (v==2) (.lv (Q1z m n.B4) λ(x2:Bool)=> .br x2 (.br (!n.C7) (.br (!n.B8) (.lf ({B4:=n.B4,F0:=n.F0,C7:=true,C1:=n.B4,B8:=n.B8,F2:=n.F2},[])) (.lf (n,[]))) (.lf (n,[]))) (.lf (n,[]))) (.lf (n,[])); .br (v==1) (.br (decide (n.F0>=1)) (.br (decide (n.F0<=128)) (.lv (Q1z m n.B4) λ(x0:Bool)=> .br x0 (.an (Qfn m (wrap i64 n.B4)) (.lv (Qhv m (wrap i64 n.B4)) λ(x1:List UInt8×Bool)=> .cn (decide ((0:Int)<=(0:Int)/\0<=n.F0/\n.F0<=(x1.1.length:Int))) (.lf (n,[{B5:=2,At:=at0,B9:=0,C8:=List.take (Int.toNat n.F0-Int.toNat 0) (List.drop (Int.toNat 0) x1.1)}])))) T1) T1) T1) T1))))
def Qgy(n:Q0q)(m:(List Int))(port:Int)(v:Int)(at0:Int):(Q0q×(List Q02)):=(Q9v n m port v at0).m
abbrev Qgq(n:Q0q)(m:(List Int))(port:Int)(v:Int)(at0:Int):Prop:=(Q9v n m port v at0).p
def Z7k:Q0c:=mkP 203 [] true [.agg Q0q.sig, .one (.ints .u32), .one (.int .i64), .one (.int .u32), .one (.int .u64)] [] (λargs rows=>Qgq (Q0q.of (args.getD 0 .dead).cells) (argL .u32 args 1) (argI args 2) (argI args 3) (argI args 4)) (λargs rows=>Qgy (Q0q.of (args.getD 0 .dead).cells) (argL .u32 args 1) (argI args 2) (argI args 3) (argI args 4)) (λX=> .tup [.agg (Q0q.cells (X.1)), .sl 4 (.recs .apiOutput (X.2)) true]) (λX=>[])
theorem Qpa:Q05 Tryz.prog Z7k:=Q0n Q0j Q0k (.cons Qed (.cons Qwg (.nil))) Tryz.func203 Tryz.call203 (λargs rows=>Q9v (Q0q.of (args.getD 0 .dead).cells) (argL .u32 args 1) (argI args 2) (argI args 3) (argI args 4)) [.sl (.recs .apiOutput) true] [] 2 (λ_ _ _=>by kernel_rfl) (λ_ _=>rfl) (λ_ _ h=>h) (λ_ X=>by kernel_rfl)
def Qhk(b:Q07)(m:(List Int))(port:Int)(v:Int)(z:(Int)×(List Int)):Nat:=(32-z.1).toNat
def Q4k(b:Q07)(m:(List Int))(port:Int)(v:Int):Tree (Q07×(List Int)):=
let T1:Tree ((Q07×(List Int))):= .br (port==11) (.br (decide (v<32)) (.cn (decide (0<=v)) (.lf ({D0:=b.D0,C3:=Qft u32 b.C3 (ishl u32 1 v)},m))) (.lf (b,m))) (.lf (b,m)); .br (port==10) (.lv (Q1z m v) λ(x0:Bool)=> .br x0 (.cn (decide (0<=v)) (.br (iand u32 (ishr u32 b.C3 v) (1:Int)==(0:Int)) (.cn (decide (0<=v)) (.lp inferInstance (Qhk b m port v (0,m)+1) ((True/\rE (v:Int)/\(rE (0:Nat)/\rE (0:Nat))/\(rE (0:Nat)/\rE (0:Nat))/\rE (0:Int)/\True)/\rE (m:List Int)/\(rE b.D0/\rE ((ior u32 b.C3 (ishl u32 1 v)):Int)/\True)/\(rE (0:Int)/\rE (0:Int)/\True)/\True) (0,m) λ(v0:Int×List Int)=> .br (decide (v0.1<32)) (let E2:=wrap i64 (wrap i64 v*32)+v0.1; .cn (Nat.beq 1 1&&Nat.blt 0 1&&decide (0<=wrap i64 E2/\wrap i64 E2<(v0.2.length:Int))) (.nx ((True/\rE (v:Int)/\(rE (0:Nat)/\rE (0:Nat))/\(rE (0:Nat)/\rE (0:Nat))/\rE ((wrap i64 (v0.1+1)):Int)/\True)/\rE ((List.set v0.2 (Int.toNat (wrap i64 (wrap i64 (wrap i64 v*32)+v0.1))) 0):List Int)/\(rE b.D0/\rE ((ior u32 b.C3 (ishl u32 1 v)):Int)/\True)/\(rE (0:Int)/\rE (0:Int)/\True)/\True) (Sum.inl (wrap i64 (v0.1+1),List.set v0.2 (Int.toNat (wrap i64 E2)) 0)))) (.lf (Sum.inr ({D0:=b.D0,C3:=ior u32 b.C3 (ishl u32 1 v)},v0.2))))) T1)) T1) T1
def Q5w(b:Q07)(m:(List Int))(port:Int)(v:Int):(Q07×(List Int)):=(Q4k b m port v).m
abbrev Qks(b:Q07)(m:(List Int))(port:Int)(v:Int):Prop:=(Q4k b m port v).p
def Zdq:LInv:={
 α:=(Int)×(List Int)
 F:=λst a=>([(1, .all 0),(3,(lk st 3)),(4, .ptr 1 0 0),(8, .ptr 2 0 0),(9, .int i64 a.1)],[⟨false,23,1, .ints u32 a.2⟩,⟨true,38,2, .gen [[(cT st 4 0),(cT st 4 1)]]⟩,⟨true,38,2, .gen [[(cT st 8 0),(cT st 8 1)]]⟩])
 a0:=λst=>((lk st 9).toInt,(Q4e st.rows 0))
 ex0:=λst=>[0]++[(Q0r (lk st 4) (st.rows.length+1)),(Q0r (lk st 8) (st.rows.length+2))]
 next:=λst=>((lk st 9).toInt,(Q4e st.rows 0))
 ex:=λst=>[0]++[(Q0r (lk st 4) (st.rows.length+1)),(Q0r (lk st 8) (st.rows.length+2))]}
def Z3p:List (Nat×LInv):=[(4,Zdq)]
def Zee:Q0c:=mkP 204 [false,true,false,false] true [.agg Q07.sig, .one (.row 0), .one (.int .i64), .one (.int .u32)] [.arr 23 1 (.ints .u32)] (λargs rows=>Qks (Q07.of (args.getD 0 .dead).cells) (rowL .u32 rows 0) (argI args 2) (argI args 3)) (λargs rows=>Q5w (Q07.of (args.getD 0 .dead).cells) (rowL .u32 rows 0) (argI args 2) (argI args 3)) (λX=> .agg (Q07.cells (X.1))) (λX=>[⟨false,23,1, .ints .u32 (X.2)⟩])
theorem Qwh:Q05 Tryz.prog Zee:=Q0n Q0j Q0k (.cons Qed (.nil)) Tryz.func204 Tryz.call204 (λargs rows=>Q4k (Q07.of (args.getD 0 .dead).cells) (rowL .u32 rows 0) (argI args 2) (argI args 3)) [] Z3p 3 (λ_ _ _=>by kernel_rfl) (λ_ _=>rfl) (λ_ _ h=>h) (λ_ X=>by kernel_rfl)
def Qct(m:Q00)(port:Int)(v:Int):Tree ((List Q02)×Q00):=
.br (port==0) (.lf ([{B5:=1,At:=m.A1,B9:=0,C8:=[(λ(n:Int)=>UInt8.ofNat n.toNat) (wrap u8 v)]}],m)) (.br (decide (port<=2)) (.lf ([],m)) (.br (port==3) (.lv (Qsy v) λ(x0:Q0g)=> .lf ([],{B2:=m.B2,Mem:=m.Mem,A3:=m.A3,B0:=x0,B1:=m.B1,C5:=m.C5,A2:=m.A2,A1:=m.A1,A4:=m.A4,A7:=m.A7})) (.br (decide (port<=6)) (.an (Qfk m.B1 m.Mem port v m.A1) (.lv (Qea m.B1 m.Mem port v m.A1) λ(x1:Q0f×List Q02)=> .lf (x1.2,{B2:=m.B2,Mem:=m.Mem,A3:=m.A3,B0:=m.B0,B1:=x1.1,C5:=m.C5,A2:=m.A2,A1:=m.A1,A4:=m.A4,A7:=m.A7}))) (.br (decide (port<=9)) (.an (Qgq m.C5 m.Mem port v m.A1) (.lv (Qgy m.C5 m.Mem port v m.A1) λ(x2:Q0q×List Q02)=> .lf (x2.2,{B2:=m.B2,Mem:=m.Mem,A3:=m.A3,B0:=m.B0,B1:=m.B1,C5:=x2.1,A2:=m.A2,A1:=m.A1,A4:=m.A4,A7:=m.A7}))) (.an (Qks m.A2 m.Mem port v) (.lv (Q5w m.A2 m.Mem port v) λ(x3:Q07×List Int)=> .lf ([],{B2:=m.B2,Mem:=x3.2,A3:=m.A3,B0:=m.B0,B1:=m.B1,C5:=m.C5,A2:=x3.1,A1:=m.A1,A4:=m.A4,A7:=m.A7})))))))
def Qa3(m:Q00)(port:Int)(v:Int):((List Q02)×Q00):=(Qct m port v).m
abbrev Qwj(m:Q00)(port:Int)(v:Int):Prop:=(Qct m port v).p
def Zkz:Q0c:=mkP 142 [true,false,false] true [.ptr 0, .one (.int .i64), .one (.int .u32)] [.box 41 49 (Q00.sigW (.row 1)), .arr 23 1 (.ints .u32)] (λargs rows=>Qwj (Q00.ofW (rows.getD 0 default).cs (rowL .u32 rows 1)) (argI args 1) (argI args 2)) (λargs rows=>Qa3 (Q00.ofW (rows.getD 0 default).cs (rowL .u32 rows 1)) (argI args 1) (argI args 2)) (λX=> .sl 4 (.recs .apiOutput (X.1)) true) (λX=>[⟨true,41,49, .gen [(Q00.cellsW (X.2) (.all 1))]⟩,⟨false,23,1, .ints .u32 (X.2).Mem⟩])
theorem Zfs:Q05 Tryz.prog Zkz:=Q0n Q0j Q0k (.cons Z0o (.cons Qn7 (.cons Qpa (.cons Qwh (.nil))))) Tryz.func142 Tryz.call142 (λargs rows=>Qct (Q00.ofW (rows.getD 0 default).cs (rowL .u32 rows 1)) (argI args 1) (argI args 2)) [.sl (.recs .apiOutput) true, .row 23 1 (.ints .u32)] [] 2 (λ_ _ _=>by kernel_rfl) (λ_ _=>rfl) (λ_ _ h=>h) (λ_ X=>by kernel_rfl)
def Q83(m:Q00)(clock:Int):Tree ((List Q02)×Q00):=
.an (Q6i m) (.lv (Q0m m) λ(x0:Q04)=> .an (Qqq x0 m.Mem) (.lv (Q6m x0 m.Mem) λ(x1:Q04×Q11×List Int)=>let E1:=({B2:=x1.1,Mem:=x1.2.2,A3:=m.A3,B0:=m.B0,B1:=m.B1,C5:=m.C5,A2:=m.A2,A1:=m.A1,A4:=false,A7:=m.A7}:Q00); .br (x1.2.1.B5==1) (.lv (Qc1 E1 x1.2.1.D1 clock) λ(x2:Int×Q00)=> .an (Q2q x2.2.B2 x1.2.1.E0 x2.1) (.lv (Q1p x2.2.B2 x1.2.1.E0 x2.1) λ(x3:Q04)=> .lf ([],{B2:=x3,Mem:=x2.2.Mem,A3:=x2.2.A3,B0:=x2.2.B0,B1:=x2.2.B1,C5:=x2.2.C5,A2:=x2.2.A2,A1:=wrap u64 (x2.2.A1+1),A4:=x2.2.A4,A7:=x2.2.A7}))) (.br (x1.2.1.B5==2) (.an (Qwj E1 x1.2.1.D1 x1.2.1.Value) (.lv (Qa3 E1 x1.2.1.D1 x1.2.1.Value) λ(x4:List Q02×Q00)=> .lf (x4.1,{B2:=x4.2.B2,Mem:=x4.2.Mem,A3:=x4.2.A3,B0:=x4.2.B0,B1:=x4.2.B1,C5:=x4.2.C5,A2:=x4.2.A2,A1:=wrap u64 (x4.2.A1+1),A4:=x4.2.A4,A7:=x4.2.A7}))) (.br (x1.2.1.B5==3) (.lf ([],{B2:=x1.1,Mem:=x1.2.2,A3:=m.A3,B0:=m.B0,B1:=m.B1,C5:=m.C5,A2:=m.A2,A1:=wrap u64 (m.A1+1),A4:=true,A7:=m.A7})) (.br (x1.2.1.B5==4) (.lf ([],{B2:=x1.1,Mem:=x1.2.2,A3:=m.A3,B0:=m.B0,B1:=m.B1,C5:=m.C5,A2:=m.A2,A1:=wrap u64 (m.A1+1),A4:=false,A7:=true})) (.lf ([],{B2:=x1.1,Mem:=x1.2.2,A3:=m.A3,B0:=m.B0,B1:=m.B1,C5:=m.C5,A2:=m.A2,A1:=wrap u64 (m.A1+1),A4:=false,A7:=m.A7})))))))
def Q0a(m:Q00)(clock:Int):((List Q02)×Q00):=(Q83 m clock).m
abbrev Qlx(m:Q00)(clock:Int):Prop:=(Q83 m clock).p
def Z2d:Q0c:=mkP 70 [true,false] true [.ptr 0, .one (.int .u32)] [.box 41 49 (Q00.sigW (.row 1)), .arr 23 1 (.ints .u32)] (λargs rows=>Qlx (Q00.ofW (rows.getD 0 default).cs (rowL .u32 rows 1)) (argI args 1)) (λargs rows=>Q0a (Q00.ofW (rows.getD 0 default).cs (rowL .u32 rows 1)) (argI args 1)) (λX=> .sl 4 (.recs .apiOutput (X.1)) true) (λX=>[⟨true,41,49, .gen [(Q00.cellsW (X.2) (.all 1))]⟩,⟨false,23,1, .ints .u32 (X.2).Mem⟩])
theorem Qzo:Q05 Tryz.prog Z2d:=Q0n Q0j Q0k (.cons Qb4 (.cons Z4y (.cons Zlj (.cons Qcy (.cons Zfs (.nil)))))) Tryz.func70 Tryz.call70 (λargs rows=>Q83 (Q00.ofW (rows.getD 0 default).cs (rowL .u32 rows 1)) (argI args 1)) [.sl (.recs .apiOutput) true, .row 23 1 (.ints .u32)] [] 2 (λ_ _ _=>by kernel_rfl) (λ_ _=>rfl) (λ_ _ h=>h) (λ_ X=>by kernel_rfl)
end
end Go.Proofs.YtjaifpiopmhmlaaGreat

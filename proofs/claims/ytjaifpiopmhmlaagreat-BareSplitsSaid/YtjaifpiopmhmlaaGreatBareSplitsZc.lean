/-
  Functions of the program: models, and that its calls come to them (by a program: gen3.py).
-/
import Derived.Test.YtjaifpiopmhmlaaGreatBareSplitsBase
import Derived.Test.YtjaifpiopmhmlaaGreatBareSplitsZa
import Derived.Test.YtjaifpiopmhmlaaGreatBareSplitsZb
set_option maxRecDepth 100000
set_option linter.all false
namespace Go.Proofs.YtjaifpiopmhmlaaGreat
open Go Go.GD Go.IntKind
noncomputable section
def Qc(steps:Int):Tree Int:=
.lf (if 4000<if 0>steps then 0 else steps then 4000 else if 0>steps then 0 else steps)
def Q13(steps:Int):Int:=(Qc steps).m
def Z1p:Q0c:=mkR 183 [] true [.one (.int .i64)] [] (λargs rows=>Q13 (argI args 0)) (λX=> .int .i64 X) (λX=>[])
theorem Qx5:Q05 Tryz.prog Z1p:=Q0z Q0j Q0k (.nil) Tryz.func183 Tryz.call183 (λargs rows=>Qc (argI args 0)) [] [] 2 (λ_ _ _=>by kernel_rfl) (λ_ _=>rfl) (λ_ _=>Tree.free_ok (by kernel_rfl)) (λ_ X=>by kernel_rfl)
def Qvh(t:Q0g)(now:Int):Tree Bool:=
.br t.D2 (.lf (decide (now>=t.C9))) (.lf false)
def Q7i(t:Q0g)(now:Int):Bool:=(Qvh t now).m
def Zk:Q0c:=mkR 184 [] true [.agg Q0g.sig, .one (.int .u32)] [] (λargs rows=>Q7i (Q0g.of (args.getD 0 .dead).cells) (argI args 1)) (λX=> .bool X) (λX=>[])
theorem Zfz:Q05 Tryz.prog Zk:=Q0z Q0j Q0k (.nil) Tryz.func184 Tryz.call184 (λargs rows=>Qvh (Q0g.of (args.getD 0 .dead).cells) (argI args 1)) [] [] 2 (λ_ _ _=>by kernel_rfl) (λ_ _=>rfl) (λ_ _=>Tree.free_ok (by kernel_rfl)) (λ_ X=>by kernel_rfl)
def Qcn(m:Q00)(z:(Int)):Nat:=(32-z).toNat
def Q47(m:Q00):Tree Q04:=
.an (Qf8 m) (.lv (Q2q m) λ(x0:Int)=> .br (iand u32 m.B2.B6.a0 (2:Int)==(0:Int)) (.lf m.B2) (.br (x0==0) (.lf m.B2) (.lp inferInstance (Qcn m 0+1) (((rE (0:Nat)/\rE (0:Nat))/\(rE (0:Nat)/\rE (0:Nat))/\rE (x0:Int)/\rE (0:Int)/\True)/\(mE m (((Els.Nil (Els.ints u32 m.Mem)\/rE (1:Nat))/\rE m.Mem)) True)/\(rE (0:Int)/\rE (0:Int)/\rE (0:Int)/\rE (0:Int)/\rE (0:Int)/\rE (0:Int)/\rE (0:Int)/\rE (0:Int)/\rE (0:Int)/\rE (0:Int)/\rE (0:Int)/\rE (0:Int)/\rE (0:Int)/\rE (0:Int)/\rE (0:Int)/\rE (0:Int)/\rE (0:Int)/\rE (0:Int)/\rE (0:Int)/\rE (0:Int)/\rE (0:Int)/\rE (0:Int)/\rE (0:Int)/\rE (0:Int)/\rE (0:Int)/\True)/\True) 0 λ(v0:Int)=> .cn (decide (0<=wrap u64 v0)) (.br (iand u32 (ishr u32 x0 (wrap u64 v0)) (1:Int)==(0:Int)) (.nx (((rE (0:Nat)/\rE (0:Nat))/\(rE (0:Nat)/\rE (0:Nat))/\rE (x0:Int)/\rE ((wrap i64 (v0+1)):Int)/\True)/\(mE m (((Els.Nil (Els.ints u32 m.Mem)\/rE (1:Nat))/\rE m.Mem)) True)/\(rE (0:Int)/\rE (0:Int)/\rE (0:Int)/\rE (0:Int)/\rE (0:Int)/\rE (0:Int)/\rE (0:Int)/\rE (0:Int)/\rE (0:Int)/\rE (0:Int)/\rE (0:Int)/\rE (0:Int)/\rE (0:Int)/\rE (0:Int)/\rE (0:Int)/\rE (0:Int)/\rE (0:Int)/\rE (0:Int)/\rE (0:Int)/\rE (0:Int)/\rE (0:Int)/\rE (0:Int)/\rE (0:Int)/\rE (0:Int)/\rE (0:Int)/\True)/\True) (Sum.inl (wrap i64 (v0+1)))) (.lv (Q2m m.B2 (wrap i64 (16+v0)) 0) λ(x1:Q04)=> .lf (Sum.inr x1))))))
def Q0l(m:Q00):Q04:=(Q47 m).m
abbrev Q6f(m:Q00):Prop:=(Q47 m).p
def Qqn:LInv:={
 α:=(Int)
 F:=λst a=>([(1, .ptr 0 0 0),(2, .ptr 1 0 0),(3,(lk st 3)),(4, .int i64 a)],[⟨true,41,49, .gen [[(cT st 1 0),(cT st 1 1),(cT st 1 2),(cT st 1 3),(cT st 1 4),(cT st 1 5),(cT st 1 6),(cT st 1 7),(cT st 1 8),(cT st 1 9),(cT st 1 10),(cT st 1 11),(cT st 1 12),(cT st 1 13),(cT st 1 14),(cT st 1 15),(cT st 1 16),(cT st 1 17),(cT st 1 18),(cT st 1 19),(cT st 1 20),(cT st 1 21),(cT st 1 22),(cT st 1 23),(cT st 1 24),(cT st 1 25),(cT st 1 26),(cT st 1 27),(cT st 1 28),(cT st 1 29),(cT st 1 30),(cT st 1 31),(cT st 1 32),(cT st 1 33),(cT st 1 34),(cT st 1 35),(cT st 1 36),(cT st 1 37),(cT st 1 38),(cT st 1 39),(cT st 1 40),(cT st 1 41),(cT st 1 42),(cT st 1 43),(cT st 1 44),(cT st 1 45),(cT st 1 46),(cT st 1 47),(cT st 1 48)]]⟩,⟨true,27,25, .gen [[(cT st 2 0),(cT st 2 1),(cT st 2 2),(cT st 2 3),(cT st 2 4),(cT st 2 5),(cT st 2 6),(cT st 2 7),(cT st 2 8),(cT st 2 9),(cT st 2 10),(cT st 2 11),(cT st 2 12),(cT st 2 13),(cT st 2 14),(cT st 2 15),(cT st 2 16),(cT st 2 17),(cT st 2 18),(cT st 2 19),(cT st 2 20),(cT st 2 21),(cT st 2 22),(cT st 2 23),(cT st 2 24)]]⟩])
 a0:=λst=>(lk st 4).toInt
 ex0:=λst=>[]++[(Q0r (lk st 1) (st.rows.length+0)),(Q0r (lk st 2) (st.rows.length+1))]
 next:=λst=>(lk st 4).toInt
 ex:=λst=>[]++[(Q0r (lk st 1) (st.rows.length+0)),(Q0r (lk st 2) (st.rows.length+1))]}
def Qnc:List (Nat×LInv):=[(5,Qqn)]
def Qqw:Q0c:=mkP 136 [] true [.agg Q00.sig] [] (λargs rows=>Q6f (Q00.of (args.getD 0 .dead).cells)) (λargs rows=>Q0l (Q00.of (args.getD 0 .dead).cells)) (λX=> .agg (Q04.cells X)) (λX=>[])
theorem Qaz:Q05 Tryz.prog Qqw:=Q0n Q0j Q0k (.cons Qnr (.cons Qih (.nil))) Tryz.func136 Tryz.call136 (λargs rows=>Q47 (Q00.of (args.getD 0 .dead).cells)) [] Qnc 3 (λ_ _ _=>by kernel_rfl) (λ_ _=>rfl) (λ_ _ h=>h) (λ_ X=>by kernel_rfl)
def Qdz(m:Q00):Tree Bool:=
.an (Q6f m) (.lv (Q0l m) λ(x0:Q04)=> .br (iand u32 x0.B6.a0 (1:Int)==(0:Int)) (.lf false) (.an (Qc4 m.Mem x0.Pc 4) (.lv (Q16 m.Mem x0.Pc 4) λ(x1:Int×Bool)=> .lv (Q1s x1.1) λ(x2:Q0i×Bool)=> .br x1.2 (.br x2.2 (.br (x2.1.Op==60) (.lf (x2.1.Imm==2)) (.lf false)) (.lf false)) (.lf false))))
def Qcv(m:Q00):Bool:=(Qdz m).m
abbrev Qj3(m:Q00):Prop:=(Qdz m).p
def Zbi:Q0c:=mkP 69 [] true [.agg Q00.sig] [] (λargs rows=>Qj3 (Q00.of (args.getD 0 .dead).cells)) (λargs rows=>Qcv (Q00.of (args.getD 0 .dead).cells)) (λX=> .bool X) (λX=>[])
theorem Qqx:Q05 Tryz.prog Zbi:=Q0n Q0j Q0k (.cons Qaz (.cons Qn4 (.cons Qpl (.nil)))) Tryz.func69 Tryz.call69 (λargs rows=>Qdz (Q00.of (args.getD 0 .dead).cells)) [] [] 2 (λ_ _ _=>by kernel_rfl) (λ_ _=>rfl) (λ_ _ h=>h) (λ_ X=>by kernel_rfl)
def Q6p(m:Q00):Tree Bool:=
.an (Qdu m) (.lv (Q0y m) λ(x0:Bool)=> .br x0 (.lf false) (.an (Qj3 m) (.lv (Qcv m) λ(x1:Bool)=> .lf x1)))
def Q0t(m:Q00):Bool:=(Q6p m).m
abbrev Qaw(m:Q00):Prop:=(Q6p m).p
def Qv9:Q0c:=mkP 50 [] true [.agg Q00.sig] [] (λargs rows=>Qaw (Q00.of (args.getD 0 .dead).cells)) (λargs rows=>Q0t (Q00.of (args.getD 0 .dead).cells)) (λX=> .bool X) (λX=>[])
theorem Qrc:Q05 Tryz.prog Qv9:=Q0n Q0j Q0k (.cons Qri (.cons Qqx (.nil))) Tryz.func50 Tryz.call50 (λargs rows=>Q6p (Q00.of (args.getD 0 .dead).cells)) [] [] 2 (λ_ _ _=>by kernel_rfl) (λ_ _=>rfl) (λ_ _ h=>h) (λ_ X=>by kernel_rfl)
def Q36(c:Q0b)(port:Int):Tree (Q0b×Int):=
let T1:Tree ((Q0b×Int)):= .br (port==0) (.cn (decide ((0:Int)<=(1:Int)/\1<=(c.D3.length:Int)/\(c.D3.length:Int)<=(c.D3.length:Int))) (.cn (decide ((0:Int)<=(0:Int)/\0<(c.D3.length:Int))) (.lf ({D3:=List.take (Int.toNat (c.D3.length:Int)-Int.toNat 1) (List.drop (Int.toNat 1) c.D3)},wrap u32 (↑(UInt8.toNat (c.D3.getD (Int.toNat 0) (0:UInt8))):Int))))) (.br (port==1) (.lf (c,wrap u32 (c.D3.length:Int))) (.lf (c,0))); .br (port==0) (.br ((c.D3.length:Int)==(0:Int)) (.lf (c,4294967295)) T1) T1
def Q4x(c:Q0b)(port:Int):(Q0b×Int):=(Q36 c port).m
theorem Qs7(c:Q0b)(port:Int):(Q36 c port).p:=by
 unfold Tree.p Q36
 repeat'(first|exact trivial|refine w_br (λ_=> ?_) (λ_=> ?_)|refine w_cn ?_ ?_|refine w_an ?_ ?_|refine w_lv (λ_ _=> ?_)|refine w_nx ?_|refine w_lf ?_|refine And.intro ?_ ?_)
 all_goals(((subst_vars;first|trivial|assumption|omega|((simp(config:={decide:=true,failIfUnchanged:=false}) only[Bool.and_eq_true,Bool.or_eq_true,Bool.and_eq_false_iff,Bool.or_eq_false_iff,Bool.not_eq_true',Bool.not_eq_false',Bool.not_eq_true,Bool.not_eq_false,decide_eq_true_eq,decide_eq_false_iff_not,Q4i,Q2t,Q4e,Q2s,beq_iff_eq,beq_eq_false_iff_ne,bne_iff_ne,bne_eq_false_iff_eq,ne_eq,List.all_cons,List.all_nil,D.plain,List.length_cons,List.length_nil,List.length_append,List.length_set,List.length_replicate,IntKind.wrap_i64,IntKind.wrap_u64,IntKind.wrap_u32,IntKind.wrap_i32,IntKind.wrap_u8,true_and,and_true,or_false,false_or,or_true,true_or,not_true_eq_false,not_false_eq_true,Prod.fst,Prod.snd]at*);first|done|assumption|omega)|((simp(config:={decide:=true,failIfUnchanged:=false}) only[Bool.and_eq_true,Bool.or_eq_true,Bool.and_eq_false_iff,Bool.or_eq_false_iff,Bool.not_eq_true',Bool.not_eq_false',Bool.not_eq_true,Bool.not_eq_false,decide_eq_true_eq,decide_eq_false_iff_not,Q4i,Q2t,Q4e,Q2s,beq_iff_eq,beq_eq_false_iff_ne,bne_iff_ne,bne_eq_false_iff_eq,ne_eq,List.all_cons,List.all_nil,D.plain,List.length_cons,List.length_nil,List.length_append,List.length_set,List.length_replicate,IntKind.wrap_i64,IntKind.wrap_u64,IntKind.wrap_u32,IntKind.wrap_i32,IntKind.wrap_u8,true_and,and_true,or_false,false_or,or_true,true_or,not_true_eq_false,not_false_eq_true,Prod.fst,Prod.snd]at*);simp only[<-List.length_pos_iff]at*;omega)|(simp_all;done)|(have:= @Qfb;simp_all;try omega))))
def Qxf:Q0c:=mkR 196 [] true [.agg Q0b.sig, .one (.int .i64)] [] (λargs rows=>Q4x (Q0b.of (args.getD 0 .dead).cells) (argI args 1)) (λX=> .tup [.agg (Q0b.cells (X.1)), .int .u32 (X.2)]) (λX=>[])
theorem Qke:Q05 Tryz.prog Qxf:=Q0z Q0j Q0k (.nil) Tryz.func196 Tryz.call196 (λargs rows=>Q36 (Q0b.of (args.getD 0 .dead).cells) (argI args 1)) [] [] 2 (λ_ _ _=>by kernel_rfl) (λ_ _=>rfl) (λargs rows=>Qs7 (Q0b.of (args.getD 0 .dead).cells) (argI args 1)) (λ_ X=>by kernel_rfl)
def Qdv(t:Q0g):Tree Int:=
.br t.D5 (.lf 1) (.lf 0)
def Qe5(t:Q0g):Int:=(Qdv t).m
def Z2j:Q0c:=mkR 197 [] true [.agg Q0g.sig] [] (λargs rows=>Qe5 (Q0g.of (args.getD 0 .dead).cells)) (λX=> .int .u32 X) (λX=>[])
theorem Qn7:Q05 Tryz.prog Z2j:=Q0z Q0j Q0k (.nil) Tryz.func197 Tryz.call197 (λargs rows=>Qdv (Q0g.of (args.getD 0 .dead).cells)) [] [] 2 (λ_ _ _=>by kernel_rfl) (λ_ _=>rfl) (λ_ _=>Tree.free_ok (by kernel_rfl)) (λ_ X=>by kernel_rfl)
def Qg3(d0:Q0e)(port:Int):Tree Int:=
.br (port==4) (.lf d0.B9) (.br (port==5) (.lf d0.B4) (.br (port==6) (.lf (wrap u32 d0.C1)) (.lf 0)))
def Qgk(d0:Q0e)(port:Int):Int:=(Qg3 d0 port).m
def Z91:Q0c:=mkR 198 [] true [.agg Q0e.sig, .one (.int .i64)] [] (λargs rows=>Qgk (Q0e.of (args.getD 0 .dead).cells) (argI args 1)) (λX=> .int .u32 X) (λX=>[])
theorem Qpf:Q05 Tryz.prog Z91:=Q0z Q0j Q0k (.nil) Tryz.func198 Tryz.call198 (λargs rows=>Qg3 (Q0e.of (args.getD 0 .dead).cells) (argI args 1)) [] [] 2 (λ_ _ _=>by kernel_rfl) (λ_ _=>rfl) (λ_ _=>Tree.free_ok (by kernel_rfl)) (λ_ X=>by kernel_rfl)
def Qe9(n:Q0q)(port:Int):Tree Int:=
.br (port==7) (.lf n.B4) (.br (port==8) (.lf n.F2) (.br (port==9) (.br n.C7 (.br n.B8 (.lf (wrap u32 ((1:Int)+(2:Int)))) (.lf 1)) (.br n.B8 (.lf (wrap u32 ((0:Int)+(2:Int)))) (.lf 0))) (.lf 0)))
def Qgc(n:Q0q)(port:Int):Int:=(Qe9 n port).m
def Z9y:Q0c:=mkR 199 [] true [.agg Q0q.sig, .one (.int .i64)] [] (λargs rows=>Qgc (Q0q.of (args.getD 0 .dead).cells) (argI args 1)) (λX=> .int .u32 X) (λX=>[])
theorem Qsw:Q05 Tryz.prog Z9y:=Q0z Q0j Q0k (.nil) Tryz.func199 Tryz.call199 (λargs rows=>Qe9 (Q0q.of (args.getD 0 .dead).cells) (argI args 1)) [] [] 2 (λ_ _ _=>by kernel_rfl) (λ_ _=>rfl) (λ_ _=>Tree.free_ok (by kernel_rfl)) (λ_ X=>by kernel_rfl)
def Q5p(b:Q07)(port:Int):Tree Int:=
.br (port==10) (.lf b.D0) (.br (port==11) (.lv (Qd1 b) λ(x0:Int)=> .lf (wrap u32 x0)) (.lf 0))
def Q4z(b:Q07)(port:Int):Int:=(Q5p b port).m
def Qx8:Q0c:=mkR 200 [] true [.agg Q07.sig, .one (.int .i64)] [] (λargs rows=>Q4z (Q07.of (args.getD 0 .dead).cells) (argI args 1)) (λX=> .int .u32 X) (λX=>[])
theorem Qkd:Q05 Tryz.prog Qx8:=Q0z Q0j Q0k (.cons Qro (.nil)) Tryz.func200 Tryz.call200 (λargs rows=>Q5p (Q07.of (args.getD 0 .dead).cells) (argI args 1)) [] [] 2 (λ_ _ _=>by kernel_rfl) (λ_ _=>rfl) (λ_ _=>Tree.free_ok (by kernel_rfl)) (λ_ X=>by kernel_rfl)
def Qk6(m:Q00)(port:Int)(clock:Int):Tree (Int×Q00):=
.br (decide (port<=1)) (.lv (Q4x m.A3 port) λ(x0:Q0b×Int)=> .lf (x0.2,{B2:=m.B2,Mem:=m.Mem,A3:=x0.1,B0:=m.B0,B1:=m.B1,C5:=m.C5,A2:=m.A2,A1:=m.A1,A4:=m.A4,A7:=m.A7})) (.br (port==2) (.lf (clock,m)) (.br (port==3) (.lv (Qe5 m.B0) λ(x1:Int)=> .lf (x1,m)) (.br (decide (port<=6)) (.lv (Qgk m.B1 port) λ(x2:Int)=> .lf (x2,m)) (.br (decide (port<=9)) (.lv (Qgc m.C5 port) λ(x3:Int)=> .lf (x3,m)) (.lv (Q4z m.A2 port) λ(x4:Int)=> .lf (x4,m))))))
def Qbt(m:Q00)(port:Int)(clock:Int):(Int×Q00):=(Qk6 m port clock).m
def yB:Q0c:=mkR 140 [true,false,false] true [.ptr 0, .one (.int .i64), .one (.int .u32)] [.box 41 49 (Q00.sigW (.row 1)), .arr 23 1 (.ints .u32)] (λargs rows=>Qbt (Q00.ofW (rows.getD 0 default).cs (rowL .u32 rows 1)) (argI args 1) (argI args 2)) (λX=> .int .u32 (X.1)) (λX=>[⟨true,41,49, .gen [(Q00.cellsW (X.2) (.all 1))]⟩,⟨false,23,1, .ints .u32 (X.2).Mem⟩])
theorem Zk8:Q05 Tryz.prog yB:=Q0z Q0j Q0k (.cons Qke (.cons Qn7 (.cons Qpf (.cons Qsw (.cons Qkd (.nil)))))) Tryz.func140 Tryz.call140 (λargs rows=>Qk6 (Q00.ofW (rows.getD 0 default).cs (rowL .u32 rows 1)) (argI args 1) (argI args 2)) [.row 23 1 (.ints .u32)] [] 2 (λ_ _ _=>by kernel_rfl) (λ_ _=>rfl) (λ_ _=>Tree.free_ok (by kernel_rfl)) (λ_ X=>by kernel_rfl)
def Qte(deadline:Int):Tree Q0g:=
.br (deadline==0) (.lf ({D2:=false,C9:=0,D5:=false})) (.lf ({D2:=true,C9:=deadline,D5:=false}))
def Qsk(deadline:Int):Q0g:=(Qte deadline).m
def Zkp:Q0c:=mkR 201 [] true [.one (.int .u32)] [] (λargs rows=>Qsk (argI args 0)) (λX=> .agg (Q0g.cells X)) (λX=>[])
theorem Z0h:Q05 Tryz.prog Zkp:=Q0z Q0j Q0k (.nil) Tryz.func201 Tryz.call201 (λargs rows=>Qte (argI args 0)) [] [] 2 (λ_ _ _=>by kernel_rfl) (λ_ _=>rfl) (λ_ _=>Tree.free_ok (by kernel_rfl)) (λ_ X=>by kernel_rfl)
def Qsg(x:Int)(n:Int)(z:(Int)×(List Int)):Prop:=0<=z.1/\(z.2.length:Int)=z.1/\(z.1<=n\/z.1=0)
def Qdr(x:Int)(n:Int)(z:(Int)×(List Int)):Nat:=(n-z.1).toNat
def Qgg(x:Int)(n:Int):Tree (List UInt8):=
.lp inferInstance (Qdr x n (0,[])+1) ((rE (x:Int)/\rE (n:Int)/\True/\rE (0:Int)/\True)/\rE ([]:List Int)/\True) (0,[]) λ(v0:Int×List Int)=> .br (decide (v0.1<n)) (.cn (decide (0<=wrap u64 (wrap i64 (8*v0.1)))) (.cn (decide (1*(v0.2.length+1)<=140737488355328)) (.nx ((rE (x:Int)/\rE (n:Int)/\True/\rE ((wrap i64 (v0.1+1)):Int)/\True)/\rE ((v0.2++[wrap u8 (ishr u32 x (wrap u64 (wrap i64 (8*v0.1))))]):List Int)/\True) (Sum.inl (wrap i64 (v0.1+1),v0.2++[wrap u8 (ishr u32 x (wrap u64 (wrap i64 (8*v0.1))))]))))) (.lf (Sum.inr (bytesOf v0.2)))
def Z8l(x:Int)(n:Int):(List UInt8):=(Qgg x n).m
def Qim(x:Int)(n:Int):Prop:=
n<=1000000000000
theorem Za5(x:Int)(n:Int)(hw:Qim x n):(Qgg x n).p:=by
 simp only[Qim]at hw
 unfold Tree.p Qgg
 repeat'(first|refine w_lp (inv:=Qsg x n) (μ:=Qdr x n) ?_ (Nat.lt_succ_self _) (λ_ _=> ?_)|exact trivial|refine w_br (λ_=> ?_) (λ_=> ?_)|refine w_cn ?_ ?_|refine w_an ?_ ?_|refine w_lv (λ_ _=> ?_)|refine w_nx ?_|refine w_lf ?_|refine And.intro ?_ ?_)
 all_goals((try simp only[Qsg,Qdr]at*);((subst_vars;first|trivial|assumption|omega|((simp(config:={decide:=true,failIfUnchanged:=false}) only[Bool.and_eq_true,Bool.or_eq_true,Bool.and_eq_false_iff,Bool.or_eq_false_iff,Bool.not_eq_true',Bool.not_eq_false',Bool.not_eq_true,Bool.not_eq_false,decide_eq_true_eq,decide_eq_false_iff_not,Q4i,Q2t,Q4e,Q2s,beq_iff_eq,beq_eq_false_iff_ne,bne_iff_ne,bne_eq_false_iff_eq,ne_eq,List.all_cons,List.all_nil,D.plain,List.length_cons,List.length_nil,List.length_append,List.length_set,List.length_replicate,IntKind.wrap_i64,IntKind.wrap_u64,IntKind.wrap_u32,IntKind.wrap_i32,IntKind.wrap_u8,true_and,and_true,or_false,false_or,or_true,true_or,not_true_eq_false,not_false_eq_true,Prod.fst,Prod.snd]at*);first|done|assumption|omega)|((simp(config:={decide:=true,failIfUnchanged:=false}) only[Bool.and_eq_true,Bool.or_eq_true,Bool.and_eq_false_iff,Bool.or_eq_false_iff,Bool.not_eq_true',Bool.not_eq_false',Bool.not_eq_true,Bool.not_eq_false,decide_eq_true_eq,decide_eq_false_iff_not,Q4i,Q2t,Q4e,Q2s,beq_iff_eq,beq_eq_false_iff_ne,bne_iff_ne,bne_eq_false_iff_eq,ne_eq,List.all_cons,List.all_nil,D.plain,List.length_cons,List.length_nil,List.length_append,List.length_set,List.length_replicate,IntKind.wrap_i64,IntKind.wrap_u64,IntKind.wrap_u32,IntKind.wrap_i32,IntKind.wrap_u8,true_and,and_true,or_false,false_or,or_true,true_or,not_true_eq_false,not_false_eq_true,Prod.fst,Prod.snd]at*);simp only[<-List.length_pos_iff]at*;omega)|(simp_all;done)|(have:= @Qfb;simp_all;try omega))))
def Zf6:LInv:={
 α:=(Int)×(List Int)
 F:=λst a=>([(0,(lk st 0)),(1,(lk st 1)),(5, .all 0),(6, .int i64 a.1)],[⟨false,5,1, .ints u8 a.2⟩])
 a0:=λst=>((lk st 6).toInt,(Q45 st.rows (rN st 5)))
 ex0:=λst=>[]++[(Q0r (lk st 5) (st.rows.length+0))]
 next:=λst=>((lk st 6).toInt,(Q45 st.rows (rN st 5)))
 ex:=λst=>[]++[(Q0r (lk st 5) (st.rows.length+0))]}
def Z74:List (Nat×LInv):=[(3,Zf6)]
def Zjk:Q0c:=mkP 268 [] true [.one (.int .u32), .one (.int .i64)] [] (λargs rows=>Qim (argI args 0) (argI args 1)) (λargs rows=>Z8l (argI args 0) (argI args 1)) (λX=> .str X) (λX=>[])
theorem Zem:Q05 Tryz.prog Zjk:=Q0n Q0j Q0k (.nil) Tryz.func268 Tryz.call268 (λargs rows=>Qgg (argI args 0) (argI args 1)) [] Z74 3 (λ_ _ _=>by kernel_rfl) (λ_ _=>rfl) (λargs rows h=>Za5 (argI args 0) (argI args 1) h) (λ_ X=>by kernel_rfl)
def Qhv(m:(List Int))(frame:Int)(z:(Int)×(List Int)):Nat:=(32-z.1).toNat
def Q9h(m:(List Int))(frame:Int):Tree ((List UInt8)×Bool):=
.br (decide (frame<0)) (.lf ([],false)) (.lv (Q3i m) λ(x0:Int)=> .br (decide (frame>=x0)) (.lf ([],false)) (.lp inferInstance (Qhv m frame (0,[])+1) ((((Els.Nil (Els.ints u32 m)\/rE (1:Nat))/\rE (m:List Int))/\rE (frame:Int)/\True/\rE (0:Int)/\True)/\rE ([]:List Int)/\True) (0,[]) λ(v0:Int×List Int)=> .br (decide (v0.1<32)) (.cn (Nat.beq 1 1&&Nat.blt 0 1&&decide (0<=wrap i64 (wrap i64 (frame*32)+v0.1)/\wrap i64 (wrap i64 (frame*32)+v0.1)<(m.length:Int))) (let E1:=m.getD (Int.toNat (wrap i64 (wrap i64 (frame*32)+v0.1))) 0; .an (Qim E1 4) (.lv (Z8l E1 4) λ(x1:List UInt8)=> .cn (decide (1*(v0.2.length+List.length (Q8v x1))<=140737488355328)) (.nx ((((Els.Nil (Els.ints u32 m)\/rE (1:Nat))/\rE (m:List Int))/\rE (frame:Int)/\True/\rE ((wrap i64 (v0.1+1)):Int)/\True)/\rE ((v0.2++Q8v x1):List Int)/\True) (Sum.inl (wrap i64 (v0.1+1),v0.2++Q8v x1)))))) (.lf (Sum.inr (bytesOf v0.2,true)))))
def Qgw(m:(List Int))(frame:Int):((List UInt8)×Bool):=(Q9h m frame).m
abbrev Qfz(m:(List Int))(frame:Int):Prop:=(Q9h m frame).p
def Zbx:LInv:={
 α:=(Int)×(List Int)
 F:=λst a=>([(0,(lk st 0)),(1,(lk st 1)),(6, .all 0),(7, .int i64 a.1)],[⟨false,5,1, .ints u8 a.2⟩])
 a0:=λst=>((lk st 7).toInt,(Q45 st.rows (rN st 6)))
 ex0:=λst=>[]++[(Q0r (lk st 6) (st.rows.length+0))]
 next:=λst=>((lk st 7).toInt,(Q45 st.rows (rN st 6)))
 ex:=λst=>[]++[(Q0r (lk st 6) (st.rows.length+0))]}
def Z2u:List (Nat×LInv):=[(5,Zbx)]
def Zfx:Q0c:=mkP 247 [] true [.one (.ints .u32), .one (.int .i64)] [] (λargs rows=>Qfz (argL .u32 args 0) (argI args 1)) (λargs rows=>Qgw (argL .u32 args 0) (argI args 1)) (λX=> .tup [.str (X.1), .bool (X.2)]) (λX=>[])
theorem Qwa:Q05 Tryz.prog Zfx:=Q0n Q0j Q0k (.cons Qbl (.cons Zem (.nil))) Tryz.func247 Tryz.call247 (λargs rows=>Q9h (argL .u32 args 0) (argI args 1)) [] Z2u 3 (λ_ _ _=>by kernel_rfl) (λ_ _=>rfl) (λ_ _ h=>h) (λ_ X=>by kernel_rfl)
def Qpu(d0:Q0e)(at0:Int):Tree (Q02×Bool):=
.br (d0.C1 !=1) (.lf ({B5:=0,At:=0,B9:=0,C8:=[]},false)) (.br (d0.D8==1) (.lf ({B5:=3,At:=at0,B9:=d0.B7,C8:=[]},true)) (.br (d0.D8==2) (.lf ({B5:=4,At:=at0,B9:=d0.B7,C8:=d0.C3},true)) (.lf ({B5:=0,At:=0,B9:=0,C8:=[]},false))))
def Qiw(d0:Q0e)(at0:Int):(Q02×Bool):=(Qpu d0 at0).m
def Z2n:Q0c:=mkR 248 [] true [.agg Q0e.sig, .one (.int .u64)] [] (λargs rows=>Qiw (Q0e.of (args.getD 0 .dead).cells) (argI args 1)) (λX=> .tup [.agg (Q02.cells (X.1)), .bool (X.2)]) (λX=>[])
theorem Z06:Q05 Tryz.prog Z2n:=Q0z Q0j Q0k (.nil) Tryz.func248 Tryz.call248 (λargs rows=>Qpu (Q0e.of (args.getD 0 .dead).cells) (argI args 1)) [] [] 2 (λ_ _ _=>by kernel_rfl) (λ_ _=>rfl) (λ_ _=>Tree.free_ok (by kernel_rfl)) (λ_ X=>by kernel_rfl)
def Q7y(d0:Q0e)(m:(List Int))(port:Int)(v:Int)(at0:Int):Tree (Q0e×(List Q02)):=
.br (port==4) (.lf ({Blocks:=d0.Blocks,B9:=v,B4:=d0.B4,C1:=d0.C1,D8:=d0.D8,B7:=d0.B7,B3:=d0.B3,C3:=d0.C3},[])) (.br (port==5) (.lf ({Blocks:=d0.Blocks,B9:=d0.B9,B4:=v,C1:=d0.C1,D8:=d0.D8,B7:=d0.B7,B3:=d0.B3,C3:=d0.C3},[])) (.br (port !=6) (.lf (d0,[])) (let T1:Tree ((Q0e×(List Q02))):= .br (d0.C1==0) (let T2:Tree ((Q0e×(List Q02))):= .lf ({Blocks:=d0.Blocks,B9:=d0.B9,B4:=d0.B4,C1:=3,D8:=d0.D8,B7:=d0.B7,B3:=d0.B3,C3:=d0.C3},[]); .br (decide (d0.B9>=d0.Blocks)) T2 (.lv (Q1y m d0.B4) λ(x0:Bool)=> .br (!x0) T2 (.br (v==2) (.an (Qfz m (wrap i64 d0.B4)) (.lv (Qgw m (wrap i64 d0.B4)) λ(x1:List UInt8×Bool)=>let E4:=({Blocks:=d0.Blocks,B9:=d0.B9,B4:=d0.B4,C1:=1,D8:=wrap i64 v,B7:=d0.B9,B3:=d0.B4,C3:=x1.1}:Q0e); .lv (Qiw E4 at0) λ(x2:Q02×Bool)=> .lf (E4,[x2.1]))) (let E5:=({Blocks:=d0.Blocks,B9:=d0.B9,B4:=d0.B4,C1:=1,D8:=wrap i64 v,B7:=d0.B9,B3:=d0.B4,C3:=[]}:Q0e); .lv (Qiw E5 at0) λ(x3:Q02×Bool)=> .lf (E5,[x3.1]))))) (.lf (d0,[])); .br (v==0) (let T3:Tree ((Q0e×(List Q02))):= .lf ({Blocks:=d0.Blocks,B9:=d0.B9,B4:=d0.B4,C1:=0,D8:=d0.D8,B7:=d0.B7,B3:=d0.B3,C3:=d0.C3},[]); .br (d0.C1==2) T3 (.br (d0.C1==3) T3 (.br (v==1) T1 (.br (v==2) T1 (.lf (d0,[])))))) (.br (v==1) T1 (.br (v==2) T1 (.lf (d0,[])))))))
def Qe7(d0:Q0e)(m:(List Int))(port:Int)(v:Int)(at0:Int):(Q0e×(List Q02)):=(Q7y d0 m port v at0).m
abbrev Qfi(d0:Q0e)(m:(List Int))(port:Int)(v:Int)(at0:Int):Prop:=(Q7y d0 m port v at0).p
def Z3d:Q0c:=mkP 202 [] true [.agg Q0e.sig, .one (.ints .u32), .one (.int .i64), .one (.int .u32), .one (.int .u64)] [] (λargs rows=>Qfi (Q0e.of (args.getD 0 .dead).cells) (argL .u32 args 1) (argI args 2) (argI args 3) (argI args 4)) (λargs rows=>Qe7 (Q0e.of (args.getD 0 .dead).cells) (argL .u32 args 1) (argI args 2) (argI args 3) (argI args 4)) (λX=> .tup [.agg (Q0e.cells (X.1)), .sl 4 (.recs .apiOutput (X.2)) true]) (λX=>[])
theorem Qn1:Q05 Tryz.prog Z3d:=Q0n Q0j Q0k (.cons Qe6 (.cons Qwa (.cons Z06 (.nil)))) Tryz.func202 Tryz.call202 (λargs rows=>Q7y (Q0e.of (args.getD 0 .dead).cells) (argL .u32 args 1) (argI args 2) (argI args 3) (argI args 4)) [.sl (.recs .apiOutput) true] [] 2 (λ_ _ _=>by kernel_rfl) (λ_ _=>rfl) (λ_ _ h=>h) (λ_ X=>by kernel_rfl)
def Q9r(n:Q0q)(m:(List Int))(port:Int)(v:Int)(at0:Int):Tree (Q0q×(List Q02)):=
.br (port==7) (.lf ({B4:=v,F0:=n.F0,C7:=n.C7,C0:=n.C0,B8:=n.B8,F2:=n.F2},[])) (.br (port==8) (.lf ({B4:=n.B4,F0:=v,C7:=n.C7,C0:=n.C0,B8:=n.B8,F2:=n.F2},[])) (.br (port !=9) (.lf (n,[])) (.br (v==0) (.lf ({B4:=n.B4,F0:=n.F0,C7:=n.C7,C0:=n.C0,B8:=false,F2:=0},[])) (let T1:Tree ((Q0q×(List Q02))):= .br (v==2) (.lv (Q1y m n.B4) λ(x2:Bool)=> .br x2 (.br (!n.C7) (.br (!n.B8) (.lf ({B4:=n.B4,F0:=n.F0,C7:=true,C0:=n.B4,B8:=n.B8,F2:=n.F2},[])) (.lf (n,[]))) (.lf (n,[]))) (.lf (n,[]))) (.lf (n,[])); .br (v==1) (.br (decide (n.F0>=1)) (.br (decide (n.F0<=128)) (.lv (Q1y m n.B4) λ(x0:Bool)=> .br x0 (.an (Qfz m (wrap i64 n.B4)) (.lv (Qgw m (wrap i64 n.B4)) λ(x1:List UInt8×Bool)=> .cn (decide ((0:Int)<=(0:Int)/\0<=n.F0/\n.F0<=(x1.1.length:Int))) (.lf (n,[{B5:=2,At:=at0,B9:=0,C8:=List.take (Int.toNat n.F0-Int.toNat 0) (List.drop (Int.toNat 0) x1.1)}])))) T1) T1) T1) T1))))
def Qi3(n:Q0q)(m:(List Int))(port:Int)(v:Int)(at0:Int):(Q0q×(List Q02)):=(Q9r n m port v at0).m
abbrev Qi0(n:Q0q)(m:(List Int))(port:Int)(v:Int)(at0:Int):Prop:=(Q9r n m port v at0).p
def Z7p:Q0c:=mkP 203 [] true [.agg Q0q.sig, .one (.ints .u32), .one (.int .i64), .one (.int .u32), .one (.int .u64)] [] (λargs rows=>Qi0 (Q0q.of (args.getD 0 .dead).cells) (argL .u32 args 1) (argI args 2) (argI args 3) (argI args 4)) (λargs rows=>Qi3 (Q0q.of (args.getD 0 .dead).cells) (argL .u32 args 1) (argI args 2) (argI args 3) (argI args 4)) (λX=> .tup [.agg (Q0q.cells (X.1)), .sl 4 (.recs .apiOutput (X.2)) true]) (λX=>[])
theorem Qpt:Q05 Tryz.prog Z7p:=Q0n Q0j Q0k (.cons Qe6 (.cons Qwa (.nil))) Tryz.func203 Tryz.call203 (λargs rows=>Q9r (Q0q.of (args.getD 0 .dead).cells) (argL .u32 args 1) (argI args 2) (argI args 3) (argI args 4)) [.sl (.recs .apiOutput) true] [] 2 (λ_ _ _=>by kernel_rfl) (λ_ _=>rfl) (λ_ _ h=>h) (λ_ X=>by kernel_rfl)
def Qhs(b:Q07)(m:(List Int))(port:Int)(v:Int)(z:(Int)×(List Int)):Nat:=(32-z.1).toNat
def Q4j(b:Q07)(m:(List Int))(port:Int)(v:Int):Tree (Q07×(List Int)):=
let T1:Tree ((Q07×(List Int))):= .br (port==11) (.br (decide (v<32)) (.cn (decide (0<=v)) (.lf ({D0:=b.D0,C2:=Qg1 u32 b.C2 (ishl u32 1 v)},m))) (.lf (b,m))) (.lf (b,m)); .br (port==10) (.lv (Q1y m v) λ(x0:Bool)=> .br x0 (.cn (decide (0<=v)) (.br (iand u32 (ishr u32 b.C2 v) (1:Int)==(0:Int)) (.cn (decide (0<=v)) (.lp inferInstance (Qhs b m port v (0,m)+1) ((True/\rE (v:Int)/\(rE (0:Nat)/\rE (0:Nat))/\(rE (0:Nat)/\rE (0:Nat))/\rE (0:Int)/\True)/\rE (m:List Int)/\(rE b.D0/\rE ((ior u32 b.C2 (ishl u32 1 v)):Int)/\True)/\(rE (0:Int)/\rE (0:Int)/\True)/\True) (0,m) λ(v0:Int×List Int)=> .br (decide (v0.1<32)) (let E2:=wrap i64 (wrap i64 v*32)+v0.1; .cn (Nat.beq 1 1&&Nat.blt 0 1&&decide (0<=wrap i64 E2/\wrap i64 E2<(v0.2.length:Int))) (.nx ((True/\rE (v:Int)/\(rE (0:Nat)/\rE (0:Nat))/\(rE (0:Nat)/\rE (0:Nat))/\rE ((wrap i64 (v0.1+1)):Int)/\True)/\rE ((List.set v0.2 (Int.toNat (wrap i64 (wrap i64 (wrap i64 v*32)+v0.1))) 0):List Int)/\(rE b.D0/\rE ((ior u32 b.C2 (ishl u32 1 v)):Int)/\True)/\(rE (0:Int)/\rE (0:Int)/\True)/\True) (Sum.inl (wrap i64 (v0.1+1),List.set v0.2 (Int.toNat (wrap i64 E2)) 0)))) (.lf (Sum.inr ({D0:=b.D0,C2:=ior u32 b.C2 (ishl u32 1 v)},v0.2))))) T1)) T1) T1
def Q5w(b:Q07)(m:(List Int))(port:Int)(v:Int):(Q07×(List Int)):=(Q4j b m port v).m
abbrev Qlh(b:Q07)(m:(List Int))(port:Int)(v:Int):Prop:=(Q4j b m port v).p
def Z9x:LInv:={
 α:=(Int)×(List Int)
 F:=λst a=>([(1, .all 0),(3,(lk st 3)),(4, .ptr 1 0 0),(8, .ptr 2 0 0),(9, .int i64 a.1)],[⟨false,23,1, .ints u32 a.2⟩,⟨true,38,2, .gen [[(cT st 4 0),(cT st 4 1)]]⟩,⟨true,38,2, .gen [[(cT st 8 0),(cT st 8 1)]]⟩])
 a0:=λst=>((lk st 9).toInt,(Q45 st.rows 0))
 ex0:=λst=>[0]++[(Q0r (lk st 4) (st.rows.length+1)),(Q0r (lk st 8) (st.rows.length+2))]
 next:=λst=>((lk st 9).toInt,(Q45 st.rows 0))
 ex:=λst=>[0]++[(Q0r (lk st 4) (st.rows.length+1)),(Q0r (lk st 8) (st.rows.length+2))]}
def Z23:List (Nat×LInv):=[(4,Z9x)]
def Zfe:Q0c:=mkP 204 [false,true,false,false] true [.agg Q07.sig, .one (.row 0), .one (.int .i64), .one (.int .u32)] [.arr 23 1 (.ints .u32)] (λargs rows=>Qlh (Q07.of (args.getD 0 .dead).cells) (rowL .u32 rows 0) (argI args 2) (argI args 3)) (λargs rows=>Q5w (Q07.of (args.getD 0 .dead).cells) (rowL .u32 rows 0) (argI args 2) (argI args 3)) (λX=> .agg (Q07.cells (X.1))) (λX=>[⟨false,23,1, .ints .u32 (X.2)⟩])
theorem Qvr:Q05 Tryz.prog Zfe:=Q0n Q0j Q0k (.cons Qe6 (.nil)) Tryz.func204 Tryz.call204 (λargs rows=>Q4j (Q07.of (args.getD 0 .dead).cells) (rowL .u32 rows 0) (argI args 2) (argI args 3)) [] Z23 3 (λ_ _ _=>by kernel_rfl) (λ_ _=>rfl) (λ_ _ h=>h) (λ_ X=>by kernel_rfl)
def Qd9(m:Q00)(port:Int)(v:Int):Tree ((List Q02)×Q00):=
.br (port==0) (.lf ([{B5:=1,At:=m.A1,B9:=0,C8:=[(λ(n:Int)=>UInt8.ofNat n.toNat) (wrap u8 v)]}],m)) (.br (decide (port<=2)) (.lf ([],m)) (.br (port==3) (.lv (Qsk v) λ(x0:Q0g)=> .lf ([],{B2:=m.B2,Mem:=m.Mem,A3:=m.A3,B0:=x0,B1:=m.B1,C5:=m.C5,A2:=m.A2,A1:=m.A1,A4:=m.A4,A7:=m.A7})) (.br (decide (port<=6)) (.an (Qfi m.B1 m.Mem port v m.A1) (.lv (Qe7 m.B1 m.Mem port v m.A1) λ(x1:Q0e×List Q02)=> .lf (x1.2,{B2:=m.B2,Mem:=m.Mem,A3:=m.A3,B0:=m.B0,B1:=x1.1,C5:=m.C5,A2:=m.A2,A1:=m.A1,A4:=m.A4,A7:=m.A7}))) (.br (decide (port<=9)) (.an (Qi0 m.C5 m.Mem port v m.A1) (.lv (Qi3 m.C5 m.Mem port v m.A1) λ(x2:Q0q×List Q02)=> .lf (x2.2,{B2:=m.B2,Mem:=m.Mem,A3:=m.A3,B0:=m.B0,B1:=m.B1,C5:=x2.1,A2:=m.A2,A1:=m.A1,A4:=m.A4,A7:=m.A7}))) (.an (Qlh m.A2 m.Mem port v) (.lv (Q5w m.A2 m.Mem port v) λ(x3:Q07×List Int)=> .lf ([],{B2:=m.B2,Mem:=x3.2,A3:=m.A3,B0:=m.B0,B1:=m.B1,C5:=m.C5,A2:=x3.1,A1:=m.A1,A4:=m.A4,A7:=m.A7})))))))
def Q9l(m:Q00)(port:Int)(v:Int):((List Q02)×Q00):=(Qd9 m port v).m
abbrev Qwo(m:Q00)(port:Int)(v:Int):Prop:=(Qd9 m port v).p
def Zki:Q0c:=mkP 142 [true,false,false] true [.ptr 0, .one (.int .i64), .one (.int .u32)] [.box 41 49 (Q00.sigW (.row 1)), .arr 23 1 (.ints .u32)] (λargs rows=>Qwo (Q00.ofW (rows.getD 0 default).cs (rowL .u32 rows 1)) (argI args 1) (argI args 2)) (λargs rows=>Q9l (Q00.ofW (rows.getD 0 default).cs (rowL .u32 rows 1)) (argI args 1) (argI args 2)) (λX=> .sl 4 (.recs .apiOutput (X.1)) true) (λX=>[⟨true,41,49, .gen [(Q00.cellsW (X.2) (.all 1))]⟩,⟨false,23,1, .ints .u32 (X.2).Mem⟩])
theorem Zen:Q05 Tryz.prog Zki:=Q0n Q0j Q0k (.cons Z0h (.cons Qn1 (.cons Qpt (.cons Qvr (.nil))))) Tryz.func142 Tryz.call142 (λargs rows=>Qd9 (Q00.ofW (rows.getD 0 default).cs (rowL .u32 rows 1)) (argI args 1) (argI args 2)) [.sl (.recs .apiOutput) true, .row 23 1 (.ints .u32)] [] 2 (λ_ _ _=>by kernel_rfl) (λ_ _=>rfl) (λ_ _ h=>h) (λ_ X=>by kernel_rfl)
def Q81(m:Q00)(clock:Int):Tree ((List Q02)×Q00):=
.an (Q6f m) (.lv (Q0l m) λ(x0:Q04)=> .an (Qq6 x0 m.Mem) (.lv (Q6k x0 m.Mem) λ(x1:Q04×Q11×List Int)=>let E1:=({B2:=x1.1,Mem:=x1.2.2,A3:=m.A3,B0:=m.B0,B1:=m.B1,C5:=m.C5,A2:=m.A2,A1:=m.A1,A4:=false,A7:=m.A7}:Q00); .br (x1.2.1.B5==1) (.lv (Qbt E1 x1.2.1.D1 clock) λ(x2:Int×Q00)=> .an (Q2o x2.2.B2 x1.2.1.E0 x2.1) (.lv (Q1q x2.2.B2 x1.2.1.E0 x2.1) λ(x3:Q04)=> .lf ([],{B2:=x3,Mem:=x2.2.Mem,A3:=x2.2.A3,B0:=x2.2.B0,B1:=x2.2.B1,C5:=x2.2.C5,A2:=x2.2.A2,A1:=wrap u64 (x2.2.A1+1),A4:=x2.2.A4,A7:=x2.2.A7}))) (.br (x1.2.1.B5==2) (.an (Qwo E1 x1.2.1.D1 x1.2.1.Value) (.lv (Q9l E1 x1.2.1.D1 x1.2.1.Value) λ(x4:List Q02×Q00)=> .lf (x4.1,{B2:=x4.2.B2,Mem:=x4.2.Mem,A3:=x4.2.A3,B0:=x4.2.B0,B1:=x4.2.B1,C5:=x4.2.C5,A2:=x4.2.A2,A1:=wrap u64 (x4.2.A1+1),A4:=x4.2.A4,A7:=x4.2.A7}))) (.br (x1.2.1.B5==3) (.lf ([],{B2:=x1.1,Mem:=x1.2.2,A3:=m.A3,B0:=m.B0,B1:=m.B1,C5:=m.C5,A2:=m.A2,A1:=wrap u64 (m.A1+1),A4:=true,A7:=m.A7})) (.br (x1.2.1.B5==4) (.lf ([],{B2:=x1.1,Mem:=x1.2.2,A3:=m.A3,B0:=m.B0,B1:=m.B1,C5:=m.C5,A2:=m.A2,A1:=wrap u64 (m.A1+1),A4:=false,A7:=true})) (.lf ([],{B2:=x1.1,Mem:=x1.2.2,A3:=m.A3,B0:=m.B0,B1:=m.B1,C5:=m.C5,A2:=m.A2,A1:=wrap u64 (m.A1+1),A4:=false,A7:=m.A7})))))))
def Q0a(m:Q00)(clock:Int):((List Q02)×Q00):=(Q81 m clock).m
abbrev Qls(m:Q00)(clock:Int):Prop:=(Q81 m clock).p
def Z29:Q0c:=mkP 70 [true,false] true [.ptr 0, .one (.int .u32)] [.box 41 49 (Q00.sigW (.row 1)), .arr 23 1 (.ints .u32)] (λargs rows=>Qls (Q00.ofW (rows.getD 0 default).cs (rowL .u32 rows 1)) (argI args 1)) (λargs rows=>Q0a (Q00.ofW (rows.getD 0 default).cs (rowL .u32 rows 1)) (argI args 1)) (λX=> .sl 4 (.recs .apiOutput (X.1)) true) (λX=>[⟨true,41,49, .gen [(Q00.cellsW (X.2) (.all 1))]⟩,⟨false,23,1, .ints .u32 (X.2).Mem⟩])
theorem Qz1:Q05 Tryz.prog Z29:=Q0n Q0j Q0k (.cons Qaz (.cons Z4g (.cons Zk8 (.cons Qcp (.cons Zen (.nil)))))) Tryz.func70 Tryz.call70 (λargs rows=>Q81 (Q00.ofW (rows.getD 0 default).cs (rowL .u32 rows 1)) (argI args 1)) [.sl (.recs .apiOutput) true, .row 23 1 (.ints .u32)] [] 2 (λ_ _ _=>by kernel_rfl) (λ_ _=>rfl) (λ_ _ h=>h) (λ_ X=>by kernel_rfl)
end
end Go.Proofs.YtjaifpiopmhmlaaGreat

/-
  Functions of the program: models, and that its calls come to them (by a program: gen3.py).
-/
import Derived.Test.YtjaifpiopmhmlaaGreatBareSeesBase
import Derived.Test.YtjaifpiopmhmlaaGreatBareSeesZa
import Derived.Test.YtjaifpiopmhmlaaGreatBareSeesZb
set_option maxRecDepth 100000
set_option linter.all false
namespace Go.Proofs.YtjaifpiopmhmlaaGreat
open Go Go.GD Go.IntKind
noncomputable section
def Qci(steps:Int):Tree Int:=
.lf (if 4000<if 0>steps then 0 else steps then 4000 else if 0>steps then 0 else steps)
def Q11(steps:Int):Int:=(Qci steps).m
def Qz5:Q0b:=mkR 183 [] true [.one (.int .i64)] [] (λargs rows=>Q11 (argI args 0)) (λX=> .int .i64 X) (λX=>[])
theorem Qxj:Q05 Tryz.prog Qz5:=Q0x Q0j Q0h (.nil) Tryz.func183 Tryz.call183 (λargs rows=>Qci (argI args 0)) [] [] 2 (λ_ _ _=>by kernel_rfl) (λ_ _=>rfl) (λ_ _=>Tree.free_ok (by kernel_rfl)) (λ_ X=>by kernel_rfl)
def Qtt(t:Q0f)(now:Int):Tree Bool:=
.br t.D4 (.lf (decide (now>=t.D1))) (.lf false)
def Q7h(t:Q0f)(now:Int):Bool:=(Qtt t now).m
def Zlu:Q0b:=mkR 184 [] true [.agg Q0f.sig, .one (.int .u32)] [] (λargs rows=>Q7h (Q0f.of (args.getD 0 .dead).cells) (argI args 1)) (λX=> .bool X) (λX=>[])
theorem Zhf:Q05 Tryz.prog Zlu:=Q0x Q0j Q0h (.nil) Tryz.func184 Tryz.call184 (λargs rows=>Qtt (Q0f.of (args.getD 0 .dead).cells) (argI args 1)) [] [] 2 (λ_ _ _=>by kernel_rfl) (λ_ _=>rfl) (λ_ _=>Tree.free_ok (by kernel_rfl)) (λ_ X=>by kernel_rfl)
def Qcv(m:Q00)(z:(Int)):Nat:=(32-z).toNat
def Q43(m:Q00):Tree Q03:=
.an (Qfa m) (.lv (Q2q m) λ(x0:Int)=> .br (iand u32 m.B3.B7.a0 (2:Int)==(0:Int)) (.lf m.B3) (.br (x0==0) (.lf m.B3) (.lp inferInstance (Qcv m 0+1) (((rE (0:Nat)/\rE (0:Nat))/\(rE (0:Nat)/\rE (0:Nat))/\rE (x0:Int)/\rE (0:Int)/\True)/\(mE m (((Els.Nil (Els.ints u32 m.Mem)\/rE (1:Nat))/\rE m.Mem)) True)/\(rE (0:Int)/\rE (0:Int)/\rE (0:Int)/\rE (0:Int)/\rE (0:Int)/\rE (0:Int)/\rE (0:Int)/\rE (0:Int)/\rE (0:Int)/\rE (0:Int)/\rE (0:Int)/\rE (0:Int)/\rE (0:Int)/\rE (0:Int)/\rE (0:Int)/\rE (0:Int)/\rE (0:Int)/\rE (0:Int)/\rE (0:Int)/\rE (0:Int)/\rE (0:Int)/\rE (0:Int)/\rE (0:Int)/\rE (0:Int)/\rE (0:Int)/\True)/\True) 0 λ(v0:Int)=> .cn (decide (0<=wrap u64 v0)) (.br (iand u32 (ishr u32 x0 (wrap u64 v0)) (1:Int)==(0:Int)) (.nx (((rE (0:Nat)/\rE (0:Nat))/\(rE (0:Nat)/\rE (0:Nat))/\rE (x0:Int)/\rE ((wrap i64 (v0+1)):Int)/\True)/\(mE m (((Els.Nil (Els.ints u32 m.Mem)\/rE (1:Nat))/\rE m.Mem)) True)/\(rE (0:Int)/\rE (0:Int)/\rE (0:Int)/\rE (0:Int)/\rE (0:Int)/\rE (0:Int)/\rE (0:Int)/\rE (0:Int)/\rE (0:Int)/\rE (0:Int)/\rE (0:Int)/\rE (0:Int)/\rE (0:Int)/\rE (0:Int)/\rE (0:Int)/\rE (0:Int)/\rE (0:Int)/\rE (0:Int)/\rE (0:Int)/\rE (0:Int)/\rE (0:Int)/\rE (0:Int)/\rE (0:Int)/\rE (0:Int)/\rE (0:Int)/\True)/\True) (Sum.inl (wrap i64 (v0+1)))) (.lv (Q2k m.B3 (wrap i64 (16+v0)) 0) λ(x1:Q03)=> .lf (Sum.inr x1))))))
def Q0m(m:Q00):Q03:=(Q43 m).m
abbrev Q6n(m:Q00):Prop:=(Q43 m).p
def Qr6:LInv:={
 α:=(Int)
 F:=λst a=>([(1, .ptr 0 0 0),(2, .ptr 1 0 0),(3,(lk st 3)),(4, .int i64 a)],[⟨true,41,49, .gen [[(cT st 1 0),(cT st 1 1),(cT st 1 2),(cT st 1 3),(cT st 1 4),(cT st 1 5),(cT st 1 6),(cT st 1 7),(cT st 1 8),(cT st 1 9),(cT st 1 10),(cT st 1 11),(cT st 1 12),(cT st 1 13),(cT st 1 14),(cT st 1 15),(cT st 1 16),(cT st 1 17),(cT st 1 18),(cT st 1 19),(cT st 1 20),(cT st 1 21),(cT st 1 22),(cT st 1 23),(cT st 1 24),(cT st 1 25),(cT st 1 26),(cT st 1 27),(cT st 1 28),(cT st 1 29),(cT st 1 30),(cT st 1 31),(cT st 1 32),(cT st 1 33),(cT st 1 34),(cT st 1 35),(cT st 1 36),(cT st 1 37),(cT st 1 38),(cT st 1 39),(cT st 1 40),(cT st 1 41),(cT st 1 42),(cT st 1 43),(cT st 1 44),(cT st 1 45),(cT st 1 46),(cT st 1 47),(cT st 1 48)]]⟩,⟨true,27,25, .gen [[(cT st 2 0),(cT st 2 1),(cT st 2 2),(cT st 2 3),(cT st 2 4),(cT st 2 5),(cT st 2 6),(cT st 2 7),(cT st 2 8),(cT st 2 9),(cT st 2 10),(cT st 2 11),(cT st 2 12),(cT st 2 13),(cT st 2 14),(cT st 2 15),(cT st 2 16),(cT st 2 17),(cT st 2 18),(cT st 2 19),(cT st 2 20),(cT st 2 21),(cT st 2 22),(cT st 2 23),(cT st 2 24)]]⟩])
 a0:=λst=>(lk st 4).toInt
 ex0:=λst=>[]++[(Q0n (lk st 1) (st.rows.length+0)),(Q0n (lk st 2) (st.rows.length+1))]
 next:=λst=>(lk st 4).toInt
 ex:=λst=>[]++[(Q0n (lk st 1) (st.rows.length+0)),(Q0n (lk st 2) (st.rows.length+1))]}
def Qo1:List (Nat×LInv):=[(5,Qr6)]
def Qso:Q0b:=mkP 136 [] true [.agg Q00.sig] [] (λargs rows=>Q6n (Q00.of (args.getD 0 .dead).cells)) (λargs rows=>Q0m (Q00.of (args.getD 0 .dead).cells)) (λX=> .agg (Q03.cells X)) (λX=>[])
theorem Qb4:Q05 Tryz.prog Qso:=Q0k Q0j Q0h (.cons Qny (.cons Qiq (.nil))) Tryz.func136 Tryz.call136 (λargs rows=>Q43 (Q00.of (args.getD 0 .dead).cells)) [] Qo1 3 (λ_ _ _=>by kernel_rfl) (λ_ _=>rfl) (λ_ _ h=>h) (λ_ X=>by kernel_rfl)
def Qe6(m:Q00):Tree Bool:=
.an (Q6n m) (.lv (Q0m m) λ(x0:Q03)=> .br (iand u32 x0.B7.a0 (1:Int)==(0:Int)) (.lf false) (.an (Qbv m.Mem x0.Pc 4) (.lv (Q14 m.Mem x0.Pc 4) λ(x1:Int×Bool)=> .lv (Q1w x1.1) λ(x2:Q0i×Bool)=> .br x1.2 (.br x2.2 (.br (x2.1.Op==60) (.lf (x2.1.Imm==2)) (.lf false)) (.lf false)) (.lf false))))
def Qgs(m:Q00):Bool:=(Qe6 m).m
abbrev Qje(m:Q00):Prop:=(Qe6 m).p
def Zcm:Q0b:=mkP 69 [] true [.agg Q00.sig] [] (λargs rows=>Qje (Q00.of (args.getD 0 .dead).cells)) (λargs rows=>Qgs (Q00.of (args.getD 0 .dead).cells)) (λX=> .bool X) (λX=>[])
theorem Qtc:Q05 Tryz.prog Zcm:=Q0k Q0j Q0h (.cons Qb4 (.cons Qne (.cons Qpx (.nil)))) Tryz.func69 Tryz.call69 (λargs rows=>Qe6 (Q00.of (args.getD 0 .dead).cells)) [] [] 2 (λ_ _ _=>by kernel_rfl) (λ_ _=>rfl) (λ_ _ h=>h) (λ_ X=>by kernel_rfl)
def Q6t(m:Q00):Tree Bool:=
.an (Qe3 m) (.lv (Q17 m) λ(x0:Bool)=> .br x0 (.lf false) (.an (Qje m) (.lv (Qgs m) λ(x1:Bool)=> .lf x1)))
def Q1p(m:Q00):Bool:=(Q6t m).m
abbrev Qb0(m:Q00):Prop:=(Q6t m).p
def Qup:Q0b:=mkP 50 [] true [.agg Q00.sig] [] (λargs rows=>Qb0 (Q00.of (args.getD 0 .dead).cells)) (λargs rows=>Q1p (Q00.of (args.getD 0 .dead).cells)) (λX=> .bool X) (λX=>[])
theorem Qs5:Q05 Tryz.prog Qup:=Q0k Q0j Q0h (.cons Qt (.cons Qtc (.nil))) Tryz.func50 Tryz.call50 (λargs rows=>Q6t (Q00.of (args.getD 0 .dead).cells)) [] [] 2 (λ_ _ _=>by kernel_rfl) (λ_ _=>rfl) (λ_ _ h=>h) (λ_ X=>by kernel_rfl)
def Q30(c:Q0a)(port:Int):Tree (Q0a×Int):=
let T1:Tree ((Q0a×Int)):= .br (port==0) (.cn (decide ((0:Int)<=(1:Int)/\1<=(c.D5.length:Int)/\(c.D5.length:Int)<=(c.D5.length:Int))) (.cn (decide ((0:Int)<=(0:Int)/\0<(c.D5.length:Int))) (.lf ({D5:=List.take (Int.toNat (c.D5.length:Int)-Int.toNat 1) (List.drop (Int.toNat 1) c.D5)},wrap u32 (↑(UInt8.toNat (c.D5.getD (Int.toNat 0) (0:UInt8))):Int))))) (.br (port==1) (.lf (c,wrap u32 (c.D5.length:Int))) (.lf (c,0))); .br (port==0) (.br ((c.D5.length:Int)==(0:Int)) (.lf (c,4294967295)) T1) T1
def Q4v(c:Q0a)(port:Int):(Q0a×Int):=(Q30 c port).m
theorem Qse(c:Q0a)(port:Int):(Q30 c port).p:=by
 unfold Tree.p Q30
 repeat'(first|exact trivial|refine w_br (λ_=> ?_) (λ_=> ?_)|refine w_cn ?_ ?_|refine w_an ?_ ?_|refine w_lv (λ_ _=> ?_)|refine w_nx ?_|refine w_lf ?_|refine And.intro ?_ ?_)
 all_goals(((subst_vars;first|trivial|assumption|omega|((simp(config:={decide:=true,failIfUnchanged:=false}) only[Bool.and_eq_true,Bool.or_eq_true,Bool.and_eq_false_iff,Bool.or_eq_false_iff,Bool.not_eq_true',Bool.not_eq_false',Bool.not_eq_true,Bool.not_eq_false,decide_eq_true_eq,decide_eq_false_iff_not,Q4f,Q2r,Q4i,Q2s,beq_iff_eq,beq_eq_false_iff_ne,bne_iff_ne,bne_eq_false_iff_eq,ne_eq,List.all_cons,List.all_nil,D.plain,List.length_cons,List.length_nil,List.length_append,List.length_set,List.length_replicate,IntKind.wrap_i64,IntKind.wrap_u64,IntKind.wrap_u32,IntKind.wrap_i32,IntKind.wrap_u8,true_and,and_true,or_false,false_or,or_true,true_or,not_true_eq_false,not_false_eq_true,Prod.fst,Prod.snd]at*);first|done|assumption|omega)|((simp(config:={decide:=true,failIfUnchanged:=false}) only[Bool.and_eq_true,Bool.or_eq_true,Bool.and_eq_false_iff,Bool.or_eq_false_iff,Bool.not_eq_true',Bool.not_eq_false',Bool.not_eq_true,Bool.not_eq_false,decide_eq_true_eq,decide_eq_false_iff_not,Q4f,Q2r,Q4i,Q2s,beq_iff_eq,beq_eq_false_iff_ne,bne_iff_ne,bne_eq_false_iff_eq,ne_eq,List.all_cons,List.all_nil,D.plain,List.length_cons,List.length_nil,List.length_append,List.length_set,List.length_replicate,IntKind.wrap_i64,IntKind.wrap_u64,IntKind.wrap_u32,IntKind.wrap_i32,IntKind.wrap_u8,true_and,and_true,or_false,false_or,or_true,true_or,not_true_eq_false,not_false_eq_true,Prod.fst,Prod.snd]at*);simp only[<-List.length_pos_iff]at*;omega)|(simp_all;done)|(have:= @Qf8;simp_all;try omega))))
def Qx9:Q0b:=mkR 196 [] true [.agg Q0a.sig, .one (.int .i64)] [] (λargs rows=>Q4v (Q0a.of (args.getD 0 .dead).cells) (argI args 1)) (λX=> .tup [.agg (Q0a.cells (X.1)), .int .u32 (X.2)]) (λX=>[])
theorem Qkb:Q05 Tryz.prog Qx9:=Q0x Q0j Q0h (.nil) Tryz.func196 Tryz.call196 (λargs rows=>Q30 (Q0a.of (args.getD 0 .dead).cells) (argI args 1)) [] [] 2 (λ_ _ _=>by kernel_rfl) (λ_ _=>rfl) (λargs rows=>Qse (Q0a.of (args.getD 0 .dead).cells) (argI args 1)) (λ_ X=>by kernel_rfl)
def Qdx(t:Q0f):Tree Int:=
.br t.D9 (.lf 1) (.lf 0)
def Qeo(t:Q0f):Int:=(Qdx t).m
def Z36:Q0b:=mkR 197 [] true [.agg Q0f.sig] [] (λargs rows=>Qeo (Q0f.of (args.getD 0 .dead).cells)) (λX=> .int .u32 X) (λX=>[])
theorem Qnc:Q05 Tryz.prog Z36:=Q0x Q0j Q0h (.nil) Tryz.func197 Tryz.call197 (λargs rows=>Qdx (Q0f.of (args.getD 0 .dead).cells)) [] [] 2 (λ_ _ _=>by kernel_rfl) (λ_ _=>rfl) (λ_ _=>Tree.free_ok (by kernel_rfl)) (λ_ X=>by kernel_rfl)
def Qfw(d0:Q0d)(port:Int):Tree Int:=
.br (port==4) (.lf d0.B6) (.br (port==5) (.lf d0.B4) (.br (port==6) (.lf (wrap u32 d0.C1)) (.lf 0)))
def Qgy(d0:Q0d)(port:Int):Int:=(Qfw d0 port).m
def Z7x:Q0b:=mkR 198 [] true [.agg Q0d.sig, .one (.int .i64)] [] (λargs rows=>Qgy (Q0d.of (args.getD 0 .dead).cells) (argI args 1)) (λX=> .int .u32 X) (λX=>[])
theorem Qpy:Q05 Tryz.prog Z7x:=Q0x Q0j Q0h (.nil) Tryz.func198 Tryz.call198 (λargs rows=>Qfw (Q0d.of (args.getD 0 .dead).cells) (argI args 1)) [] [] 2 (λ_ _ _=>by kernel_rfl) (λ_ _=>rfl) (λ_ _=>Tree.free_ok (by kernel_rfl)) (λ_ X=>by kernel_rfl)
def Qeh(n:Q0p)(port:Int):Tree Int:=
.br (port==7) (.lf n.B4) (.br (port==8) (.lf n.F6) (.br (port==9) (.br n.C9 (.br n.C0 (.lf (wrap u32 ((1:Int)+(2:Int)))) (.lf 1)) (.br n.C0 (.lf (wrap u32 ((0:Int)+(2:Int)))) (.lf 0))) (.lf 0)))
def Qgk(n:Q0p)(port:Int):Int:=(Qeh n port).m
def Zea:Q0b:=mkR 199 [] true [.agg Q0p.sig, .one (.int .i64)] [] (λargs rows=>Qgk (Q0p.of (args.getD 0 .dead).cells) (argI args 1)) (λX=> .int .u32 X) (λX=>[])
theorem Qrw:Q05 Tryz.prog Zea:=Q0x Q0j Q0h (.nil) Tryz.func199 Tryz.call199 (λargs rows=>Qeh (Q0p.of (args.getD 0 .dead).cells) (argI args 1)) [] [] 2 (λ_ _ _=>by kernel_rfl) (λ_ _=>rfl) (λ_ _=>Tree.free_ok (by kernel_rfl)) (λ_ X=>by kernel_rfl)
def Q5r(b:Q07)(port:Int):Tree Int:=
.br (port==10) (.lf b.D0) (.br (port==11) (.lv (Qdp b) λ(x0:Int)=> .lf (wrap u32 x0)) (.lf 0))
def Q5(b:Q07)(port:Int):Int:=(Q5r b port).m
def Qxr:Q0b:=mkR 200 [] true [.agg Q07.sig, .one (.int .i64)] [] (λargs rows=>Q5 (Q07.of (args.getD 0 .dead).cells) (argI args 1)) (λX=> .int .u32 X) (λX=>[])
theorem Qk4:Q05 Tryz.prog Qxr:=Q0x Q0j Q0h (.cons Qt2 (.nil)) Tryz.func200 Tryz.call200 (λargs rows=>Q5r (Q07.of (args.getD 0 .dead).cells) (argI args 1)) [] [] 2 (λ_ _ _=>by kernel_rfl) (λ_ _=>rfl) (λ_ _=>Tree.free_ok (by kernel_rfl)) (λ_ X=>by kernel_rfl)
def Qjy(m:Q00)(port:Int)(clock:Int):Tree (Int×Q00):=
.br (decide (port<=1)) (.lv (Q4v m.A1 port) λ(x0:Q0a×Int)=> .lf (x0.2,{B3:=m.B3,Mem:=m.Mem,A1:=x0.1,B1:=m.B1,B0:=m.B0,C7:=m.C7,A2:=m.A2,A3:=m.A3,A6:=m.A6,A7:=m.A7})) (.br (port==2) (.lf (clock,m)) (.br (port==3) (.lv (Qeo m.B1) λ(x1:Int)=> .lf (x1,m)) (.br (decide (port<=6)) (.lv (Qgy m.B0 port) λ(x2:Int)=> .lf (x2,m)) (.br (decide (port<=9)) (.lv (Qgk m.C7 port) λ(x3:Int)=> .lf (x3,m)) (.lv (Q5 m.A2 port) λ(x4:Int)=> .lf (x4,m))))))
def Qcn(m:Q00)(port:Int)(clock:Int):(Int×Q00):=(Qjy m port clock).m
def xC:Q0b:=mkR 140 [true,false,false] true [.ptr 0, .one (.int .i64), .one (.int .u32)] [.box 41 49 (Q00.sigW (.row 1)), .arr 23 1 (.ints .u32)] (λargs rows=>Qcn (Q00.ofW (rows.getD 0 default).cs (rowL .u32 rows 1)) (argI args 1) (argI args 2)) (λX=> .int .u32 (X.1)) (λX=>[⟨true,41,49, .gen [(Q00.cellsW (X.2) (.all 1))]⟩,⟨false,23,1, .ints .u32 (X.2).Mem⟩])
theorem Zko:Q05 Tryz.prog xC:=Q0x Q0j Q0h (.cons Qkb (.cons Qnc (.cons Qpy (.cons Qrw (.cons Qk4 (.nil)))))) Tryz.func140 Tryz.call140 (λargs rows=>Qjy (Q00.ofW (rows.getD 0 default).cs (rowL .u32 rows 1)) (argI args 1) (argI args 2)) [.row 23 1 (.ints .u32)] [] 2 (λ_ _ _=>by kernel_rfl) (λ_ _=>rfl) (λ_ _=>Tree.free_ok (by kernel_rfl)) (λ_ X=>by kernel_rfl)
def Qv0(deadline:Int):Tree Q0f:=
.br (deadline==0) (.lf ({D4:=false,D1:=0,D9:=false})) (.lf ({D4:=true,D1:=deadline,D9:=false}))
def Qrx(deadline:Int):Q0f:=(Qv0 deadline).m
def Zkw:Q0b:=mkR 201 [] true [.one (.int .u32)] [] (λargs rows=>Qrx (argI args 0)) (λX=> .agg (Q0f.cells X)) (λX=>[])
theorem Z25:Q05 Tryz.prog Zkw:=Q0x Q0j Q0h (.nil) Tryz.func201 Tryz.call201 (λargs rows=>Qv0 (argI args 0)) [] [] 2 (λ_ _ _=>by kernel_rfl) (λ_ _=>rfl) (λ_ _=>Tree.free_ok (by kernel_rfl)) (λ_ X=>by kernel_rfl)
def Qsz(x:Int)(n:Int)(z:(Int)×(List Int)):Prop:=0<=z.1/\(z.2.length:Int)=z.1/\(z.1<=n\/z.1=0)
def Qdw(x:Int)(n:Int)(z:(Int)×(List Int)):Nat:=(n-z.1).toNat
def Qgl(x:Int)(n:Int):Tree (List UInt8):=
.lp inferInstance (Qdw x n (0,[])+1) ((rE (x:Int)/\rE (n:Int)/\True/\rE (0:Int)/\True)/\rE ([]:List Int)/\True) (0,[]) λ(v0:Int×List Int)=> .br (decide (v0.1<n)) (.cn (decide (0<=wrap u64 (wrap i64 (8*v0.1)))) (.cn (decide (1*(v0.2.length+1)<=140737488355328)) (.nx ((rE (x:Int)/\rE (n:Int)/\True/\rE ((wrap i64 (v0.1+1)):Int)/\True)/\rE ((v0.2++[wrap u8 (ishr u32 x (wrap u64 (wrap i64 (8*v0.1))))]):List Int)/\True) (Sum.inl (wrap i64 (v0.1+1),v0.2++[wrap u8 (ishr u32 x (wrap u64 (wrap i64 (8*v0.1))))]))))) (.lf (Sum.inr (bytesOf v0.2)))
def Z7w(x:Int)(n:Int):(List UInt8):=(Qgl x n).m
def Qiz(x:Int)(n:Int):Prop:=
n<=1000000000000
theorem Zbl(x:Int)(n:Int)(hw:Qiz x n):(Qgl x n).p:=by
 simp only[Qiz]at hw
 unfold Tree.p Qgl
 repeat'(first|refine w_lp (inv:=Qsz x n) (μ:=Qdw x n) ?_ (Nat.lt_succ_self _) (λ_ _=> ?_)|exact trivial|refine w_br (λ_=> ?_) (λ_=> ?_)|refine w_cn ?_ ?_|refine w_an ?_ ?_|refine w_lv (λ_ _=> ?_)|refine w_nx ?_|refine w_lf ?_|refine And.intro ?_ ?_)
 all_goals((try simp only[Qsz,Qdw]at*);((subst_vars;first|trivial|assumption|omega|((simp(config:={decide:=true,failIfUnchanged:=false}) only[Bool.and_eq_true,Bool.or_eq_true,Bool.and_eq_false_iff,Bool.or_eq_false_iff,Bool.not_eq_true',Bool.not_eq_false',Bool.not_eq_true,Bool.not_eq_false,decide_eq_true_eq,decide_eq_false_iff_not,Q4f,Q2r,Q4i,Q2s,beq_iff_eq,beq_eq_false_iff_ne,bne_iff_ne,bne_eq_false_iff_eq,ne_eq,List.all_cons,List.all_nil,D.plain,List.length_cons,List.length_nil,List.length_append,List.length_set,List.length_replicate,IntKind.wrap_i64,IntKind.wrap_u64,IntKind.wrap_u32,IntKind.wrap_i32,IntKind.wrap_u8,true_and,and_true,or_false,false_or,or_true,true_or,not_true_eq_false,not_false_eq_true,Prod.fst,Prod.snd]at*);first|done|assumption|omega)|((simp(config:={decide:=true,failIfUnchanged:=false}) only[Bool.and_eq_true,Bool.or_eq_true,Bool.and_eq_false_iff,Bool.or_eq_false_iff,Bool.not_eq_true',Bool.not_eq_false',Bool.not_eq_true,Bool.not_eq_false,decide_eq_true_eq,decide_eq_false_iff_not,Q4f,Q2r,Q4i,Q2s,beq_iff_eq,beq_eq_false_iff_ne,bne_iff_ne,bne_eq_false_iff_eq,ne_eq,List.all_cons,List.all_nil,D.plain,List.length_cons,List.length_nil,List.length_append,List.length_set,List.length_replicate,IntKind.wrap_i64,IntKind.wrap_u64,IntKind.wrap_u32,IntKind.wrap_i32,IntKind.wrap_u8,true_and,and_true,or_false,false_or,or_true,true_or,not_true_eq_false,not_false_eq_true,Prod.fst,Prod.snd]at*);simp only[<-List.length_pos_iff]at*;omega)|(simp_all;done)|(have:= @Qf8;simp_all;try omega))))
def Zh6:LInv:={
 α:=(Int)×(List Int)
 F:=λst a=>([(0,(lk st 0)),(1,(lk st 1)),(5, .all 0),(6, .int i64 a.1)],[⟨false,5,1, .ints u8 a.2⟩])
 a0:=λst=>((lk st 6).toInt,(Q3k st.rows (rN st 5)))
 ex0:=λst=>[]++[(Q0n (lk st 5) (st.rows.length+0))]
 next:=λst=>((lk st 6).toInt,(Q3k st.rows (rN st 5)))
 ex:=λst=>[]++[(Q0n (lk st 5) (st.rows.length+0))]}
def Z8d:List (Nat×LInv):=[(3,Zh6)]
def Zl0:Q0b:=mkP 268 [] true [.one (.int .u32), .one (.int .i64)] [] (λargs rows=>Qiz (argI args 0) (argI args 1)) (λargs rows=>Z7w (argI args 0) (argI args 1)) (λX=> .str X) (λX=>[])
theorem Zfi:Q05 Tryz.prog Zl0:=Q0k Q0j Q0h (.nil) Tryz.func268 Tryz.call268 (λargs rows=>Qgl (argI args 0) (argI args 1)) [] Z8d 3 (λ_ _ _=>by kernel_rfl) (λ_ _=>rfl) (λargs rows h=>Zbl (argI args 0) (argI args 1) h) (λ_ X=>by kernel_rfl)
def Qbp(m:(List Int))(frame:Int)(z:(Int)×(List Int)):Nat:=(32-z.1).toNat
def Q6d(m:(List Int))(frame:Int):Tree ((List UInt8)×Bool):=
.br (decide (frame<0)) (.lf ([],false)) (.lv (Q3j m) λ(x0:Int)=> .br (decide (frame>=x0)) (.lf ([],false)) (.lp inferInstance (Qbp m frame (0,[])+1) ((((Els.Nil (Els.ints u32 m)\/rE (1:Nat))/\rE (m:List Int))/\rE (frame:Int)/\True/\rE (0:Int)/\True)/\rE ([]:List Int)/\True) (0,[]) λ(v0:Int×List Int)=> .br (decide (v0.1<32)) (.cn (Nat.beq 1 1&&Nat.blt 0 1&&decide (0<=wrap i64 (wrap i64 (frame*32)+v0.1)/\wrap i64 (wrap i64 (frame*32)+v0.1)<(m.length:Int))) (let E1:=m.getD (Int.toNat (wrap i64 (wrap i64 (frame*32)+v0.1))) 0; .an (Qiz E1 4) (.lv (Z7w E1 4) λ(x1:List UInt8)=> .cn (decide (1*(v0.2.length+List.length (Q4l x1))<=140737488355328)) (.nx ((((Els.Nil (Els.ints u32 m)\/rE (1:Nat))/\rE (m:List Int))/\rE (frame:Int)/\True/\rE ((wrap i64 (v0.1+1)):Int)/\True)/\rE ((v0.2++Q4l x1):List Int)/\True) (Sum.inl (wrap i64 (v0.1+1),v0.2++Q4l x1)))))) (.lf (Sum.inr (bytesOf v0.2,true)))))
def Qf1(m:(List Int))(frame:Int):((List UInt8)×Bool):=(Q6d m frame).m
abbrev Qg7(m:(List Int))(frame:Int):Prop:=(Q6d m frame).p
def Zb0:LInv:={
 α:=(Int)×(List Int)
 F:=λst a=>([(0,(lk st 0)),(1,(lk st 1)),(6, .all 0),(7, .int i64 a.1)],[⟨false,5,1, .ints u8 a.2⟩])
 a0:=λst=>((lk st 7).toInt,(Q3k st.rows (rN st 6)))
 ex0:=λst=>[]++[(Q0n (lk st 6) (st.rows.length+0))]
 next:=λst=>((lk st 7).toInt,(Q3k st.rows (rN st 6)))
 ex:=λst=>[]++[(Q0n (lk st 6) (st.rows.length+0))]}
def Z3n:List (Nat×LInv):=[(5,Zb0)]
def Zgs:Q0b:=mkP 247 [] true [.one (.ints .u32), .one (.int .i64)] [] (λargs rows=>Qg7 (argL .u32 args 0) (argI args 1)) (λargs rows=>Qf1 (argL .u32 args 0) (argI args 1)) (λX=> .tup [.str (X.1), .bool (X.2)]) (λX=>[])
theorem Qvp:Q05 Tryz.prog Zgs:=Q0k Q0j Q0h (.cons Qc0 (.cons Zfi (.nil))) Tryz.func247 Tryz.call247 (λargs rows=>Q6d (argL .u32 args 0) (argI args 1)) [] Z3n 3 (λ_ _ _=>by kernel_rfl) (λ_ _=>rfl) (λ_ _ h=>h) (λ_ X=>by kernel_rfl)
def Qdz(d0:Q0d)(at0:Int):Tree (Q02×Bool):=
.br (d0.C1 !=1) (.lf ({B5:=0,At:=0,B6:=0,C8:=[]},false)) (.br (d0.F1==1) (.lf ({B5:=3,At:=at0,B6:=d0.B8,C8:=[]},true)) (.br (d0.F1==2) (.lf ({B5:=4,At:=at0,B6:=d0.B8,C8:=d0.C5},true)) (.lf ({B5:=0,At:=0,B6:=0,C8:=[]},false))))
def Qep(d0:Q0d)(at0:Int):(Q02×Bool):=(Qdz d0 at0).m
def Z3c:Q0b:=mkR 248 [] true [.agg Q0d.sig, .one (.int .u64)] [] (λargs rows=>Qep (Q0d.of (args.getD 0 .dead).cells) (argI args 1)) (λX=> .tup [.agg (Q02.cells (X.1)), .bool (X.2)]) (λX=>[])
theorem Z1y:Q05 Tryz.prog Z3c:=Q0x Q0j Q0h (.nil) Tryz.func248 Tryz.call248 (λargs rows=>Qdz (Q0d.of (args.getD 0 .dead).cells) (argI args 1)) [] [] 2 (λ_ _ _=>by kernel_rfl) (λ_ _=>rfl) (λ_ _=>Tree.free_ok (by kernel_rfl)) (λ_ X=>by kernel_rfl)
def Q4u(d0:Q0d)(m:(List Int))(port:Int)(v:Int)(at0:Int):Tree (Q0d×(List Q02)):=
.br (port==4) (.lf ({Blocks:=d0.Blocks,B6:=v,B4:=d0.B4,C1:=d0.C1,F1:=d0.F1,B8:=d0.B8,B2:=d0.B2,C5:=d0.C5},[])) (.br (port==5) (.lf ({Blocks:=d0.Blocks,B6:=d0.B6,B4:=v,C1:=d0.C1,F1:=d0.F1,B8:=d0.B8,B2:=d0.B2,C5:=d0.C5},[])) (.br (port !=6) (.lf (d0,[])) (let T1:Tree ((Q0d×(List Q02))):= .br (d0.C1==0) (let T2:Tree ((Q0d×(List Q02))):= .lf ({Blocks:=d0.Blocks,B6:=d0.B6,B4:=d0.B4,C1:=3,F1:=d0.F1,B8:=d0.B8,B2:=d0.B2,C5:=d0.C5},[]); .br (decide (d0.B6>=d0.Blocks)) T2 (.lv (Q22 m d0.B4) λ(x0:Bool)=> .br (!x0) T2 (.br (v==2) (.an (Qg7 m (wrap i64 d0.B4)) (.lv (Qf1 m (wrap i64 d0.B4)) λ(x1:List UInt8×Bool)=>let E4:=({Blocks:=d0.Blocks,B6:=d0.B6,B4:=d0.B4,C1:=1,F1:=wrap i64 v,B8:=d0.B6,B2:=d0.B4,C5:=x1.1}:Q0d); .lv (Qep E4 at0) λ(x2:Q02×Bool)=> .lf (E4,[x2.1]))) (let E5:=({Blocks:=d0.Blocks,B6:=d0.B6,B4:=d0.B4,C1:=1,F1:=wrap i64 v,B8:=d0.B6,B2:=d0.B4,C5:=[]}:Q0d); .lv (Qep E5 at0) λ(x3:Q02×Bool)=> .lf (E5,[x3.1]))))) (.lf (d0,[])); .br (v==0) (let T3:Tree ((Q0d×(List Q02))):= .lf ({Blocks:=d0.Blocks,B6:=d0.B6,B4:=d0.B4,C1:=0,F1:=d0.F1,B8:=d0.B8,B2:=d0.B2,C5:=d0.C5},[]); .br (d0.C1==2) T3 (.br (d0.C1==3) T3 (.br (v==1) T1 (.br (v==2) T1 (.lf (d0,[])))))) (.br (v==1) T1 (.br (v==2) T1 (.lf (d0,[])))))))
def Qbi(d0:Q0d)(m:(List Int))(port:Int)(v:Int)(at0:Int):(Q0d×(List Q02)):=(Q4u d0 m port v at0).m
abbrev Qfk(d0:Q0d)(m:(List Int))(port:Int)(v:Int)(at0:Int):Prop:=(Q4u d0 m port v at0).p
def Z2f:Q0b:=mkP 202 [] true [.agg Q0d.sig, .one (.ints .u32), .one (.int .i64), .one (.int .u32), .one (.int .u64)] [] (λargs rows=>Qfk (Q0d.of (args.getD 0 .dead).cells) (argL .u32 args 1) (argI args 2) (argI args 3) (argI args 4)) (λargs rows=>Qbi (Q0d.of (args.getD 0 .dead).cells) (argL .u32 args 1) (argI args 2) (argI args 3) (argI args 4)) (λX=> .tup [.agg (Q0d.cells (X.1)), .sl 4 (.recs .apiOutput (X.2)) true]) (λX=>[])
theorem Qnl:Q05 Tryz.prog Z2f:=Q0k Q0j Q0h (.cons Qf3 (.cons Qvp (.cons Z1y (.nil)))) Tryz.func202 Tryz.call202 (λargs rows=>Q4u (Q0d.of (args.getD 0 .dead).cells) (argL .u32 args 1) (argI args 2) (argI args 3) (argI args 4)) [.sl (.recs .apiOutput) true] [] 2 (λ_ _ _=>by kernel_rfl) (λ_ _=>rfl) (λ_ _ h=>h) (λ_ X=>by kernel_rfl)
def Q64(n:Q0p)(m:(List Int))(port:Int)(v:Int)(at0:Int):Tree (Q0p×(List Q02)):=
.br (port==7) (.lf ({B4:=v,F4:=n.F4,C9:=n.C9,C3:=n.C3,C0:=n.C0,F6:=n.F6},[])) (.br (port==8) (.lf ({B4:=n.B4,F4:=v,C9:=n.C9,C3:=n.C3,C0:=n.C0,F6:=n.F6},[])) (.br (port !=9) (.lf (n,[])) (.br (v==0) (.lf ({B4:=n.B4,F4:=n.F4,C9:=n.C9,C3:=n.C3,C0:=false,F6:=0},[])) (let T1:Tree ((Q0p×(List Q02))):= .br (v==2) (.lv (Q22 m n.B4) λ(x2:Bool)=> .br x2 (.br (!n.C9) (.br (!n.C0) (.lf ({B4:=n.B4,F4:=n.F4,C9:=true,C3:=n.B4,C0:=n.C0,F6:=n.F6},[])) (.lf (n,[]))) (.lf (n,[]))) (.lf (n,[]))) (.lf (n,[])); .br (v==1) (.br (decide (n.F4>=1)) (.br (decide (n.F4<=128)) (.lv (Q22 m n.B4) λ(x0:Bool)=> .br x0 (.an (Qg7 m (wrap i64 n.B4)) (.lv (Qf1 m (wrap i64 n.B4)) λ(x1:List UInt8×Bool)=> .cn (decide ((0:Int)<=(0:Int)/\0<=n.F4/\n.F4<=(x1.1.length:Int))) (.lf (n,[{B5:=2,At:=at0,B6:=0,C8:=List.take (Int.toNat n.F4-Int.toNat 0) (List.drop (Int.toNat 0) x1.1)}])))) T1) T1) T1) T1))))
def Qd6(n:Q0p)(m:(List Int))(port:Int)(v:Int)(at0:Int):(Q0p×(List Q02)):=(Q64 n m port v at0).m
abbrev Qh4(n:Q0p)(m:(List Int))(port:Int)(v:Int)(at0:Int):Prop:=(Q64 n m port v at0).p
def Z99:Q0b:=mkP 203 [] true [.agg Q0p.sig, .one (.ints .u32), .one (.int .i64), .one (.int .u32), .one (.int .u64)] [] (λargs rows=>Qh4 (Q0p.of (args.getD 0 .dead).cells) (argL .u32 args 1) (argI args 2) (argI args 3) (argI args 4)) (λargs rows=>Qd6 (Q0p.of (args.getD 0 .dead).cells) (argL .u32 args 1) (argI args 2) (argI args 3) (argI args 4)) (λX=> .tup [.agg (Q0p.cells (X.1)), .sl 4 (.recs .apiOutput (X.2)) true]) (λX=>[])
theorem Qpt:Q05 Tryz.prog Z99:=Q0k Q0j Q0h (.cons Qf3 (.cons Qvp (.nil))) Tryz.func203 Tryz.call203 (λargs rows=>Q64 (Q0p.of (args.getD 0 .dead).cells) (argL .u32 args 1) (argI args 2) (argI args 3) (argI args 4)) [.sl (.recs .apiOutput) true] [] 2 (λ_ _ _=>by kernel_rfl) (λ_ _=>rfl) (λ_ _ h=>h) (λ_ X=>by kernel_rfl)
def Qh(b:Q07)(m:(List Int))(port:Int)(v:Int)(z:(Int)×(List Int)):Nat:=(32-z.1).toNat
def Q4g(b:Q07)(m:(List Int))(port:Int)(v:Int):Tree (Q07×(List Int)):=
let T1:Tree ((Q07×(List Int))):= .br (port==11) (.br (decide (v<32)) (.cn (decide (0<=v)) (.lf ({D0:=b.D0,C4:=Qg5 u32 b.C4 (ishl u32 1 v)},m))) (.lf (b,m))) (.lf (b,m)); .br (port==10) (.lv (Q22 m v) λ(x0:Bool)=> .br x0 (.cn (decide (0<=v)) (.br (iand u32 (ishr u32 b.C4 v) (1:Int)==(0:Int)) (.cn (decide (0<=v)) (.lp inferInstance (Qh b m port v (0,m)+1) ((True/\rE (v:Int)/\(rE (0:Nat)/\rE (0:Nat))/\(rE (0:Nat)/\rE (0:Nat))/\rE (0:Int)/\True)/\rE (m:List Int)/\(rE b.D0/\rE ((ior u32 b.C4 (ishl u32 1 v)):Int)/\True)/\(rE (0:Int)/\rE (0:Int)/\True)/\True) (0,m) λ(v0:Int×List Int)=> .br (decide (v0.1<32)) (let E2:=wrap i64 (wrap i64 v*32)+v0.1; .cn (Nat.beq 1 1&&Nat.blt 0 1&&decide (0<=wrap i64 E2/\wrap i64 E2<(v0.2.length:Int))) (.nx ((True/\rE (v:Int)/\(rE (0:Nat)/\rE (0:Nat))/\(rE (0:Nat)/\rE (0:Nat))/\rE ((wrap i64 (v0.1+1)):Int)/\True)/\rE ((List.set v0.2 (Int.toNat (wrap i64 (wrap i64 (wrap i64 v*32)+v0.1))) 0):List Int)/\(rE b.D0/\rE ((ior u32 b.C4 (ishl u32 1 v)):Int)/\True)/\(rE (0:Int)/\rE (0:Int)/\True)/\True) (Sum.inl (wrap i64 (v0.1+1),List.set v0.2 (Int.toNat (wrap i64 E2)) 0)))) (.lf (Sum.inr ({D0:=b.D0,C4:=ior u32 b.C4 (ishl u32 1 v)},v0.2))))) T1)) T1) T1
def Q68(b:Q07)(m:(List Int))(port:Int)(v:Int):(Q07×(List Int)):=(Q4g b m port v).m
abbrev Qkz(b:Q07)(m:(List Int))(port:Int)(v:Int):Prop:=(Q4g b m port v).p
def Zct:LInv:={
 α:=(Int)×(List Int)
 F:=λst a=>([(1, .all 0),(3,(lk st 3)),(4, .ptr 1 0 0),(8, .ptr 2 0 0),(9, .int i64 a.1)],[⟨false,23,1, .ints u32 a.2⟩,⟨true,38,2, .gen [[(cT st 4 0),(cT st 4 1)]]⟩,⟨true,38,2, .gen [[(cT st 8 0),(cT st 8 1)]]⟩])
 a0:=λst=>((lk st 9).toInt,(Q3k st.rows 0))
 ex0:=λst=>[0]++[(Q0n (lk st 4) (st.rows.length+1)),(Q0n (lk st 8) (st.rows.length+2))]
 next:=λst=>((lk st 9).toInt,(Q3k st.rows 0))
 ex:=λst=>[0]++[(Q0n (lk st 4) (st.rows.length+1)),(Q0n (lk st 8) (st.rows.length+2))]}
def Z44:List (Nat×LInv):=[(4,Zct)]
def Zhe:Q0b:=mkP 204 [false,true,false,false] true [.agg Q07.sig, .one (.row 0), .one (.int .i64), .one (.int .u32)] [.arr 23 1 (.ints .u32)] (λargs rows=>Qkz (Q07.of (args.getD 0 .dead).cells) (rowL .u32 rows 0) (argI args 2) (argI args 3)) (λargs rows=>Q68 (Q07.of (args.getD 0 .dead).cells) (rowL .u32 rows 0) (argI args 2) (argI args 3)) (λX=> .agg (Q07.cells (X.1))) (λX=>[⟨false,23,1, .ints .u32 (X.2)⟩])
theorem Qwe:Q05 Tryz.prog Zhe:=Q0k Q0j Q0h (.cons Qf3 (.nil)) Tryz.func204 Tryz.call204 (λargs rows=>Q4g (Q07.of (args.getD 0 .dead).cells) (rowL .u32 rows 0) (argI args 2) (argI args 3)) [] Z44 3 (λ_ _ _=>by kernel_rfl) (λ_ _=>rfl) (λ_ _ h=>h) (λ_ X=>by kernel_rfl)
def Qa1(m:Q00)(port:Int)(v:Int):Tree ((List Q02)×Q00):=
.br (port==0) (.lf ([{B5:=1,At:=m.A3,B6:=0,C8:=[(λ(n:Int)=>UInt8.ofNat n.toNat) (wrap u8 v)]}],m)) (.br (decide (port<=2)) (.lf ([],m)) (.br (port==3) (.lv (Qrx v) λ(x0:Q0f)=> .lf ([],{B3:=m.B3,Mem:=m.Mem,A1:=m.A1,B1:=x0,B0:=m.B0,C7:=m.C7,A2:=m.A2,A3:=m.A3,A6:=m.A6,A7:=m.A7})) (.br (decide (port<=6)) (.an (Qfk m.B0 m.Mem port v m.A3) (.lv (Qbi m.B0 m.Mem port v m.A3) λ(x1:Q0d×List Q02)=> .lf (x1.2,{B3:=m.B3,Mem:=m.Mem,A1:=m.A1,B1:=m.B1,B0:=x1.1,C7:=m.C7,A2:=m.A2,A3:=m.A3,A6:=m.A6,A7:=m.A7}))) (.br (decide (port<=9)) (.an (Qh4 m.C7 m.Mem port v m.A3) (.lv (Qd6 m.C7 m.Mem port v m.A3) λ(x2:Q0p×List Q02)=> .lf (x2.2,{B3:=m.B3,Mem:=m.Mem,A1:=m.A1,B1:=m.B1,B0:=m.B0,C7:=x2.1,A2:=m.A2,A3:=m.A3,A6:=m.A6,A7:=m.A7}))) (.an (Qkz m.A2 m.Mem port v) (.lv (Q68 m.A2 m.Mem port v) λ(x3:Q07×List Int)=> .lf ([],{B3:=m.B3,Mem:=x3.2,A1:=m.A1,B1:=m.B1,B0:=m.B0,C7:=m.C7,A2:=x3.1,A3:=m.A3,A6:=m.A6,A7:=m.A7})))))))
def Q8i(m:Q00)(port:Int)(v:Int):((List Q02)×Q00):=(Qa1 m port v).m
abbrev Qwt(m:Q00)(port:Int)(v:Int):Prop:=(Qa1 m port v).p
def Zlj:Q0b:=mkP 142 [true,false,false] true [.ptr 0, .one (.int .i64), .one (.int .u32)] [.box 41 49 (Q00.sigW (.row 1)), .arr 23 1 (.ints .u32)] (λargs rows=>Qwt (Q00.ofW (rows.getD 0 default).cs (rowL .u32 rows 1)) (argI args 1) (argI args 2)) (λargs rows=>Q8i (Q00.ofW (rows.getD 0 default).cs (rowL .u32 rows 1)) (argI args 1) (argI args 2)) (λX=> .sl 4 (.recs .apiOutput (X.1)) true) (λX=>[⟨true,41,49, .gen [(Q00.cellsW (X.2) (.all 1))]⟩,⟨false,23,1, .ints .u32 (X.2).Mem⟩])
theorem Zff:Q05 Tryz.prog Zlj:=Q0k Q0j Q0h (.cons Z25 (.cons Qnl (.cons Qpt (.cons Qwe (.nil))))) Tryz.func142 Tryz.call142 (λargs rows=>Qa1 (Q00.ofW (rows.getD 0 default).cs (rowL .u32 rows 1)) (argI args 1) (argI args 2)) [.sl (.recs .apiOutput) true, .row 23 1 (.ints .u32)] [] 2 (λ_ _ _=>by kernel_rfl) (λ_ _=>rfl) (λ_ _ h=>h) (λ_ X=>by kernel_rfl)
def Q83(m:Q00)(clock:Int):Tree ((List Q02)×Q00):=
.an (Q6n m) (.lv (Q0m m) λ(x0:Q03)=> .an (Qr2 x0 m.Mem) (.lv (Q6f x0 m.Mem) λ(x1:Q03×Q1×List Int)=>let E1:=({B3:=x1.1,Mem:=x1.2.2,A1:=m.A1,B1:=m.B1,B0:=m.B0,C7:=m.C7,A2:=m.A2,A3:=m.A3,A6:=false,A7:=m.A7}:Q00); .br (x1.2.1.B5==1) (.lv (Qcn E1 x1.2.1.D3 clock) λ(x2:Int×Q00)=> .an (Q2o x2.2.B3 x1.2.1.F3 x2.1) (.lv (Q1u x2.2.B3 x1.2.1.F3 x2.1) λ(x3:Q03)=> .lf ([],{B3:=x3,Mem:=x2.2.Mem,A1:=x2.2.A1,B1:=x2.2.B1,B0:=x2.2.B0,C7:=x2.2.C7,A2:=x2.2.A2,A3:=wrap u64 (x2.2.A3+1),A6:=x2.2.A6,A7:=x2.2.A7}))) (.br (x1.2.1.B5==2) (.an (Qwt E1 x1.2.1.D3 x1.2.1.Value) (.lv (Q8i E1 x1.2.1.D3 x1.2.1.Value) λ(x4:List Q02×Q00)=> .lf (x4.1,{B3:=x4.2.B3,Mem:=x4.2.Mem,A1:=x4.2.A1,B1:=x4.2.B1,B0:=x4.2.B0,C7:=x4.2.C7,A2:=x4.2.A2,A3:=wrap u64 (x4.2.A3+1),A6:=x4.2.A6,A7:=x4.2.A7}))) (.br (x1.2.1.B5==3) (.lf ([],{B3:=x1.1,Mem:=x1.2.2,A1:=m.A1,B1:=m.B1,B0:=m.B0,C7:=m.C7,A2:=m.A2,A3:=wrap u64 (m.A3+1),A6:=true,A7:=m.A7})) (.br (x1.2.1.B5==4) (.lf ([],{B3:=x1.1,Mem:=x1.2.2,A1:=m.A1,B1:=m.B1,B0:=m.B0,C7:=m.C7,A2:=m.A2,A3:=wrap u64 (m.A3+1),A6:=false,A7:=true})) (.lf ([],{B3:=x1.1,Mem:=x1.2.2,A1:=m.A1,B1:=m.B1,B0:=m.B0,C7:=m.C7,A2:=m.A2,A3:=wrap u64 (m.A3+1),A6:=false,A7:=m.A7})))))))
def Q0l(m:Q00)(clock:Int):((List Q02)×Q00):=(Q83 m clock).m
abbrev Qm7(m:Q00)(clock:Int):Prop:=(Q83 m clock).p
def Z3r:Q0b:=mkP 70 [true,false] true [.ptr 0, .one (.int .u32)] [.box 41 49 (Q00.sigW (.row 1)), .arr 23 1 (.ints .u32)] (λargs rows=>Qm7 (Q00.ofW (rows.getD 0 default).cs (rowL .u32 rows 1)) (argI args 1)) (λargs rows=>Q0l (Q00.ofW (rows.getD 0 default).cs (rowL .u32 rows 1)) (argI args 1)) (λX=> .sl 4 (.recs .apiOutput (X.1)) true) (λX=>[⟨true,41,49, .gen [(Q00.cellsW (X.2) (.all 1))]⟩,⟨false,23,1, .ints .u32 (X.2).Mem⟩])
theorem Z1g:Q05 Tryz.prog Z3r:=Q0k Q0j Q0h (.cons Qb4 (.cons Z4q (.cons Zko (.cons Qdo (.cons Zff (.nil)))))) Tryz.func70 Tryz.call70 (λargs rows=>Q83 (Q00.ofW (rows.getD 0 default).cs (rowL .u32 rows 1)) (argI args 1)) [.sl (.recs .apiOutput) true, .row 23 1 (.ints .u32)] [] 2 (λ_ _ _=>by kernel_rfl) (λ_ _=>rfl) (λ_ _ h=>h) (λ_ X=>by kernel_rfl)
end
end Go.Proofs.YtjaifpiopmhmlaaGreat

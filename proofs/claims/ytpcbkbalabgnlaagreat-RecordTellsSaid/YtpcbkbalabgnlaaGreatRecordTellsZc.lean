/-
  Functions of the program: models, and that its calls come to them (by a program: gen3.py).
-/
import Derived.Test.YtpcbkbalabgnlaaGreatRecordTellsBase
import Derived.Test.YtpcbkbalabgnlaaGreatRecordTellsZa
import Derived.Test.YtpcbkbalabgnlaaGreatRecordTellsZb
set_option maxRecDepth 100000
set_option linter.unusedVariables false
set_option linter.unusedSimpArgs false
namespace Go.Proofs.YtpcbkbalabgnlaaGreat
open Go Go.GD Go.IntKind
noncomputable section
def Qdy(steps:Int):Tree Int:=
.lf (if 4000<if 0>steps then 0 else steps then 4000 else if 0>steps then 0 else steps)
def Q0m(steps:Int):Int:=(Qdy steps).m
def Z1e:Q0d:=mkR 60 [] true [.one (.int .i64)] [] (λargs rows=>Q0m (argI args 0)) (λX=> .int .i64 X) (λX=>[])
theorem Qy6:Q05 Tryz.prog Z1e:=Q11 Q0j Q0i (.nil) Tryz.func60 Tryz.call60 (λargs rows=>Qdy (argI args 0)) [] [] 2 (λ_ _ _=>by kernel_rfl) (λ_ _=>rfl) (λ_ _=>Tree.free_ok (by kernel_rfl)) (λ_ X=>by kernel_rfl)
def Z5i(t:Q0f)(now:Int):Tree Bool:=
.br t.D4 (.lf (decide (now≥t.C8))) (.lf false)
def Qhb(t:Q0f)(now:Int):Bool:=(Z5i t now).m
def Zl3:Q0d:=mkR 61 [] true [.agg Q0f.sig, .one (.int .u32)] [] (λargs rows=>Qhb (Q0f.of (args.getD 0 .dead).cells) (argI args 1)) (λX=> .bool X) (λX=>[])
theorem Zfw:Q05 Tryz.prog Zl3:=Q11 Q0j Q0i (.nil) Tryz.func61 Tryz.call61 (λargs rows=>Z5i (Q0f.of (args.getD 0 .dead).cells) (argI args 1)) [] [] 2 (λ_ _ _=>by kernel_rfl) (λ_ _=>rfl) (λ_ _=>Tree.free_ok (by kernel_rfl)) (λ_ X=>by kernel_rfl)
def Qeh(m:Q01)(z:(Int)):Nat:=(32-z).toNat
def Q58(m:Q01):Tree Q02:=
.an (Qgm m) (.lv (Q3n m) λ(x0:Int)=> .br (iand u32 m.B2.B5.a0 (2:Int)==(0:Int)) (.lf m.B2) (.br (x0==0) (.lf m.B2) (.lp inferInstance (Qeh m 0+1) (((rE (0:Nat)∧rE (0:Nat))∧(rE (0:Nat)∧rE (0:Nat))∧rE (x0:Int)∧rE (0:Int)∧True)∧(mE m (((Els.Nil (Els.ints u32 m.Mem)∨rE (1:Nat))∧rE m.Mem)) True)∧(rE (0:Int)∧rE (0:Int)∧rE (0:Int)∧rE (0:Int)∧rE (0:Int)∧rE (0:Int)∧rE (0:Int)∧rE (0:Int)∧rE (0:Int)∧rE (0:Int)∧rE (0:Int)∧rE (0:Int)∧rE (0:Int)∧rE (0:Int)∧rE (0:Int)∧rE (0:Int)∧rE (0:Int)∧rE (0:Int)∧rE (0:Int)∧rE (0:Int)∧rE (0:Int)∧rE (0:Int)∧rE (0:Int)∧rE (0:Int)∧rE (0:Int)∧True)∧True) 0 λ(v0:Int)=> .cn (decide (0≤wrap u64 v0)) (.br (iand u32 (ishr u32 x0 (wrap u64 v0)) (1:Int)==(0:Int)) (.nx (((rE (0:Nat)∧rE (0:Nat))∧(rE (0:Nat)∧rE (0:Nat))∧rE (x0:Int)∧rE ((wrap i64 (v0+1)):Int)∧True)∧(mE m (((Els.Nil (Els.ints u32 m.Mem)∨rE (1:Nat))∧rE m.Mem)) True)∧(rE (0:Int)∧rE (0:Int)∧rE (0:Int)∧rE (0:Int)∧rE (0:Int)∧rE (0:Int)∧rE (0:Int)∧rE (0:Int)∧rE (0:Int)∧rE (0:Int)∧rE (0:Int)∧rE (0:Int)∧rE (0:Int)∧rE (0:Int)∧rE (0:Int)∧rE (0:Int)∧rE (0:Int)∧rE (0:Int)∧rE (0:Int)∧rE (0:Int)∧rE (0:Int)∧rE (0:Int)∧rE (0:Int)∧rE (0:Int)∧rE (0:Int)∧True)∧True) (Sum.inl (wrap i64 (v0+1)))) (.lv (Q38 m.B2 (wrap i64 (16+v0)) 0) λ(x1:Q02)=> .lf (Sum.inr x1))))))
def Q0l(m:Q01):Q02:=(Q58 m).m
abbrev Q8b(m:Q01):Prop:=(Q58 m).p
def Qr2:LInv:={
 α:=(Int)
 F:=λst a=>([(1, .ptr 0 0 0),(2, .ptr 1 0 0),(3,(lk st 3)),(4, .int i64 a)],[⟨true,41,49, .gen [[(cT st 1 0),(cT st 1 1),(cT st 1 2),(cT st 1 3),(cT st 1 4),(cT st 1 5),(cT st 1 6),(cT st 1 7),(cT st 1 8),(cT st 1 9),(cT st 1 10),(cT st 1 11),(cT st 1 12),(cT st 1 13),(cT st 1 14),(cT st 1 15),(cT st 1 16),(cT st 1 17),(cT st 1 18),(cT st 1 19),(cT st 1 20),(cT st 1 21),(cT st 1 22),(cT st 1 23),(cT st 1 24),(cT st 1 25),(cT st 1 26),(cT st 1 27),(cT st 1 28),(cT st 1 29),(cT st 1 30),(cT st 1 31),(cT st 1 32),(cT st 1 33),(cT st 1 34),(cT st 1 35),(cT st 1 36),(cT st 1 37),(cT st 1 38),(cT st 1 39),(cT st 1 40),(cT st 1 41),(cT st 1 42),(cT st 1 43),(cT st 1 44),(cT st 1 45),(cT st 1 46),(cT st 1 47),(cT st 1 48)]]⟩,⟨true,27,25, .gen [[(cT st 2 0),(cT st 2 1),(cT st 2 2),(cT st 2 3),(cT st 2 4),(cT st 2 5),(cT st 2 6),(cT st 2 7),(cT st 2 8),(cT st 2 9),(cT st 2 10),(cT st 2 11),(cT st 2 12),(cT st 2 13),(cT st 2 14),(cT st 2 15),(cT st 2 16),(cT st 2 17),(cT st 2 18),(cT st 2 19),(cT st 2 20),(cT st 2 21),(cT st 2 22),(cT st 2 23),(cT st 2 24)]]⟩])
 a0:=λst=>(lk st 4).toInt
 ex0:=λst=>[]++[(Q0r (lk st 1) (st.rows.length+0)),(Q0r (lk st 2) (st.rows.length+1))]
 next:=λst=>(lk st 4).toInt
 ex:=λst=>[]++[(Q0r (lk st 1) (st.rows.length+0)),(Q0r (lk st 2) (st.rows.length+1))]}
def Qok:List (Nat×LInv):=[(5,Qr2)]
def Qts:Q0d:=mkP 102 [] true [.agg Q01.sig] [] (λargs rows=>Q8b (Q01.of (args.getD 0 .dead).cells)) (λargs rows=>Q0l (Q01.of (args.getD 0 .dead).cells)) (λX=> .agg (Q02.cells X)) (λX=>[])
theorem Qcs:Q05 Tryz.prog Qts:=Q0k Q0j Q0i (.cons Qo4 (.cons Qk6 (.nil))) Tryz.func102 Tryz.call102 (λargs rows=>Q58 (Q01.of (args.getD 0 .dead).cells)) [] Qok 3 (λ_ _ _=>by kernel_rfl) (λ_ _=>rfl) (λ_ _ h=>h) (λ_ X=>by kernel_rfl)
def Qgk(m:Q01):Tree Bool:=
.an (Q8b m) (.lv (Q0l m) λ(x0:Q02)=> .br (iand u32 x0.B5.a0 (1:Int)==(0:Int)) (.lf false) (.an (Qdw m.Mem x0.Pc 4) (.lv (Q1e m.Mem x0.Pc 4) λ(x1:Int×Bool)=> .lv (Q2 x1.1) λ(x2:Q0h×Bool)=> .br x1.2 (.br x2.2 (.br (x2.1.Op==60) (.lf (x2.1.Imm==2)) (.lf false)) (.lf false)) (.lf false))))
def Qkt(m:Q01):Bool:=(Qgk m).m
abbrev Qkd(m:Q01):Prop:=(Qgk m).p
def Zel:Q0d:=mkP 82 [] true [.agg Q01.sig] [] (λargs rows=>Qkd (Q01.of (args.getD 0 .dead).cells)) (λargs rows=>Qkt (Q01.of (args.getD 0 .dead).cells)) (λX=> .bool X) (λX=>[])
theorem Qsu:Q05 Tryz.prog Zel:=Q0k Q0j Q0i (.cons Qcs (.cons Qog (.cons Qq0 (.nil)))) Tryz.func82 Tryz.call82 (λargs rows=>Qgk (Q01.of (args.getD 0 .dead).cells)) [] [] 2 (λ_ _ _=>by kernel_rfl) (λ_ _=>rfl) (λ_ _ h=>h) (λ_ X=>by kernel_rfl)
def Q8i(m:Q01):Tree Bool:=
.an (Qfj m) (.lv (Q1c m) λ(x0:Bool)=> .br x0 (.lf false) (.an (Qkd m) (.lv (Qkt m) λ(x1:Bool)=> .lf x1)))
def Q4(m:Q01):Bool:=(Q8i m).m
abbrev Qcp(m:Q01):Prop:=(Q8i m).p
def Qud:Q0d:=mkP 63 [] true [.agg Q01.sig] [] (λargs rows=>Qcp (Q01.of (args.getD 0 .dead).cells)) (λargs rows=>Q4 (Q01.of (args.getD 0 .dead).cells)) (λX=> .bool X) (λX=>[])
theorem Qth:Q05 Tryz.prog Qud:=Q0k Q0j Q0i (.cons Qu6 (.cons Qsu (.nil))) Tryz.func63 Tryz.call63 (λargs rows=>Q8i (Q01.of (args.getD 0 .dead).cells)) [] [] 2 (λ_ _ _=>by kernel_rfl) (λ_ _=>rfl) (λ_ _ h=>h) (λ_ X=>by kernel_rfl)
def Q49(c:Q0c)(port:Int):Tree (Q0c×Int):=
let T1:Tree ((Q0c×Int)):= .br (port==0) (.cn (decide ((0:Int)≤(1:Int)∧1≤(c.D1.length:Int)∧(c.D1.length:Int)≤(c.D1.length:Int))) (.cn (decide ((0:Int)≤(0:Int)∧0<(c.D1.length:Int))) (.lf ({D1:=List.take (Int.toNat (c.D1.length:Int)-Int.toNat 1) (List.drop (Int.toNat 1) c.D1)},wrap u32 (↑(UInt8.toNat (c.D1.getD (Int.toNat 0) (0:UInt8))):Int))))) (.br (port==1) (.lf (c,wrap u32 (c.D1.length:Int))) (.lf (c,0))); .br (port==0) (.br ((c.D1.length:Int)==(0:Int)) (.lf (c,4294967295)) T1) T1
def Q6a(c:Q0c)(port:Int):(Q0c×Int):=(Q49 c port).m
theorem Qsy(c:Q0c)(port:Int):(Q49 c port).p:=by
 unfold Tree.p Q49
 repeat'(first|exact trivial|refine w_br (λ_=> ?_) (λ_=> ?_)|refine w_cn ?_ ?_|refine w_an ?_ ?_|refine w_lv (λ_ _=> ?_)|refine w_nx ?_|refine w_lf ?_|refine And.intro ?_ ?_)
 all_goals(((subst_vars;first|trivial|assumption|omega|((simp(config:={decide:=true,failIfUnchanged:=false}) only[Bool.and_eq_true,Bool.or_eq_true,Bool.and_eq_false_iff,Bool.or_eq_false_iff,Bool.not_eq_true',Bool.not_eq_false',Bool.not_eq_true,Bool.not_eq_false,decide_eq_true_eq,decide_eq_false_iff_not,Q6q,Q4d,Q6r,Q4c,beq_iff_eq,beq_eq_false_iff_ne,bne_iff_ne,bne_eq_false_iff_eq,ne_eq,List.all_cons,List.all_nil,D.plain,List.length_cons,List.length_nil,List.length_append,List.length_set,List.length_replicate,IntKind.wrap_i64,IntKind.wrap_u64,IntKind.wrap_u32,IntKind.wrap_i32,IntKind.wrap_u8,true_and,and_true,or_false,false_or,or_true,true_or,not_true_eq_false,not_false_eq_true,Prod.fst,Prod.snd]at*);first|done|assumption|omega)|((simp(config:={decide:=true,failIfUnchanged:=false}) only[Bool.and_eq_true,Bool.or_eq_true,Bool.and_eq_false_iff,Bool.or_eq_false_iff,Bool.not_eq_true',Bool.not_eq_false',Bool.not_eq_true,Bool.not_eq_false,decide_eq_true_eq,decide_eq_false_iff_not,Q6q,Q4d,Q6r,Q4c,beq_iff_eq,beq_eq_false_iff_ne,bne_iff_ne,bne_eq_false_iff_eq,ne_eq,List.all_cons,List.all_nil,D.plain,List.length_cons,List.length_nil,List.length_append,List.length_set,List.length_replicate,IntKind.wrap_i64,IntKind.wrap_u64,IntKind.wrap_u32,IntKind.wrap_i32,IntKind.wrap_u8,true_and,and_true,or_false,false_or,or_true,true_or,not_true_eq_false,not_false_eq_true,Prod.fst,Prod.snd]at*);simp only[←List.length_pos_iff]at*;omega)|(simp_all;done)|(have:= @Qjh;simp_all;try omega))))
def Qyn:Q0d:=mkR 153 [] true [.agg Q0c.sig, .one (.int .i64)] [] (λargs rows=>Q6a (Q0c.of (args.getD 0 .dead).cells) (argI args 1)) (λX=> .tup [.agg (Q0c.cells (X.1)), .int .u32 (X.2)]) (λX=>[])
theorem Ql4:Q05 Tryz.prog Qyn:=Q11 Q0j Q0i (.nil) Tryz.func153 Tryz.call153 (λargs rows=>Q49 (Q0c.of (args.getD 0 .dead).cells) (argI args 1)) [] [] 2 (λ_ _ _=>by kernel_rfl) (λ_ _=>rfl) (λargs rows=>Qsy (Q0c.of (args.getD 0 .dead).cells) (argI args 1)) (λ_ X=>by kernel_rfl)
def Qfk(t:Q0f):Tree Int:=
.br t.D3 (.lf 1) (.lf 0)
def Qg6(t:Q0f):Int:=(Qfk t).m
def Z3k:Q0d:=mkR 154 [] true [.agg Q0f.sig] [] (λargs rows=>Qg6 (Q0f.of (args.getD 0 .dead).cells)) (λX=> .int .u32 X) (λX=>[])
theorem Qol:Q05 Tryz.prog Z3k:=Q11 Q0j Q0i (.nil) Tryz.func154 Tryz.call154 (λargs rows=>Qfk (Q0f.of (args.getD 0 .dead).cells)) [] [] 2 (λ_ _ _=>by kernel_rfl) (λ_ _=>rfl) (λ_ _=>Tree.free_ok (by kernel_rfl)) (λ_ X=>by kernel_rfl)
def Qhj(d0:Q0e)(port:Int):Tree Int:=
.br (port==4) (.lf d0.C1) (.br (port==5) (.lf d0.B4) (.br (port==6) (.lf (wrap u32 d0.C0)) (.lf 0)))
def Qj5(d0:Q0e)(port:Int):Int:=(Qhj d0 port).m
def Za6:Q0d:=mkR 155 [] true [.agg Q0e.sig, .one (.int .i64)] [] (λargs rows=>Qj5 (Q0e.of (args.getD 0 .dead).cells) (argI args 1)) (λX=> .int .u32 X) (λX=>[])
theorem Qq7:Q05 Tryz.prog Za6:=Q11 Q0j Q0i (.nil) Tryz.func155 Tryz.call155 (λargs rows=>Qhj (Q0e.of (args.getD 0 .dead).cells) (argI args 1)) [] [] 2 (λ_ _ _=>by kernel_rfl) (λ_ _=>rfl) (λ_ _=>Tree.free_ok (by kernel_rfl)) (λ_ X=>by kernel_rfl)
def Qgd(n:Q0n)(port:Int):Tree Int:=
.br (port==7) (.lf n.B4) (.br (port==8) (.lf n.F1) (.br (port==9) (.br n.C7 (.br n.B7 (.lf (wrap u32 ((1:Int)+(2:Int)))) (.lf 1)) (.br n.B7 (.lf (wrap u32 ((0:Int)+(2:Int)))) (.lf 0))) (.lf 0)))
def Qhq(n:Q0n)(port:Int):Int:=(Qgd n port).m
def Zbp:Q0d:=mkR 156 [] true [.agg Q0n.sig, .one (.int .i64)] [] (λargs rows=>Qhq (Q0n.of (args.getD 0 .dead).cells) (argI args 1)) (λX=> .int .u32 X) (λX=>[])
theorem Qsd:Q05 Tryz.prog Zbp:=Q11 Q0j Q0i (.nil) Tryz.func156 Tryz.call156 (λargs rows=>Qgd (Q0n.of (args.getD 0 .dead).cells) (argI args 1)) [] [] 2 (λ_ _ _=>by kernel_rfl) (λ_ _=>rfl) (λ_ _=>Tree.free_ok (by kernel_rfl)) (λ_ X=>by kernel_rfl)
def Q76(b:Q07)(port:Int):Tree Int:=
.br (port==10) (.lf b.C9) (.br (port==11) (.lv (Qex b) λ(x0:Int)=> .lf (wrap u32 x0)) (.lf 0))
def Q64(b:Q07)(port:Int):Int:=(Q76 b port).m
def Qyu:Q0d:=mkR 157 [] true [.agg Q07.sig, .one (.int .i64)] [] (λargs rows=>Q64 (Q07.of (args.getD 0 .dead).cells) (argI args 1)) (λX=> .int .u32 X) (λX=>[])
theorem Ql8:Q05 Tryz.prog Qyu:=Q11 Q0j Q0i (.cons Qsi (.nil)) Tryz.func157 Tryz.call157 (λargs rows=>Q76 (Q07.of (args.getD 0 .dead).cells) (argI args 1)) [] [] 2 (λ_ _ _=>by kernel_rfl) (λ_ _=>rfl) (λ_ _=>Tree.free_ok (by kernel_rfl)) (λ_ X=>by kernel_rfl)
def Qlo(m:Q01)(port:Int)(clock:Int):Tree (Int×Q01):=
.br (decide (port≤1)) (.lv (Q6a m.A3 port) λ(x0:Q0c×Int)=> .lf (x0.2,{B2:=m.B2,Mem:=m.Mem,A3:=x0.1,A9:=m.A9,B1:=m.B1,C2:=m.C2,A1:=m.A1,A6:=m.A6,A4:=m.A4,A7:=m.A7})) (.br (port==2) (.lf (clock,m)) (.br (port==3) (.lv (Qg6 m.A9) λ(x1:Int)=> .lf (x1,m)) (.br (decide (port≤6)) (.lv (Qj5 m.B1 port) λ(x2:Int)=> .lf (x2,m)) (.br (decide (port≤9)) (.lv (Qhq m.C2 port) λ(x3:Int)=> .lf (x3,m)) (.lv (Q64 m.A1 port) λ(x4:Int)=> .lf (x4,m))))))
def Qdp(m:Q01)(port:Int)(clock:Int):(Int×Q01):=(Qlo m port clock).m
def ref7_in_m:Q0d:=mkR 104 [true,false,false] true [.ptr 0, .one (.int .i64), .one (.int .u32)] [.box 41 49 (Q01.sigW (.row 1)), .arr 23 1 (.ints .u32)] (λargs rows=>Qdp (Q01.ofW (rows.getD 0 default).cs (rowL .u32 rows 1)) (argI args 1) (argI args 2)) (λX=> .int .u32 (X.1)) (λX=>[⟨true,41,49, .gen [(Q01.cellsW (X.2) (.all 1))]⟩,⟨false,23,1, .ints .u32 (X.2).Mem⟩])
theorem Zli:Q05 Tryz.prog ref7_in_m:=Q11 Q0j Q0i (.cons Ql4 (.cons Qol (.cons Qq7 (.cons Qsd (.cons Ql8 (.nil)))))) Tryz.func104 Tryz.call104 (λargs rows=>Qlo (Q01.ofW (rows.getD 0 default).cs (rowL .u32 rows 1)) (argI args 1) (argI args 2)) [.row 23 1 (.ints .u32)] [] 2 (λ_ _ _=>by kernel_rfl) (λ_ _=>rfl) (λ_ _=>Tree.free_ok (by kernel_rfl)) (λ_ X=>by kernel_rfl)
def Qw(deadline:Int):Tree Q0f:=
.br (deadline==0) (.lf ({D4:=false,C8:=0,D3:=false})) (.lf ({D4:=true,C8:=deadline,D3:=false}))
def Qt1(deadline:Int):Q0f:=(Qw deadline).m
def Zmn:Q0d:=mkR 158 [] true [.one (.int .u32)] [] (λargs rows=>Qt1 (argI args 0)) (λX=> .agg (Q0f.cells X)) (λX=>[])
theorem Z00:Q05 Tryz.prog Zmn:=Q11 Q0j Q0i (.nil) Tryz.func158 Tryz.call158 (λargs rows=>Qw (argI args 0)) [] [] 2 (λ_ _ _=>by kernel_rfl) (λ_ _=>rfl) (λ_ _=>Tree.free_ok (by kernel_rfl)) (λ_ X=>by kernel_rfl)
def Qrv(x:Int)(n:Int)(z:(Int)×(List Int)):Prop:=0≤z.1∧(z.2.length:Int)=z.1∧(z.1≤n∨z.1=0)
def Qfc(x:Int)(n:Int)(z:(Int)×(List Int)):Nat:=(n-z.1).toNat
def Qht(x:Int)(n:Int):Tree (List UInt8):=
.lp inferInstance (Qfc x n (0,[])+1) ((rE (x:Int)∧rE (n:Int)∧True∧rE (0:Int)∧True)∧rE ([]:List Int)∧True) (0,[]) λ(v0:Int×List Int)=> .br (decide (v0.1<n)) (.cn (decide (0≤wrap u64 (wrap i64 (8*v0.1)))) (.cn (decide (1*(v0.2.length+1)≤140737488355328)) (.nx ((rE (x:Int)∧rE (n:Int)∧True∧rE ((wrap i64 (v0.1+1)):Int)∧True)∧rE ((v0.2++[wrap u8 (ishr u32 x (wrap u64 (wrap i64 (8*v0.1))))]):List Int)∧True) (Sum.inl (wrap i64 (v0.1+1),v0.2++[wrap u8 (ishr u32 x (wrap u64 (wrap i64 (8*v0.1))))]))))) (.lf (Sum.inr (bytesOf v0.2)))
def Z93(x:Int)(n:Int):(List UInt8):=(Qht x n).m
def Qju(x:Int)(n:Int):Prop:=
n≤1000000000000
theorem Zc9(x:Int)(n:Int)(hw:Qju x n):(Qht x n).p:=by
 simp only[Qju]at hw
 unfold Tree.p Qht
 repeat'(first|refine w_lp (inv:=Qrv x n) (μ:=Qfc x n) ?_ (Nat.lt_succ_self _) (λ_ _=> ?_)|exact trivial|refine w_br (λ_=> ?_) (λ_=> ?_)|refine w_cn ?_ ?_|refine w_an ?_ ?_|refine w_lv (λ_ _=> ?_)|refine w_nx ?_|refine w_lf ?_|refine And.intro ?_ ?_)
 all_goals((try simp only[Qrv,Qfc]at*);((subst_vars;first|trivial|assumption|omega|((simp(config:={decide:=true,failIfUnchanged:=false}) only[Bool.and_eq_true,Bool.or_eq_true,Bool.and_eq_false_iff,Bool.or_eq_false_iff,Bool.not_eq_true',Bool.not_eq_false',Bool.not_eq_true,Bool.not_eq_false,decide_eq_true_eq,decide_eq_false_iff_not,Q6q,Q4d,Q6r,Q4c,beq_iff_eq,beq_eq_false_iff_ne,bne_iff_ne,bne_eq_false_iff_eq,ne_eq,List.all_cons,List.all_nil,D.plain,List.length_cons,List.length_nil,List.length_append,List.length_set,List.length_replicate,IntKind.wrap_i64,IntKind.wrap_u64,IntKind.wrap_u32,IntKind.wrap_i32,IntKind.wrap_u8,true_and,and_true,or_false,false_or,or_true,true_or,not_true_eq_false,not_false_eq_true,Prod.fst,Prod.snd]at*);first|done|assumption|omega)|((simp(config:={decide:=true,failIfUnchanged:=false}) only[Bool.and_eq_true,Bool.or_eq_true,Bool.and_eq_false_iff,Bool.or_eq_false_iff,Bool.not_eq_true',Bool.not_eq_false',Bool.not_eq_true,Bool.not_eq_false,decide_eq_true_eq,decide_eq_false_iff_not,Q6q,Q4d,Q6r,Q4c,beq_iff_eq,beq_eq_false_iff_ne,bne_iff_ne,bne_eq_false_iff_eq,ne_eq,List.all_cons,List.all_nil,D.plain,List.length_cons,List.length_nil,List.length_append,List.length_set,List.length_replicate,IntKind.wrap_i64,IntKind.wrap_u64,IntKind.wrap_u32,IntKind.wrap_i32,IntKind.wrap_u8,true_and,and_true,or_false,false_or,or_true,true_or,not_true_eq_false,not_false_eq_true,Prod.fst,Prod.snd]at*);simp only[←List.length_pos_iff]at*;omega)|(simp_all;done)|(have:= @Qjh;simp_all;try omega))))
def Zhk:LInv:={
 α:=(Int)×(List Int)
 F:=λst a=>([(0,(lk st 0)),(1,(lk st 1)),(5, .all 0),(6, .int i64 a.1)],[⟨false,5,1, .ints u8 a.2⟩])
 a0:=λst=>((lk st 6).toInt,(Q67 st.rows (rN st 5)))
 ex0:=λst=>[]++[(Q0r (lk st 5) (st.rows.length+0))]
 next:=λst=>((lk st 6).toInt,(Q67 st.rows (rN st 5)))
 ex:=λst=>[]++[(Q0r (lk st 5) (st.rows.length+0))]}
def Z8e:List (Nat×LInv):=[(3,Zhk)]
def Zlv:Q0d:=mkP 242 [] true [.one (.int .u32), .one (.int .i64)] [] (λargs rows=>Qju (argI args 0) (argI args 1)) (λargs rows=>Z93 (argI args 0) (argI args 1)) (λX=> .str X) (λX=>[])
theorem Zh8:Q05 Tryz.prog Zlv:=Q0k Q0j Q0i (.nil) Tryz.func242 Tryz.call242 (λargs rows=>Qht (argI args 0) (argI args 1)) [] Z8e 3 (λ_ _ _=>by kernel_rfl) (λ_ _=>rfl) (λargs rows h=>Zc9 (argI args 0) (argI args 1) h) (λ_ X=>by kernel_rfl)
def Qit(m:(List Int))(frame:Int)(z:(Int)×(List Int)):Nat:=(32-z.1).toNat
def Qab(m:(List Int))(frame:Int):Tree ((List UInt8)×Bool):=
.br (decide (frame<0)) (.lf ([],false)) (.lv (Q4m m) λ(x0:Int)=> .br (decide (frame≥x0)) (.lf ([],false)) (.lp inferInstance (Qit m frame (0,[])+1) ((((Els.Nil (Els.ints u32 m)∨rE (1:Nat))∧rE (m:List Int))∧rE (frame:Int)∧True∧rE (0:Int)∧True)∧rE ([]:List Int)∧True) (0,[]) λ(v0:Int×List Int)=> .br (decide (v0.1<32)) (.cn (Nat.beq 1 1&&Nat.blt 0 1&&decide (0≤wrap i64 (wrap i64 (frame*32)+v0.1)∧wrap i64 (wrap i64 (frame*32)+v0.1)<(m.length:Int))) (let E1:=m.getD (Int.toNat (wrap i64 (wrap i64 (frame*32)+v0.1))) 0; .an (Qju E1 4) (.lv (Z93 E1 4) λ(x1:List UInt8)=> .cn (decide (1*(v0.2.length+List.length (Qc2 x1))≤140737488355328)) (.nx ((((Els.Nil (Els.ints u32 m)∨rE (1:Nat))∧rE (m:List Int))∧rE (frame:Int)∧True∧rE ((wrap i64 (v0.1+1)):Int)∧True)∧rE ((v0.2++Qc2 x1):List Int)∧True) (Sum.inl (wrap i64 (v0.1+1),v0.2++Qc2 x1)))))) (.lf (Sum.inr (bytesOf v0.2,true)))))
def Qip(m:(List Int))(frame:Int):((List UInt8)×Bool):=(Qab m frame).m
abbrev Qh6(m:(List Int))(frame:Int):Prop:=(Qab m frame).p
def Zbx:LInv:={
 α:=(Int)×(List Int)
 F:=λst a=>([(0,(lk st 0)),(1,(lk st 1)),(6, .all 0),(7, .int i64 a.1)],[⟨false,5,1, .ints u8 a.2⟩])
 a0:=λst=>((lk st 7).toInt,(Q67 st.rows (rN st 6)))
 ex0:=λst=>[]++[(Q0r (lk st 6) (st.rows.length+0))]
 next:=λst=>((lk st 7).toInt,(Q67 st.rows (rN st 6)))
 ex:=λst=>[]++[(Q0r (lk st 6) (st.rows.length+0))]}
def Z3r:List (Nat×LInv):=[(5,Zbx)]
def Zhc:Q0d:=mkP 212 [] true [.one (.ints .u32), .one (.int .i64)] [] (λargs rows=>Qh6 (argL .u32 args 0) (argI args 1)) (λargs rows=>Qip (argL .u32 args 0) (argI args 1)) (λX=> .tup [.str (X.1), .bool (X.2)]) (λX=>[])
theorem Qxh:Q05 Tryz.prog Zhc:=Q0k Q0j Q0i (.cons Qdj (.cons Zh8 (.nil))) Tryz.func212 Tryz.call212 (λargs rows=>Qab (argL .u32 args 0) (argI args 1)) [] Z3r 3 (λ_ _ _=>by kernel_rfl) (λ_ _=>rfl) (λ_ _ h=>h) (λ_ X=>by kernel_rfl)
def Qqe(d0:Q0e)(at0:Int):Tree (Q04×Bool):=
.br (d0.C0 !=1) (.lf ({B8:=0,At:=0,C1:=0,C6:=[]},false)) (.br (d0.D7==1) (.lf ({B8:=3,At:=at0,C1:=d0.B6,C6:=[]},true)) (.br (d0.D7==2) (.lf ({B8:=4,At:=at0,C1:=d0.B6,C6:=d0.C4},true)) (.lf ({B8:=0,At:=0,C1:=0,C6:=[]},false))))
def Qk(d0:Q0e)(at0:Int):(Q04×Bool):=(Qqe d0 at0).m
def Z3q:Q0d:=mkR 213 [] true [.agg Q0e.sig, .one (.int .u64)] [] (λargs rows=>Qk (Q0e.of (args.getD 0 .dead).cells) (argI args 1)) (λX=> .tup [.agg (Q04.cells (X.1)), .bool (X.2)]) (λX=>[])
theorem Z1b:Q05 Tryz.prog Z3q:=Q11 Q0j Q0i (.nil) Tryz.func213 Tryz.call213 (λargs rows=>Qqe (Q0e.of (args.getD 0 .dead).cells) (argI args 1)) [] [] 2 (λ_ _ _=>by kernel_rfl) (λ_ _=>rfl) (λ_ _=>Tree.free_ok (by kernel_rfl)) (λ_ X=>by kernel_rfl)
def Q9x(d0:Q0e)(m:(List Int))(port:Int)(v:Int)(at0:Int):Tree (Q0e×(List Q04)):=
.br (port==4) (.lf ({Blocks:=d0.Blocks,C1:=v,B4:=d0.B4,C0:=d0.C0,D7:=d0.D7,B6:=d0.B6,B3:=d0.B3,C4:=d0.C4},[])) (.br (port==5) (.lf ({Blocks:=d0.Blocks,C1:=d0.C1,B4:=v,C0:=d0.C0,D7:=d0.D7,B6:=d0.B6,B3:=d0.B3,C4:=d0.C4},[])) (.br (port !=6) (.lf (d0,[])) (let T1:Tree ((Q0e×(List Q04))):= .br (d0.C0==0) (let T2:Tree ((Q0e×(List Q04))):= .lf ({Blocks:=d0.Blocks,C1:=d0.C1,B4:=d0.B4,C0:=3,D7:=d0.D7,B6:=d0.B6,B3:=d0.B3,C4:=d0.C4},[]); .br (decide (d0.C1≥d0.Blocks)) T2 (.lv (Q2b m d0.B4) λ(x0:Bool)=> .br (!x0) T2 (.br (v==2) (.an (Qh6 m (wrap i64 d0.B4)) (.lv (Qip m (wrap i64 d0.B4)) λ(x1:List UInt8×Bool)=>let E4:=({Blocks:=d0.Blocks,C1:=d0.C1,B4:=d0.B4,C0:=1,D7:=wrap i64 v,B6:=d0.C1,B3:=d0.B4,C4:=x1.1}:Q0e); .lv (Qk E4 at0) λ(x2:Q04×Bool)=> .lf (E4,[x2.1]))) (let E5:=({Blocks:=d0.Blocks,C1:=d0.C1,B4:=d0.B4,C0:=1,D7:=wrap i64 v,B6:=d0.C1,B3:=d0.B4,C4:=[]}:Q0e); .lv (Qk E5 at0) λ(x3:Q04×Bool)=> .lf (E5,[x3.1]))))) (.lf (d0,[])); .br (v==0) (let T3:Tree ((Q0e×(List Q04))):= .lf ({Blocks:=d0.Blocks,C1:=d0.C1,B4:=d0.B4,C0:=0,D7:=d0.D7,B6:=d0.B6,B3:=d0.B3,C4:=d0.C4},[]); .br (d0.C0==2) T3 (.br (d0.C0==3) T3 (.br (v==1) T1 (.br (v==2) T1 (.lf (d0,[])))))) (.br (v==1) T1 (.br (v==2) T1 (.lf (d0,[])))))))
def Qfz(d0:Q0e)(m:(List Int))(port:Int)(v:Int)(at0:Int):(Q0e×(List Q04)):=(Q9x d0 m port v at0).m
abbrev Qgz(d0:Q0e)(m:(List Int))(port:Int)(v:Int)(at0:Int):Prop:=(Q9x d0 m port v at0).p
def Z34:Q0d:=mkP 159 [] true [.agg Q0e.sig, .one (.ints .u32), .one (.int .i64), .one (.int .u32), .one (.int .u64)] [] (λargs rows=>Qgz (Q0e.of (args.getD 0 .dead).cells) (argL .u32 args 1) (argI args 2) (argI args 3) (argI args 4)) (λargs rows=>Qfz (Q0e.of (args.getD 0 .dead).cells) (argL .u32 args 1) (argI args 2) (argI args 3) (argI args 4)) (λX=> .tup [.agg (Q0e.cells (X.1)), .sl 4 (.recs .apiOutput (X.2)) true]) (λX=>[])
theorem Qo1:Q05 Tryz.prog Z34:=Q0k Q0j Q0i (.cons Qg9 (.cons Qxh (.cons Z1b (.nil)))) Tryz.func159 Tryz.call159 (λargs rows=>Q9x (Q0e.of (args.getD 0 .dead).cells) (argL .u32 args 1) (argI args 2) (argI args 3) (argI args 4)) [.sl (.recs .apiOutput) true] [] 2 (λ_ _ _=>by kernel_rfl) (λ_ _=>rfl) (λ_ _ h=>h) (λ_ X=>by kernel_rfl)
def Qb7(n:Q0n)(m:(List Int))(port:Int)(v:Int)(at0:Int):Tree (Q0n×(List Q04)):=
.br (port==7) (.lf ({B4:=v,E0:=n.E0,C7:=n.C7,C3:=n.C3,B7:=n.B7,F1:=n.F1},[])) (.br (port==8) (.lf ({B4:=n.B4,E0:=v,C7:=n.C7,C3:=n.C3,B7:=n.B7,F1:=n.F1},[])) (.br (port !=9) (.lf (n,[])) (.br (v==0) (.lf ({B4:=n.B4,E0:=n.E0,C7:=n.C7,C3:=n.C3,B7:=false,F1:=0},[])) (let T1:Tree ((Q0n×(List Q04))):= .br (v==2) (.lv (Q2b m n.B4) λ(x2:Bool)=> .br x2 (.br (!n.C7) (.br (!n.B7) (.lf ({B4:=n.B4,E0:=n.E0,C7:=true,C3:=n.B4,B7:=n.B7,F1:=n.F1},[])) (.lf (n,[]))) (.lf (n,[]))) (.lf (n,[]))) (.lf (n,[])); .br (v==1) (.br (decide (n.E0≥1)) (.br (decide (n.E0≤128)) (.lv (Q2b m n.B4) λ(x0:Bool)=> .br x0 (.an (Qh6 m (wrap i64 n.B4)) (.lv (Qip m (wrap i64 n.B4)) λ(x1:List UInt8×Bool)=> .cn (decide ((0:Int)≤(0:Int)∧0≤n.E0∧n.E0≤(x1.1.length:Int))) (.lf (n,[{B8:=2,At:=at0,C1:=0,C6:=List.take (Int.toNat n.E0-Int.toNat 0) (List.drop (Int.toNat 0) x1.1)}])))) T1) T1) T1) T1))))
def Qj4(n:Q0n)(m:(List Int))(port:Int)(v:Int)(at0:Int):(Q0n×(List Q04)):=(Qb7 n m port v at0).m
abbrev Qj3(n:Q0n)(m:(List Int))(port:Int)(v:Int)(at0:Int):Prop:=(Qb7 n m port v at0).p
def Z82:Q0d:=mkP 160 [] true [.agg Q0n.sig, .one (.ints .u32), .one (.int .i64), .one (.int .u32), .one (.int .u64)] [] (λargs rows=>Qj3 (Q0n.of (args.getD 0 .dead).cells) (argL .u32 args 1) (argI args 2) (argI args 3) (argI args 4)) (λargs rows=>Qj4 (Q0n.of (args.getD 0 .dead).cells) (argL .u32 args 1) (argI args 2) (argI args 3) (argI args 4)) (λX=> .tup [.agg (Q0n.cells (X.1)), .sl 4 (.recs .apiOutput (X.2)) true]) (λX=>[])
theorem Qq9:Q05 Tryz.prog Z82:=Q0k Q0j Q0i (.cons Qg9 (.cons Qxh (.nil))) Tryz.func160 Tryz.call160 (λargs rows=>Qb7 (Q0n.of (args.getD 0 .dead).cells) (argL .u32 args 1) (argI args 2) (argI args 3) (argI args 4)) [.sl (.recs .apiOutput) true] [] 2 (λ_ _ _=>by kernel_rfl) (λ_ _=>rfl) (λ_ _ h=>h) (λ_ X=>by kernel_rfl)
def Qir(b:Q07)(m:(List Int))(port:Int)(v:Int)(z:(Int)×(List Int)):Nat:=(32-z.1).toNat
def Q5m(b:Q07)(m:(List Int))(port:Int)(v:Int):Tree (Q07×(List Int)):=
let T1:Tree ((Q07×(List Int))):= .br (port==11) (.br (decide (v<32)) (.cn (decide (0≤v)) (.lf ({C9:=b.C9,C5:=Qhf u32 b.C5 (ishl u32 1 v)},m))) (.lf (b,m))) (.lf (b,m)); .br (port==10) (.lv (Q2b m v) λ(x0:Bool)=> .br x0 (.cn (decide (0≤v)) (.br (iand u32 (ishr u32 b.C5 v) (1:Int)==(0:Int)) (.cn (decide (0≤v)) (.lp inferInstance (Qir b m port v (0,m)+1) ((True∧rE (v:Int)∧(rE (0:Nat)∧rE (0:Nat))∧(rE (0:Nat)∧rE (0:Nat))∧rE (0:Int)∧True)∧rE (m:List Int)∧(rE b.C9∧rE ((ior u32 b.C5 (ishl u32 1 v)):Int)∧True)∧(rE (0:Int)∧rE (0:Int)∧True)∧True) (0,m) λ(v0:Int×List Int)=> .br (decide (v0.1<32)) (let E2:=wrap i64 (wrap i64 v*32)+v0.1; .cn (Nat.beq 1 1&&Nat.blt 0 1&&decide (0≤wrap i64 E2∧wrap i64 E2<(v0.2.length:Int))) (.nx ((True∧rE (v:Int)∧(rE (0:Nat)∧rE (0:Nat))∧(rE (0:Nat)∧rE (0:Nat))∧rE ((wrap i64 (v0.1+1)):Int)∧True)∧rE ((List.set v0.2 (Int.toNat (wrap i64 (wrap i64 (wrap i64 v*32)+v0.1))) 0):List Int)∧(rE b.C9∧rE ((ior u32 b.C5 (ishl u32 1 v)):Int)∧True)∧(rE (0:Int)∧rE (0:Int)∧True)∧True) (Sum.inl (wrap i64 (v0.1+1),List.set v0.2 (Int.toNat (wrap i64 E2)) 0)))) (.lf (Sum.inr ({C9:=b.C9,C5:=ior u32 b.C5 (ishl u32 1 v)},v0.2))))) T1)) T1) T1
def Q7a(b:Q07)(m:(List Int))(port:Int)(v:Int):(Q07×(List Int)):=(Q5m b m port v).m
abbrev Qmj(b:Q07)(m:(List Int))(port:Int)(v:Int):Prop:=(Q5m b m port v).p
def Zas:LInv:={
 α:=(Int)×(List Int)
 F:=λst a=>([(1, .all 0),(3,(lk st 3)),(4, .ptr 1 0 0),(8, .ptr 2 0 0),(9, .int i64 a.1)],[⟨false,23,1, .ints u32 a.2⟩,⟨true,38,2, .gen [[(cT st 4 0),(cT st 4 1)]]⟩,⟨true,38,2, .gen [[(cT st 8 0),(cT st 8 1)]]⟩])
 a0:=λst=>((lk st 9).toInt,(Q67 st.rows 0))
 ex0:=λst=>[0]++[(Q0r (lk st 4) (st.rows.length+1)),(Q0r (lk st 8) (st.rows.length+2))]
 next:=λst=>((lk st 9).toInt,(Q67 st.rows 0))
 ex:=λst=>[0]++[(Q0r (lk st 4) (st.rows.length+1)),(Q0r (lk st 8) (st.rows.length+2))]}
def Z3w:List (Nat×LInv):=[(4,Zas)]
def Zgn:Q0d:=mkP 161 [false,true,false,false] true [.agg Q07.sig, .one (.row 0), .one (.int .i64), .one (.int .u32)] [.arr 23 1 (.ints .u32)] (λargs rows=>Qmj (Q07.of (args.getD 0 .dead).cells) (rowL .u32 rows 0) (argI args 2) (argI args 3)) (λargs rows=>Q7a (Q07.of (args.getD 0 .dead).cells) (rowL .u32 rows 0) (argI args 2) (argI args 3)) (λX=> .agg (Q07.cells (X.1))) (λX=>[⟨false,23,1, .ints .u32 (X.2)⟩])
theorem Qx8:Q05 Tryz.prog Zgn:=Q0k Q0j Q0i (.cons Qg9 (.nil)) Tryz.func161 Tryz.call161 (λargs rows=>Q5m (Q07.of (args.getD 0 .dead).cells) (rowL .u32 rows 0) (argI args 2) (argI args 3)) [] Z3w 3 (λ_ _ _=>by kernel_rfl) (λ_ _=>rfl) (λ_ _ h=>h) (λ_ X=>by kernel_rfl)
def Qen(m:Q01)(port:Int)(v:Int):Tree ((List Q04)×Q01):=
.br (port==0) (.lf ([{B8:=1,At:=m.A6,C1:=0,C6:=[(λ(n:Int)=>UInt8.ofNat n.toNat) (wrap u8 v)]}],m)) (.br (decide (port≤2)) (.lf ([],m)) (.br (port==3) (.lv (Qt1 v) λ(x0:Q0f)=> .lf ([],{B2:=m.B2,Mem:=m.Mem,A3:=m.A3,A9:=x0,B1:=m.B1,C2:=m.C2,A1:=m.A1,A6:=m.A6,A4:=m.A4,A7:=m.A7})) (.br (decide (port≤6)) (.an (Qgz m.B1 m.Mem port v m.A6) (.lv (Qfz m.B1 m.Mem port v m.A6) λ(x1:Q0e×List Q04)=> .lf (x1.2,{B2:=m.B2,Mem:=m.Mem,A3:=m.A3,A9:=m.A9,B1:=x1.1,C2:=m.C2,A1:=m.A1,A6:=m.A6,A4:=m.A4,A7:=m.A7}))) (.br (decide (port≤9)) (.an (Qj3 m.C2 m.Mem port v m.A6) (.lv (Qj4 m.C2 m.Mem port v m.A6) λ(x2:Q0n×List Q04)=> .lf (x2.2,{B2:=m.B2,Mem:=m.Mem,A3:=m.A3,A9:=m.A9,B1:=m.B1,C2:=x2.1,A1:=m.A1,A6:=m.A6,A4:=m.A4,A7:=m.A7}))) (.an (Qmj m.A1 m.Mem port v) (.lv (Q7a m.A1 m.Mem port v) λ(x3:Q07×List Int)=> .lf ([],{B2:=m.B2,Mem:=x3.2,A3:=m.A3,A9:=m.A9,B1:=m.B1,C2:=m.C2,A1:=x3.1,A6:=m.A6,A4:=m.A4,A7:=m.A7})))))))
def Qb5(m:Q01)(port:Int)(v:Int):((List Q04)×Q01):=(Qen m port v).m
abbrev Qx2(m:Q01)(port:Int)(v:Int):Prop:=(Qen m port v).p
def Zm4:Q0d:=mkP 106 [true,false,false] true [.ptr 0, .one (.int .i64), .one (.int .u32)] [.box 41 49 (Q01.sigW (.row 1)), .arr 23 1 (.ints .u32)] (λargs rows=>Qx2 (Q01.ofW (rows.getD 0 default).cs (rowL .u32 rows 1)) (argI args 1) (argI args 2)) (λargs rows=>Qb5 (Q01.ofW (rows.getD 0 default).cs (rowL .u32 rows 1)) (argI args 1) (argI args 2)) (λX=> .sl 4 (.recs .apiOutput (X.1)) true) (λX=>[⟨true,41,49, .gen [(Q01.cellsW (X.2) (.all 1))]⟩,⟨false,23,1, .ints .u32 (X.2).Mem⟩])
theorem Zf:Q05 Tryz.prog Zm4:=Q0k Q0j Q0i (.cons Z00 (.cons Qo1 (.cons Qq9 (.cons Qx8 (.nil))))) Tryz.func106 Tryz.call106 (λargs rows=>Qen (Q01.ofW (rows.getD 0 default).cs (rowL .u32 rows 1)) (argI args 1) (argI args 2)) [.sl (.recs .apiOutput) true, .row 23 1 (.ints .u32)] [] 2 (λ_ _ _=>by kernel_rfl) (λ_ _=>rfl) (λ_ _ h=>h) (λ_ X=>by kernel_rfl)
def Q9t(m:Q01)(clock:Int):Tree ((List Q04)×Q01):=
.an (Q8b m) (.lv (Q0l m) λ(x0:Q02)=> .an (Qr8 x0 m.Mem) (.lv (Q9b x0 m.Mem) λ(x1:Q02×Q14×List Int)=>let E1:=({B2:=x1.1,Mem:=x1.2.2,A3:=m.A3,A9:=m.A9,B1:=m.B1,C2:=m.C2,A1:=m.A1,A6:=m.A6,A4:=false,A7:=m.A7}:Q01); .br (x1.2.1.B8==1) (.lv (Qdp E1 x1.2.1.D0 clock) λ(x2:Int×Q01)=> .an (Q3p x2.2.B2 x1.2.1.D9 x2.1) (.lv (Q1w x2.2.B2 x1.2.1.D9 x2.1) λ(x3:Q02)=> .lf ([],{B2:=x3,Mem:=x2.2.Mem,A3:=x2.2.A3,A9:=x2.2.A9,B1:=x2.2.B1,C2:=x2.2.C2,A1:=x2.2.A1,A6:=wrap u64 (x2.2.A6+1),A4:=x2.2.A4,A7:=x2.2.A7}))) (.br (x1.2.1.B8==2) (.an (Qx2 E1 x1.2.1.D0 x1.2.1.Value) (.lv (Qb5 E1 x1.2.1.D0 x1.2.1.Value) λ(x4:List Q04×Q01)=> .lf (x4.1,{B2:=x4.2.B2,Mem:=x4.2.Mem,A3:=x4.2.A3,A9:=x4.2.A9,B1:=x4.2.B1,C2:=x4.2.C2,A1:=x4.2.A1,A6:=wrap u64 (x4.2.A6+1),A4:=x4.2.A4,A7:=x4.2.A7}))) (.br (x1.2.1.B8==3) (.lf ([],{B2:=x1.1,Mem:=x1.2.2,A3:=m.A3,A9:=m.A9,B1:=m.B1,C2:=m.C2,A1:=m.A1,A6:=wrap u64 (m.A6+1),A4:=true,A7:=m.A7})) (.br (x1.2.1.B8==4) (.lf ([],{B2:=x1.1,Mem:=x1.2.2,A3:=m.A3,A9:=m.A9,B1:=m.B1,C2:=m.C2,A1:=m.A1,A6:=wrap u64 (m.A6+1),A4:=false,A7:=true})) (.lf ([],{B2:=x1.1,Mem:=x1.2.2,A3:=m.A3,A9:=m.A9,B1:=m.B1,C2:=m.C2,A1:=m.A1,A6:=wrap u64 (m.A6+1),A4:=false,A7:=m.A7})))))))
def Q0u(m:Q01)(clock:Int):((List Q04)×Q01):=(Q9t m clock).m
abbrev Qn(m:Q01)(clock:Int):Prop:=(Q9t m clock).p
def Z4d:Q0d:=mkP 64 [true,false] true [.ptr 0, .one (.int .u32)] [.box 41 49 (Q01.sigW (.row 1)), .arr 23 1 (.ints .u32)] (λargs rows=>Qn (Q01.ofW (rows.getD 0 default).cs (rowL .u32 rows 1)) (argI args 1)) (λargs rows=>Q0u (Q01.ofW (rows.getD 0 default).cs (rowL .u32 rows 1)) (argI args 1)) (λX=> .sl 4 (.recs .apiOutput (X.1)) true) (λX=>[⟨true,41,49, .gen [(Q01.cellsW (X.2) (.all 1))]⟩,⟨false,23,1, .ints .u32 (X.2).Mem⟩])
theorem Z1v:Q05 Tryz.prog Z4d:=Q0k Q0j Q0i (.cons Qcs (.cons Z6 (.cons Zli (.cons Qf4 (.cons Zf (.nil)))))) Tryz.func64 Tryz.call64 (λargs rows=>Q9t (Q01.ofW (rows.getD 0 default).cs (rowL .u32 rows 1)) (argI args 1)) [.sl (.recs .apiOutput) true, .row 23 1 (.ints .u32)] [] 2 (λ_ _ _=>by kernel_rfl) (λ_ _=>rfl) (λ_ _ h=>h) (λ_ X=>by kernel_rfl)
end
end Go.Proofs.YtpcbkbalabgnlaaGreat

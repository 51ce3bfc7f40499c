/-
  Functions of the program: models, and that its calls come to them (by a program: gen3.py).
-/
import Derived.Test.YtpcbkbalabgnlaaGreatRecordClockBase
import Derived.Test.YtpcbkbalabgnlaaGreatRecordClockYe
set_option linter.unusedVariables false
set_option linter.unusedSimpArgs false
namespace Go.Proofs.YtpcbkbalabgnlaaGreat
open Go Go.GD Go.IntKind
set_option maxRecDepth 100000
noncomputable section
def Qe3(m:(List Int)):Tree (List Int):=
.cn (Nat.blt (0:Nat) (1:Nat)&&Nat.beq (1:Nat) (1:Nat)&&List.all [D.int u32 (0:Int)] D.plain&&decide ((0:Int)≤(m.length:Int)∧(m.length:Int)≤(m.length:Int)∧(m.length:Int)≤(9223372036854775807:Int)∧(↑(4:Nat):Int)*(m.length:Int)≤(140737488355328:Int))) (let E1:=List.length (List.replicate (Int.toNat (m.length:Int)) (0:Int)); .lf (List.take (Min.min (m.length) E1) m++List.drop (Min.min (m.length) E1) (List.replicate (Int.toNat (m.length:Int)) (0:Int))))
def Qrk(m:(List Int)):(List Int):=(Qe3 m).m
abbrev Qr8(m:(List Int)):Prop:=(Qe3 m).p
def Zco:Q0d:=mkP 83 [] true [.one (.ints .u32)] [] (λargs rows=>Qr8 (argL .u32 args 0)) (λargs rows=>Qrk (argL .u32 args 0)) (λX=> .all 0) (λX=>[⟨false,23,1, .ints .u32 X⟩])
theorem Zbc:Q05 Tryz.prog Zco:=Q0o Q0j Q0i (.nil) Tryz.func83 Tryz.call83 (λargs rows=>Qe3 (argL .u32 args 0)) [.row 23 1 (.ints .u32)] [] 2 (λ_ _ _=>by kernel_rfl) (λ_ _=>rfl) (λ_ _ h=>h) (λ_ X=>by kernel_rfl)
def Qg8(m:Q00):Tree Q00:=
.an (Qr8 m.Mem) (.lv (Qrk m.Mem) λ(x0:List Int)=> .lf ({B3:=m.B3,Mem:=x0,A3:=m.A3,B0:=m.B0,B1:=m.B1,C5:=m.C5,A1:=m.A1,A2:=m.A2,A7:=m.A7,A9:=m.A9}))
def Qny(m:Q00):Q00:=(Qg8 m).m
abbrev Qin(m:Q00):Prop:=(Qg8 m).p
def Zhy:Q0d:=mkP 43 [] true [.agg Q00.sig] [] (λargs rows=>Qin (Q00.of (args.getD 0 .dead).cells)) (λargs rows=>Qny (Q00.of (args.getD 0 .dead).cells)) (λX=> .agg (Q00.cellsW X (.all 0))) (λX=>[⟨false,23,1, .ints .u32 X.Mem⟩])
theorem Zez:Q05 Tryz.prog Zhy:=Q0o Q0j Q0i (.cons Zbc (.nil)) Tryz.func43 Tryz.call43 (λargs rows=>Qg8 (Q00.of (args.getD 0 .dead).cells)) [.row 23 1 (.ints .u32)] [] 2 (λ_ _ _=>by kernel_rfl) (λ_ _=>rfl) (λ_ _ h=>h) (λ_ X=>by kernel_rfl)
def Qov(n:Int)(k:Int)(z:(Int)×(List Int)):Prop:=0≤z.1∧(z.2.length:Int)=z.1∧(z.1≤k∨z.1=0)
def Qd6(n:Int)(k:Int)(z:(Int)×(List Int)):Nat:=(k-z.1).toNat
def Qdo(n:Int)(k:Int):Tree (List UInt8):=
.lp inferInstance (Qd6 n k (0,[])+1) ((rE (n:Int)∧rE (k:Int)∧True∧rE (0:Int)∧True)∧rE ([]:List Int)∧True) (0,[]) λ(v0:Int×List Int)=> .br (decide (v0.1<k)) (.lv (Q4q n (wrap i64 (Int.tdiv v0.1 9))) λ(x0:Int)=> .cn (decide (1*(v0.2.length+1)≤140737488355328)) (.nx ((rE (n:Int)∧rE (k:Int)∧True∧rE ((wrap i64 (v0.1+1)):Int)∧True)∧rE ((v0.2++[wrap u8 x0]):List Int)∧True) (Sum.inl (wrap i64 (v0.1+1),v0.2++[wrap u8 x0])))) (.lf (Sum.inr (bytesOf v0.2)))
def Qq9(n:Int)(k:Int):(List UInt8):=(Qdo n k).m
def Qai(n:Int)(k:Int):Prop:=
k≤1000000000000
theorem Z79(n:Int)(k:Int)(hw:Qai n k):(Qdo n k).p:=by
 simp only[Qai]at hw
 unfold Tree.p Qdo
 repeat'(first|refine w_lp (inv:=Qov n k) (μ:=Qd6 n k) ?_ (Nat.lt_succ_self _) (λ_ _=> ?_)|exact trivial|refine w_br (λ_=> ?_) (λ_=> ?_)|refine w_cn ?_ ?_|refine w_an ?_ ?_|refine w_lv (λ_ _=> ?_)|refine w_nx ?_|refine w_lf ?_|refine And.intro ?_ ?_)
 all_goals((try simp only[Qov,Qd6]at*);((subst_vars;first|trivial|assumption|omega|((simp(config:={decide:=true,failIfUnchanged:=false}) only[Bool.and_eq_true,Bool.or_eq_true,Bool.and_eq_false_iff,Bool.or_eq_false_iff,Bool.not_eq_true',Bool.not_eq_false',Bool.not_eq_true,Bool.not_eq_false,decide_eq_true_eq,decide_eq_false_iff_not,Q82,Q65,Q86,Q64,beq_iff_eq,beq_eq_false_iff_ne,bne_iff_ne,bne_eq_false_iff_eq,ne_eq,List.all_cons,List.all_nil,D.plain,List.length_cons,List.length_nil,List.length_append,List.length_set,List.length_replicate,IntKind.wrap_i64,IntKind.wrap_u64,IntKind.wrap_u32,IntKind.wrap_i32,IntKind.wrap_u8,true_and,and_true,or_false,false_or,or_true,true_or,not_true_eq_false,not_false_eq_true,Prod.fst,Prod.snd]at*);first|done|assumption|omega)|((simp(config:={decide:=true,failIfUnchanged:=false}) only[Bool.and_eq_true,Bool.or_eq_true,Bool.and_eq_false_iff,Bool.or_eq_false_iff,Bool.not_eq_true',Bool.not_eq_false',Bool.not_eq_true,Bool.not_eq_false,decide_eq_true_eq,decide_eq_false_iff_not,Q82,Q65,Q86,Q64,beq_iff_eq,beq_eq_false_iff_ne,bne_iff_ne,bne_eq_false_iff_eq,ne_eq,List.all_cons,List.all_nil,D.plain,List.length_cons,List.length_nil,List.length_append,List.length_set,List.length_replicate,IntKind.wrap_i64,IntKind.wrap_u64,IntKind.wrap_u32,IntKind.wrap_i32,IntKind.wrap_u8,true_and,and_true,or_false,false_or,or_true,true_or,not_true_eq_false,not_false_eq_true,Prod.fst,Prod.snd]at*);simp only[←List.length_pos_iff]at*;omega)|(simp_all;done)|(have:= @Qka;simp_all;try omega))))
def Zae:LInv:={
 α:=(Int)×(List Int)
 F:=λst a=>([(0,(lk st 0)),(1,(lk st 1)),(5, .all 0),(6, .int i64 a.1)],[⟨false,5,1, .ints u8 a.2⟩])
 a0:=λst=>((lk st 6).toInt,(Q7v st.rows (rN st 5)))
 ex0:=λst=>[]++[(Q11 (lk st 5) (st.rows.length+0))]
 next:=λst=>((lk st 6).toInt,(Q7v st.rows (rN st 5)))
 ex:=λst=>[]++[(Q11 (lk st 5) (st.rows.length+0))]}
def Z22:List (Nat×LInv):=[(3,Zae)]
def Zc8:Q0d:=mkP 46 [] true [.one (.int .i64), .one (.int .i64)] [] (λargs rows=>Qai (argI args 0) (argI args 1)) (λargs rows=>Qq9 (argI args 0) (argI args 1)) (λX=> .str X) (λX=>[])
theorem Zbw:Q05 Tryz.prog Zc8:=Q0o Q0j Q0i (.cons Qkh (.nil)) Tryz.func46 Tryz.call46 (λargs rows=>Qdo (argI args 0) (argI args 1)) [] Z22 3 (λ_ _ _=>by kernel_rfl) (λ_ _=>rfl) (λargs rows h=>Z79 (argI args 0) (argI args 1) h) (λ_ X=>by kernel_rfl)
def Qp4(r:Q01):Tree Q01:=
.an (Qin r.A0) (.lv (Qny r.A0) λ(x0:Q00)=> .cn (decide (40*(0+r.C4.length)≤140737488355328)) (.cn (decide (32*(0+r.A4.length)≤140737488355328)) (.lf ({A0:=x0,A6:=r.A6,C4:=r.C4,A4:=r.A4}))))
def Qr9(r:Q01):Q01:=(Qp4 r).m
abbrev Qqe(r:Q01):Prop:=(Qp4 r).p
def Qrz(e:Q09):Tree Bool:=
.br (e.B5==1) (.lf (decide (e.C6=[]))) (.br (e.B5==6) (.lf (decide (e.C6=[]))) (.br (e.B5==2) (.br (e.N==0) (.lf (decide (e.C6=[]))) (.lf false)) (.br (e.B5==3) (.br (decide (e.N≤255)) (.lf (decide (e.C6=[]))) (.lf false)) (.br (e.B5==4) (.br (decide (e.N≤1)) (.br (decide (e.C6=[])) (.lf true) (.br (e.N==1) (.lf ((e.C6.length:Int)==(128:Int))) (.lf false))) (.lf false)) (.br (e.B5==5) (.br (e.N==0) (.br (decide ((e.C6.length:Int)≥(1:Int))) (.lf (decide ((e.C6.length:Int)≤(128:Int)))) (.lf false)) (.lf false)) (.lf false))))))
def Q49(e:Q09):Bool:=(Qrz e).m
def Qj0(r:Q01)(e:Q09):Tree (Q01×Bool):=
.an (Qqe r) (.lv (Qr9 r) λ(x0:Q01)=> .lv (Q49 e) λ(x1:Bool)=> .br (!x1) (.lf (x0,false)) (.br (e.B5==1) (.lf (x0,false)) (.br (decide ((x0.A4.length:Int)≥(16:Int))) (.lf (x0,false)) (.cn (decide (32*(x0.A4.length+1)≤140737488355328)) (.lf ({A0:=x0.A0,A6:=x0.A6,C4:=x0.C4,A4:=x0.A4++[e]},true))))))
def Q2w(r:Q01)(e:Q09):(Q01×Bool):=(Qj0 r e).m
abbrev Qw3(r:Q01)(e:Q09):Prop:=(Qj0 r e).p
def Q9k(n:Int):Tree Q09:=
.lv (Q4q n 2) λ(x0:Int)=> .br (Int.tmod x0 (7:Int)==(0:Int)) (.lf ({B5:=2,N:=0,C6:=[]})) (.br (Int.tmod x0 (7:Int)==(1:Int)) (.lf ({B5:=3,N:=wrap u32 (iand i64 (ishr i64 x0 8) 255),C6:=[]})) (.br (Int.tmod x0 (7:Int)==(2:Int)) (.lf ({B5:=3,N:=wrap u32 (iand i64 (ishr i64 x0 8) 255),C6:=[]})) (.br (Int.tmod x0 (7:Int)==(3:Int)) (.lf ({B5:=4,N:=1,C6:=[]})) (.br (Int.tmod x0 (7:Int)==(4:Int)) (.an (Qai x0 128) (.lv (Qq9 x0 128) λ(x1:List UInt8)=> .lf ({B5:=4,N:=1,C6:=x1}))) (.br (Int.tmod x0 (7:Int)==(5:Int)) (let E1:=wrap i64 (1+Int.tmod (ishr i64 x0 8) 40); .an (Qai x0 E1) (.lv (Qq9 x0 E1) λ(x2:List UInt8)=> .lf ({B5:=5,N:=0,C6:=x2}))) (.br (Int.tmod (ishr i64 x0 8) (4:Int)==(0:Int)) (.lf ({B5:=4,N:=0,C6:=[]})) (.lf ({B5:=6,N:=wrap u32 (Int.tmod (ishr i64 x0 8) 3),C6:=[]}))))))))
def Q8w(n:Int):Q09:=(Q9k n).m
abbrev Qiu(n:Int):Prop:=(Q9k n).p
def Z8p:Q0d:=mkP 17 [] true [.one (.int .i64)] [] (λargs rows=>Qiu (argI args 0)) (λargs rows=>Q8w (argI args 0)) (λX=> .agg (Q09.cells X)) (λX=>[])
theorem Z7o:Q05 Tryz.prog Z8p:=Q0o Q0j Q0i (.cons Qkh (.cons Zbw (.nil))) Tryz.func17 Tryz.call17 (λargs rows=>Q9k (argI args 0)) [] [] 2 (λ_ _ _=>by kernel_rfl) (λ_ _=>rfl) (λ_ _ h=>h) (λ_ X=>by kernel_rfl)
def Qn3(m:(List Int)):Tree Int:=
.br (Int.tmod (m.length:Int) (32:Int) !=(0:Int)) (.lf 0) (.br (decide ((m.length:Int)>(1024:Int))) (.lf 0) (.lf (wrap i64 (Int.tdiv (m.length:Int) 32))))
def Q44(m:(List Int)):Int:=(Qn3 m).m
def Zb8:Q0d:=mkR 65 [] true [.one (.ints .u32)] [] (λargs rows=>Q44 (argL .u32 args 0)) (λX=> .int .i64 X) (λX=>[])
theorem Qcn:Q05 Tryz.prog Zb8:=Q0y Q0j Q0i (.nil) Tryz.func65 Tryz.call65 (λargs rows=>Qn3 (argL .u32 args 0)) [] [] 2 (λ_ _ _=>by kernel_rfl) (λ_ _=>rfl) (λ_ _=>Tree.free_ok (by kernel_rfl)) (λ_ X=>by kernel_rfl)
def Qjd(c:Q0b):Tree Bool:=
.lf (decide ((c.D2.length:Int)≤(16:Int)))
def Qi8(c:Q0b):Bool:=(Qjd c).m
def Qsx:Q0d:=mkR 66 [] true [.agg Q0b.sig] [] (λargs rows=>Qi8 (Q0b.of (args.getD 0 .dead).cells)) (λX=> .bool X) (λX=>[])
theorem Qq:Q05 Tryz.prog Qsx:=Q0y Q0j Q0i (.nil) Tryz.func66 Tryz.call66 (λargs rows=>Qjd (Q0b.of (args.getD 0 .dead).cells)) [] [] 2 (λ_ _ _=>by kernel_rfl) (λ_ _=>rfl) (λ_ _=>Tree.free_ok (by kernel_rfl)) (λ_ X=>by kernel_rfl)
def Qgu(t:Q0h):Tree Bool:=
.br t.D5 (.br t.D6 (.lf false) (.br t.D5 (.lf (t.C8 !=0)) (.br t.D6 (.lf true) (.lf (t.C8==0))))) (.br t.D5 (.lf (t.C8 !=0)) (.br t.D6 (.lf true) (.lf (t.C8==0))))
def Qcp(t:Q0h):Bool:=(Qgu t).m
def Qxj:Q0d:=mkR 67 [] true [.agg Q0h.sig] [] (λargs rows=>Qcp (Q0h.of (args.getD 0 .dead).cells)) (λX=> .bool X) (λX=>[])
theorem Qvq:Q05 Tryz.prog Qxj:=Q0y Q0j Q0i (.nil) Tryz.func67 Tryz.call67 (λargs rows=>Qgu (Q0h.of (args.getD 0 .dead).cells)) [] [] 2 (λ_ _ _=>by kernel_rfl) (λ_ _=>rfl) (λ_ _=>Tree.free_ok (by kernel_rfl)) (λ_ X=>by kernel_rfl)
def Qj5(d0:Q0c)(pages:Int):Tree Bool:=
.br (decide (d0.Blocks>64)) (.lf false) (.br (decide (d0.B9<0)) (.lf false) (.br (decide (d0.B9>3)) (.lf false) (.br (d0.B9 !=1) (.br (d0.D8==0) (.br (d0.B7==0) (.br (d0.B2==0) (.lf (decide (d0.C3=[]))) (.lf false)) (.lf false)) (.lf false)) (.br (decide (d0.B7≥d0.Blocks)) (.lf false) (.br (decide (wrap i64 d0.B2≥pages)) (.lf false) (.br (d0.D8==1) (.br (decide (d0.C3=[])) (.lf true) (.br (d0.D8==2) (.lf ((d0.C3.length:Int)==(128:Int))) (.lf false))) (.br (d0.D8==2) (.lf ((d0.C3.length:Int)==(128:Int))) (.lf false))))))))
def Qf8(d0:Q0c)(pages:Int):Bool:=(Qj5 d0 pages).m
def Z1r:Q0d:=mkR 68 [] true [.agg Q0c.sig, .one (.int .i64)] [] (λargs rows=>Qf8 (Q0c.of (args.getD 0 .dead).cells) (argI args 1)) (λX=> .bool X) (λX=>[])
theorem Qz6:Q05 Tryz.prog Z1r:=Q0y Q0j Q0i (.nil) Tryz.func68 Tryz.call68 (λargs rows=>Qj5 (Q0c.of (args.getD 0 .dead).cells) (argI args 1)) [] [] 2 (λ_ _ _=>by kernel_rfl) (λ_ _=>rfl) (λ_ _=>Tree.free_ok (by kernel_rfl)) (λ_ X=>by kernel_rfl)
def Qkl(n:Q0m)(pages:Int):Tree Bool:=
let T1:Tree (Bool):= .br n.B8 (.br (decide (n.F1≥1)) (.lf (decide (n.F1≤128))) (.lf false)) (.lf (n.F1==0)); .br n.C7 (.br n.B8 (.lf false) (.br (decide (wrap i64 n.C0≥pages)) (.lf false) (.br (!n.C7) (.br (n.C0 !=0) (.lf false) T1) T1))) (.br (!n.C7) (.br (n.C0 !=0) (.lf false) T1) T1)
def Qi6(n:Q0m)(pages:Int):Bool:=(Qkl n pages).m
def Z67:Q0d:=mkR 69 [] true [.agg Q0m.sig, .one (.int .i64)] [] (λargs rows=>Qi6 (Q0m.of (args.getD 0 .dead).cells) (argI args 1)) (λX=> .bool X) (λX=>[])
theorem Z1f:Q05 Tryz.prog Z67:=Q0y Q0j Q0i (.nil) Tryz.func69 Tryz.call69 (λargs rows=>Qkl (Q0m.of (args.getD 0 .dead).cells) (argI args 1)) [] [] 2 (λ_ _ _=>by kernel_rfl) (λ_ _=>rfl) (λ_ _=>Tree.free_ok (by kernel_rfl)) (λ_ X=>by kernel_rfl)
def Qfr(b:Q06)(pages:Int)(z:(Int)):Prop:=0≤z∧z≤32
def Q6o(b:Q06)(pages:Int)(z:(Int)):Nat:=(32-z).toNat
def Q5m(b:Q06)(pages:Int):Tree Bool:=
.lp inferInstance (Q6o b pages 0+1) ((rE (pages:Int)∧(rE (0:Nat)∧rE (0:Nat))∧rE (0:Int)∧True)∧(rE b.C9∧rE b.C2∧True)∧True) 0 λ(v0:Int)=> .br (decide (v0<32)) (.cn (decide (0≤wrap u64 v0)) (let T1:Tree ((Int)⊕(Bool)):= .nx ((rE (pages:Int)∧(rE (0:Nat)∧rE (0:Nat))∧rE ((wrap i64 (v0+1)):Int)∧True)∧(rE b.C9∧rE b.C2∧True)∧True) (Sum.inl (wrap i64 (v0+1))); .br (iand u32 (ishr u32 b.C2 (wrap u64 v0)) (1:Int)==(1:Int)) (.br (decide (v0≥pages)) (.lf (Sum.inr false)) T1) T1)) (.lf (Sum.inr true))
def Q9f(b:Q06)(pages:Int):Bool:=(Q5m b pages).m
theorem Qpr(b:Q06)(pages:Int):(Q5m b pages).p:=by
 unfold Tree.p Q5m
 repeat'(first|refine w_lp (inv:=Qfr b pages) (μ:=Q6o b pages) ?_ (Nat.lt_succ_self _) (λ_ _=> ?_)|exact trivial|refine w_br (λ_=> ?_) (λ_=> ?_)|refine w_cn ?_ ?_|refine w_an ?_ ?_|refine w_lv (λ_ _=> ?_)|refine w_nx ?_|refine w_lf ?_|refine And.intro ?_ ?_)
 all_goals((try simp only[Qfr,Q6o]at*);((subst_vars;first|trivial|assumption|omega|((simp(config:={decide:=true,failIfUnchanged:=false}) only[Bool.and_eq_true,Bool.or_eq_true,Bool.and_eq_false_iff,Bool.or_eq_false_iff,Bool.not_eq_true',Bool.not_eq_false',Bool.not_eq_true,Bool.not_eq_false,decide_eq_true_eq,decide_eq_false_iff_not,Q82,Q65,Q86,Q64,beq_iff_eq,beq_eq_false_iff_ne,bne_iff_ne,bne_eq_false_iff_eq,ne_eq,List.all_cons,List.all_nil,D.plain,List.length_cons,List.length_nil,List.length_append,List.length_set,List.length_replicate,IntKind.wrap_i64,IntKind.wrap_u64,IntKind.wrap_u32,IntKind.wrap_i32,IntKind.wrap_u8,true_and,and_true,or_false,false_or,or_true,true_or,not_true_eq_false,not_false_eq_true,Prod.fst,Prod.snd]at*);first|done|assumption|omega)|((simp(config:={decide:=true,failIfUnchanged:=false}) only[Bool.and_eq_true,Bool.or_eq_true,Bool.and_eq_false_iff,Bool.or_eq_false_iff,Bool.not_eq_true',Bool.not_eq_false',Bool.not_eq_true,Bool.not_eq_false,decide_eq_true_eq,decide_eq_false_iff_not,Q82,Q65,Q86,Q64,beq_iff_eq,beq_eq_false_iff_ne,bne_iff_ne,bne_eq_false_iff_eq,ne_eq,List.all_cons,List.all_nil,D.plain,List.length_cons,List.length_nil,List.length_append,List.length_set,List.length_replicate,IntKind.wrap_i64,IntKind.wrap_u64,IntKind.wrap_u32,IntKind.wrap_i32,IntKind.wrap_u8,true_and,and_true,or_false,false_or,or_true,true_or,not_true_eq_false,not_false_eq_true,Prod.fst,Prod.snd]at*);simp only[←List.length_pos_iff]at*;omega)|(simp_all;done)|(have:= @Qka;simp_all;try omega))))
def Qq2:LInv:={
 α:=(Int)
 F:=λst a=>([(1,(lk st 1)),(2, .ptr 0 0 0),(5, .int i64 a)],[⟨true,38,2, .gen [[(cT st 2 0),(cT st 2 1)]]⟩])
 a0:=λst=>(lk st 5).toInt
 ex0:=λst=>[]++[(Q11 (lk st 2) (st.rows.length+0))]
 next:=λst=>(lk st 5).toInt
 ex:=λst=>[]++[(Q11 (lk st 2) (st.rows.length+0))]}
def Qo4:List (Nat×LInv):=[(2,Qq2)]
def Qsr:Q0d:=mkR 70 [] true [.agg Q06.sig, .one (.int .i64)] [] (λargs rows=>Q9f (Q06.of (args.getD 0 .dead).cells) (argI args 1)) (λX=> .bool X) (λX=>[])
theorem Qr2:Q05 Tryz.prog Qsr:=Q0y Q0j Q0i (.nil) Tryz.func70 Tryz.call70 (λargs rows=>Q5m (Q06.of (args.getD 0 .dead).cells) (argI args 1)) [] Qo4 3 (λ_ _ _=>by kernel_rfl) (λ_ _=>rfl) (λargs rows=>Qpr (Q06.of (args.getD 0 .dead).cells) (argI args 1)) (λ_ X=>by kernel_rfl)
def Qtq(m:Q00):Tree Bool:=
.lv (Q44 m.Mem) λ(x0:Int)=> .br (decide (x0<1)) (.lf false) (.br (m.B3.X.a0 !=0) (.lf false) (.br (decide (m.B3.B6.a0>31)) (.lf false) (.br (decide (m.B3.B6.a7>31)) (.lf false) (.br (decide (m.B3.B6.a6>255)) (.lf false) (.br (Int.tmod m.B3.B6.a1 (4:Int) !=(0:Int)) (.lf false) (.lv (Qi8 m.A3) λ(x1:Bool)=> .br (!x1) (.lf false) (.lv (Qcp m.B0) λ(x2:Bool)=> .br (!x2) (.lf false) (.lv (Qf8 m.B1 x0) λ(x3:Bool)=> .br (!x3) (.lf false) (.lv (Qi6 m.C5 x0) λ(x4:Bool)=> .br (!x4) (.lf false) (.lv (Q9f m.A1 x0) λ(x5:Bool)=> .br (!x5) (.lf false) (.br (decide (m.A2≤1152921504606846976)) (.br m.A7 (.lf (!m.A9)) (.lf true)) (.lf false))))))))))))
def Q6m(m:Q00):Bool:=(Qtq m).m
def Ziz:Q0d:=mkR 32 [] true [.agg Q00.sig] [] (λargs rows=>Q6m (Q00.of (args.getD 0 .dead).cells)) (λX=> .bool X) (λX=>[])
theorem Qz5:Q05 Tryz.prog Ziz:=Q0y Q0j Q0i (.cons Qcn (.cons Qq (.cons Qvq (.cons Qz6 (.cons Z1f (.cons Qr2 (.nil))))))) Tryz.func32 Tryz.call32 (λargs rows=>Qtq (Q00.of (args.getD 0 .dead).cells)) [] [] 2 (λ_ _ _=>by kernel_rfl) (λ_ _=>rfl) (λ_ _=>Tree.free_ok (by kernel_rfl)) (λ_ X=>by kernel_rfl)
def Qke(t:Q0h):Tree (Q0h×Bool):=
.br (!t.D5) (.lf (t,false)) (.lf ({D5:=false,C8:=t.C8,D6:=true},true))
def Qk4(t:Q0h):(Q0h×Bool):=(Qke t).m
def Zcf:Q0d:=mkR 107 [] true [.agg Q0h.sig] [] (λargs rows=>Qk4 (Q0h.of (args.getD 0 .dead).cells)) (λX=> .tup [.agg (Q0h.cells (X.1)), .bool (X.2)]) (λX=>[])
theorem Zbl:Q05 Tryz.prog Zcf:=Q0y Q0j Q0i (.nil) Tryz.func107 Tryz.call107 (λargs rows=>Qke (Q0h.of (args.getD 0 .dead).cells)) [] [] 2 (λ_ _ _=>by kernel_rfl) (λ_ _=>rfl) (λ_ _=>Tree.free_ok (by kernel_rfl)) (λ_ X=>by kernel_rfl)
def Qbu(c:Q0b)(b:Int):Tree (Q0b×Bool):=
.br (decide ((c.D2.length:Int)≥(16:Int))) (.lf (c,false)) (.cn (decide (c.D2.length+1≤maxLen)) (.lf ({D2:=c.D2++[(λ(n:Int)=>UInt8.ofNat n.toNat) b]},true)))
def Qjb(c:Q0b)(b:Int):(Q0b×Bool):=(Qbu c b).m
abbrev Qkq(c:Q0b)(b:Int):Prop:=(Qbu c b).p
def Zdl:Q0d:=mkP 108 [] true [.agg Q0b.sig, .one (.int .u8)] [] (λargs rows=>Qkq (Q0b.of (args.getD 0 .dead).cells) (argI args 1)) (λargs rows=>Qjb (Q0b.of (args.getD 0 .dead).cells) (argI args 1)) (λX=> .tup [.agg (Q0b.cells (X.1)), .bool (X.2)]) (λX=>[])
theorem Zam:Q05 Tryz.prog Zdl:=Q0o Q0j Q0i (.nil) Tryz.func108 Tryz.call108 (λargs rows=>Qbu (Q0b.of (args.getD 0 .dead).cells) (argI args 1)) [] [] 2 (λ_ _ _=>by kernel_rfl) (λ_ _=>rfl) (λ_ _ h=>h) (λ_ X=>by kernel_rfl)
def Qhg(m:(List Int))(frame:Int):Tree Bool:=
.lv (Q44 m) λ(x0:Int)=> .lf (decide (wrap u64 frame<wrap u64 x0))
def Q25(m:(List Int))(frame:Int):Bool:=(Qhg m frame).m
def Zcu:Q0d:=mkR 162 [] true [.one (.ints .u32), .one (.int .u32)] [] (λargs rows=>Q25 (argL .u32 args 0) (argI args 1)) (λX=> .bool X) (λX=>[])
theorem Qeg:Q05 Tryz.prog Zcu:=Q0y Q0j Q0i (.cons Qcn (.nil)) Tryz.func162 Tryz.call162 (λargs rows=>Qhg (argL .u32 args 0) (argI args 1)) [] [] 2 (λ_ _ _=>by kernel_rfl) (λ_ _=>rfl) (λ_ _=>Tree.free_ok (by kernel_rfl)) (λ_ X=>by kernel_rfl)
def Qdt(m:(List Int))(addr:Int)(size:Int)(v:Int):Tree (List Int):=
let E1:=Nat.beq 1 1&&Nat.blt 0 1&&decide (0≤wrap u32 (Int.tdiv addr 4)∧wrap u32 (Int.tdiv addr 4)<(m.length:Int));let E2:=Int.toNat (wrap u32 (Int.tdiv addr 4)); .br (size==4) (.cn E1 (.lf (List.set m E2 v))) (.cn E1 (let E3:=decide (0≤wrap u32 (8*Int.tmod addr 4)); .cn E3 (.cn E3 (.cn E1 (.lf (List.set m E2 (ior u32 (Qft u32 (m.getD E2 0) (ishl u32 255 (wrap u32 (8*Int.tmod addr 4)))) (ishl u32 (iand u32 v 255) (wrap u32 (8*Int.tmod addr 4))))))))))
def Qa7(m:(List Int))(addr:Int)(size:Int)(v:Int):(List Int):=(Qdt m addr size v).m
abbrev Qf9(m:(List Int))(addr:Int)(size:Int)(v:Int):Prop:=(Qdt m addr size v).p
def Zhn:Q0d:=mkP 207 [true,false,false,false] true [.one (.row 0), .one (.int .u32), .one (.int .i64), .one (.int .u32)] [.arr 23 1 (.ints .u32)] (λargs rows=>Qf9 (rowL .u32 rows 0) (argI args 1) (argI args 2) (argI args 3)) (λargs rows=>Qa7 (rowL .u32 rows 0) (argI args 1) (argI args 2) (argI args 3)) (λX=> .tup []) (λX=>[⟨false,23,1, .ints .u32 X⟩])
theorem Qzo:Q05 Tryz.prog Zhn:=Q0o Q0j Q0i (.nil) Tryz.func207 Tryz.call207 (λargs rows=>Qdt (rowL .u32 rows 0) (argI args 1) (argI args 2) (argI args 3)) [] [] 2 (λ_ _ _=>by kernel_rfl) (λ_ _=>rfl) (λ_ _ h=>h) (λ_ X=>by kernel_rfl)
def Qhu(m:(List Int))(frame:Int)(s:(List UInt8))(z:(Int)×(List Int)):Nat:=(128-z.1).toNat
def Q9e(m:(List Int))(frame:Int)(s:(List UInt8)):Tree (List Int):=
.lp inferInstance (Qhu m frame s (0,m)+1) ((True∧rE (frame:Int)∧rE (s:List UInt8)∧rE (0:Int)∧True)∧rE (m:List Int)∧True) (0,m) λ(v0:Int×List Int)=> .br (decide (v0.1<(s.length:Int))) (.br (decide (v0.1<128)) (.cn (decide (0≤v0.1∧v0.1<(s.length:Int))) (let E1:=wrap u32 (↑(UInt8.toNat (s.getD v0.1.toNat (0:UInt8))):Int);let E2:=wrap u32 (wrap i64 (wrap i64 (frame*128)+v0.1)); .an (Qf9 v0.2 E2 1 E1) (.lv (Qa7 v0.2 E2 1 E1) λ(x0:List Int)=> .nx ((True∧rE (frame:Int)∧rE (s:List UInt8)∧rE ((wrap i64 (v0.1+1)):Int)∧True)∧rE (x0:List Int)∧True) (Sum.inl (wrap i64 (v0.1+1),x0))))) (.lf (Sum.inr v0.2))) (.lf (Sum.inr v0.2))
def Qji(m:(List Int))(frame:Int)(s:(List UInt8)):(List Int):=(Q9e m frame s).m
abbrev Ql5(m:(List Int))(frame:Int)(s:(List UInt8)):Prop:=(Q9e m frame s).p
def Za5:LInv:={
 α:=(Int)×(List Int)
 F:=λst a=>([(0, .all 0),(1,(lk st 1)),(2,(lk st 2)),(6, .int i64 a.1)],[⟨false,23,1, .ints u32 a.2⟩])
 a0:=λst=>((lk st 6).toInt,(Q7v st.rows 0))
 ex0:=λst=>[0]++[]
 next:=λst=>((lk st 6).toInt,(Q7v st.rows 0))
 ex:=λst=>[0]++[]}
def Z10:List (Nat×LInv):=[(1,Za5)]
def Zcq:Q0d:=mkP 163 [true,false,false] true [.one (.row 0), .one (.int .i64), .one (.str)] [.arr 23 1 (.ints .u32)] (λargs rows=>Ql5 (rowL .u32 rows 0) (argI args 1) (argS args 2)) (λargs rows=>Qji (rowL .u32 rows 0) (argI args 1) (argS args 2)) (λX=> .tup []) (λX=>[⟨false,23,1, .ints .u32 X⟩])
theorem Quh:Q05 Tryz.prog Zcq:=Q0o Q0j Q0i (.cons Qzo (.nil)) Tryz.func163 Tryz.call163 (λargs rows=>Q9e (rowL .u32 rows 0) (argI args 1) (argS args 2)) [] Z10 3 (λ_ _ _=>by kernel_rfl) (λ_ _=>rfl) (λ_ _ h=>h) (λ_ X=>by kernel_rfl)
def Q6x(d0:Q0c)(m:(List Int))(e:Q09):Tree (Q0c×Bool×(List Int)):=
.br (d0.B9 !=1) (.lf (d0,false,m)) (.br (e.B5 !=4) (.lf (d0,false,m)) (.br (decide (e.N>1)) (.lf (d0,false,m)) (let E4:=({Blocks:=d0.Blocks,C1:=d0.C1,B4:=d0.B4,B9:=2,D8:=0,B7:=0,B2:=0,C3:=[]}:Q0c);let E5:=({Blocks:=d0.Blocks,C1:=d0.C1,B4:=d0.B4,B9:=3,D8:=0,B7:=0,B2:=0,C3:=[]}:Q0c);let T2:Tree ((Q0c×Bool×(List Int))):= .br (e.N==1) (.lf (E4,true,m)) (.lf (E5,true,m));let E6:=decide ((e.C6.length:Int)>(0:Int)); .br (e.N==1) (let T1:Tree ((Q0c×Bool×(List Int))):= .br (d0.D8==1) (.an (Ql5 m (wrap i64 d0.B2) e.C6) (.lv (Qji m (wrap i64 d0.B2) e.C6) λ(x1:List Int)=> .br (e.N==1) (.lf (E4,true,x1)) (.lf (E5,true,x1)))) T2;let T3:Tree ((Q0c×Bool×(List Int))):= .br (!d0.D8==1) (.br E6 (.lf (d0,false,m)) T1) T1; .br (d0.D8==1) (.br ((e.C6.length:Int) !=(128:Int)) (.lf (d0,false,m)) (.lv (Q25 m d0.B2) λ(x0:Bool)=> .br (!x0) (.lf (d0,false,m)) T3)) T3) (.br E6 (.lf (d0,false,m)) T2))))
def Q8e(d0:Q0c)(m:(List Int))(e:Q09):(Q0c×Bool×(List Int)):=(Q6x d0 m e).m
abbrev Qgq(d0:Q0c)(m:(List Int))(e:Q09):Prop:=(Q6x d0 m e).p
def Z5x:Q0d:=mkP 109 [false,true,false] true [.agg Q0c.sig, .one (.row 0), .agg Q09.sig] [.arr 23 1 (.ints .u32)] (λargs rows=>Qgq (Q0c.of (args.getD 0 .dead).cells) (rowL .u32 rows 0) (Q09.of (args.getD 2 .dead).cells)) (λargs rows=>Q8e (Q0c.of (args.getD 0 .dead).cells) (rowL .u32 rows 0) (Q09.of (args.getD 2 .dead).cells)) (λX=> .tup [.agg (Q0c.cells (X.1)), .bool (X.2.1)]) (λX=>[⟨false,23,1, .ints .u32 (X.2.2)⟩])
theorem Z1v:Q05 Tryz.prog Z5x:=Q0o Q0j Q0i (.cons Qeg (.cons Quh (.nil))) Tryz.func109 Tryz.call109 (λargs rows=>Q6x (Q0c.of (args.getD 0 .dead).cells) (rowL .u32 rows 0) (Q09.of (args.getD 2 .dead).cells)) [] [] 2 (λ_ _ _=>by kernel_rfl) (λ_ _=>rfl) (λ_ _ h=>h) (λ_ X=>by kernel_rfl)
def Q6v(n:Q0m)(m:(List Int))(frame:(List UInt8)):Tree (Q0m×Bool×(List Int)):=
.br (!n.C7) (.lf (n,false,m)) (.br (decide ((frame.length:Int)<(1:Int))) (.lf (n,false,m)) (.br (decide ((frame.length:Int)>(128:Int))) (.lf (n,false,m)) (.lv (Q25 m n.C0) λ(x0:Bool)=> .br (!x0) (.lf (n,false,m)) (.an (Ql5 m (wrap i64 n.C0) frame) (.lv (Qji m (wrap i64 n.C0) frame) λ(x1:List Int)=> .lf ({B4:=n.B4,F0:=n.F0,C7:=false,C0:=0,B8:=true,F1:=wrap u32 (frame.length:Int)},true,x1))))))
def Q8a(n:Q0m)(m:(List Int))(frame:(List UInt8)):(Q0m×Bool×(List Int)):=(Q6v n m frame).m
abbrev Qgi(n:Q0m)(m:(List Int))(frame:(List UInt8)):Prop:=(Q6v n m frame).p
def Z5s:Q0d:=mkP 110 [false,true,false] true [.agg Q0m.sig, .one (.row 0), .one (.str)] [.arr 23 1 (.ints .u32)] (λargs rows=>Qgi (Q0m.of (args.getD 0 .dead).cells) (rowL .u32 rows 0) (argS args 2)) (λargs rows=>Q8a (Q0m.of (args.getD 0 .dead).cells) (rowL .u32 rows 0) (argS args 2)) (λX=> .tup [.agg (Q0m.cells (X.1)), .bool (X.2.1)]) (λX=>[⟨false,23,1, .ints .u32 (X.2.2)⟩])
theorem Z27:Q05 Tryz.prog Z5s:=Q0o Q0j Q0i (.cons Qeg (.cons Quh (.nil))) Tryz.func110 Tryz.call110 (λargs rows=>Q6v (Q0m.of (args.getD 0 .dead).cells) (rowL .u32 rows 0) (argS args 2)) [] [] 2 (λ_ _ _=>by kernel_rfl) (λ_ _=>rfl) (λ_ _ h=>h) (λ_ X=>by kernel_rfl)
def Q6w(m:Q00)(e:Q09):Tree (Bool×Q00):=
.br m.A9 (.lf (false,m)) (let T1:Tree ((Bool×Q00)):= .br (e.B5==4) (.an (Qgq m.B1 m.Mem e) (.lv (Q8e m.B1 m.Mem e) λ(x2:Q0c×Bool×List Int)=> .lf (x2.2.1,{B3:=m.B3,Mem:=x2.2.2,A3:=m.A3,B0:=m.B0,B1:=x2.1,C5:=m.C5,A1:=m.A1,A2:=m.A2,A7:=m.A7,A9:=m.A9}))) (let T3:Tree ((Bool×Q00)):= .br (e.B5==6) (.br (decide (e.C6=[])) (.lf (true,{B3:=m.B3,Mem:=m.Mem,A3:=m.A3,B0:=m.B0,B1:=m.B1,C5:=m.C5,A1:={C9:=e.N,C2:=m.A1.C2},A2:=m.A2,A7:=m.A7,A9:=m.A9})) (.lf (false,m))) (.lf (false,m)); .br (e.B5==5) (.br (e.N==0) (.an (Qgi m.C5 m.Mem e.C6) (.lv (Q8a m.C5 m.Mem e.C6) λ(x3:Q0m×Bool×List Int)=> .lf (x3.2.1,{B3:=m.B3,Mem:=x3.2.2,A3:=m.A3,B0:=m.B0,B1:=m.B1,C5:=x3.1,A1:=m.A1,A2:=m.A2,A7:=m.A7,A9:=m.A9}))) T3) T3);let T2:Tree ((Bool×Q00)):= .br (e.B5==3) (.br (decide (e.N≤255)) (.br (decide (e.C6=[])) (.an (Qkq m.A3 (wrap u8 e.N)) (.lv (Qjb m.A3 (wrap u8 e.N)) λ(x1:Q0b×Bool)=> .lf (x1.2,{B3:=m.B3,Mem:=m.Mem,A3:=x1.1,B0:=m.B0,B1:=m.B1,C5:=m.C5,A1:=m.A1,A2:=m.A2,A7:=m.A7,A9:=m.A9}))) T1) T1) T1; .br (e.B5==2) (.br (e.N==0) (.br (decide (e.C6=[])) (.lv (Qk4 m.B0) λ(x0:Q0h×Bool)=> .lf (x0.2,{B3:=m.B3,Mem:=m.Mem,A3:=m.A3,B0:=x0.1,B1:=m.B1,C5:=m.C5,A1:=m.A1,A2:=m.A2,A7:=m.A7,A9:=m.A9})) T2) T2) T2)
def Q0v(m:Q00)(e:Q09):(Bool×Q00):=(Q6w m e).m
abbrev Qom(m:Q00)(e:Q09):Prop:=(Q6w m e).p
def Z9h:Q0d:=mkP 73 [true,false] true [.ptr 0, .agg Q09.sig] [.box 41 49 (Q00.sigW (.row 1)), .arr 23 1 (.ints .u32)] (λargs rows=>Qom (Q00.ofW (rows.getD 0 default).cs (rowL .u32 rows 1)) (Q09.of (args.getD 1 .dead).cells)) (λargs rows=>Q0v (Q00.ofW (rows.getD 0 default).cs (rowL .u32 rows 1)) (Q09.of (args.getD 1 .dead).cells)) (λX=> .bool (X.1)) (λX=>[⟨true,41,49, .gen [(Q00.cellsW (X.2) (.all 1))]⟩,⟨false,23,1, .ints .u32 (X.2).Mem⟩])
theorem Z5k:Q05 Tryz.prog Z9h:=Q0o Q0j Q0i (.cons Zbl (.cons Zam (.cons Z1v (.cons Z27 (.nil))))) Tryz.func73 Tryz.call73 (λargs rows=>Q6w (Q00.ofW (rows.getD 0 default).cs (rowL .u32 rows 1)) (Q09.of (args.getD 1 .dead).cells)) [.row 23 1 (.ints .u32)] [] 2 (λ_ _ _=>by kernel_rfl) (λ_ _=>rfl) (λ_ _ h=>h) (λ_ X=>by kernel_rfl)
def Qj4(m:Q01)(e:Q09):Tree (Bool×Q01):=
.br m.A0.A9 (.lf (false,m)) (let T1:Tree ((Bool×Q01)):= .br (e.B5==4) (.an (Qgq m.A0.B1 m.A0.Mem e) (.lv (Q8e m.A0.B1 m.A0.Mem e) λ(x2:Q0c×Bool×List Int)=> .lf (x2.2.1,{A0:={B3:=m.A0.B3,Mem:=x2.2.2,A3:=m.A0.A3,B0:=m.A0.B0,B1:=x2.1,C5:=m.A0.C5,A1:=m.A0.A1,A2:=m.A0.A2,A7:=m.A0.A7,A9:=m.A0.A9},A6:=m.A6,C4:=m.C4,A4:=m.A4}))) (let T3:Tree ((Bool×Q01)):= .br (e.B5==6) (.br (decide (e.C6=[])) (.lf (true,{A0:={B3:=m.A0.B3,Mem:=m.A0.Mem,A3:=m.A0.A3,B0:=m.A0.B0,B1:=m.A0.B1,C5:=m.A0.C5,A1:={C9:=e.N,C2:=m.A0.A1.C2},A2:=m.A0.A2,A7:=m.A0.A7,A9:=m.A0.A9},A6:=m.A6,C4:=m.C4,A4:=m.A4})) (.lf (false,m))) (.lf (false,m)); .br (e.B5==5) (.br (e.N==0) (.an (Qgi m.A0.C5 m.A0.Mem e.C6) (.lv (Q8a m.A0.C5 m.A0.Mem e.C6) λ(x3:Q0m×Bool×List Int)=> .lf (x3.2.1,{A0:={B3:=m.A0.B3,Mem:=x3.2.2,A3:=m.A0.A3,B0:=m.A0.B0,B1:=m.A0.B1,C5:=x3.1,A1:=m.A0.A1,A2:=m.A0.A2,A7:=m.A0.A7,A9:=m.A0.A9},A6:=m.A6,C4:=m.C4,A4:=m.A4}))) T3) T3);let T2:Tree ((Bool×Q01)):= .br (e.B5==3) (.br (decide (e.N≤255)) (.br (decide (e.C6=[])) (.an (Qkq m.A0.A3 (wrap u8 e.N)) (.lv (Qjb m.A0.A3 (wrap u8 e.N)) λ(x1:Q0b×Bool)=> .lf (x1.2,{A0:={B3:=m.A0.B3,Mem:=m.A0.Mem,A3:=x1.1,B0:=m.A0.B0,B1:=m.A0.B1,C5:=m.A0.C5,A1:=m.A0.A1,A2:=m.A0.A2,A7:=m.A0.A7,A9:=m.A0.A9},A6:=m.A6,C4:=m.C4,A4:=m.A4}))) T1) T1) T1; .br (e.B5==2) (.br (e.N==0) (.br (decide (e.C6=[])) (.lv (Qk4 m.A0.B0) λ(x0:Q0h×Bool)=> .lf (x0.2,{A0:={B3:=m.A0.B3,Mem:=m.A0.Mem,A3:=m.A0.A3,B0:=x0.1,B1:=m.A0.B1,C5:=m.A0.C5,A1:=m.A0.A1,A2:=m.A0.A2,A7:=m.A0.A7,A9:=m.A0.A9},A6:=m.A6,C4:=m.C4,A4:=m.A4})) T2) T2) T2)
def Qm4(m:Q01)(e:Q09):(Bool×Q01):=(Qj4 m e).m
abbrev Qvp(m:Q01)(e:Q09):Prop:=(Qj4 m e).p
def Qhj(m:Q01)(e:Q09):Tree (Bool×Q01):=
.an (Qvp m e) (.lv (Qm4 m e) λ(x0:Bool×Q01)=> .lf (x0.1,x0.2))
def Ql4(m:Q01)(e:Q09):(Bool×Q01):=(Qhj m e).m
abbrev Qs9(m:Q01)(e:Q09):Prop:=(Qhj m e).p
def Qkp(r:Q01)(e:Q09):Tree Q01:=
.an (Qs9 r e) (.lv (Ql4 r e) λ(x0:Bool×Q01)=> .br x0.1 (.cn (decide (40*(x0.2.C4.length+1)≤140737488355328)) (.lf ({A0:=x0.2.A0,A6:=x0.2.A6,C4:=x0.2.C4++[{At:=x0.2.A0.A2,D1:=e}],A4:=x0.2.A4}))) (.lf x0.2))
def Qki(r:Q01)(e:Q09):Q01:=(Qkp r e).m
abbrev Qn9(r:Q01)(e:Q09):Prop:=(Qkp r e).p
def Qh(is:Bool)(n:Int):Tree Int:=
.br is (.cn (decide (0≤wrap u64 n)) (.lf (ishl u32 1 (wrap u64 n)))) (.lf 0)
def Q9i(is:Bool)(n:Int):Int:=(Qh is n).m
abbrev Qac(is:Bool)(n:Int):Prop:=(Qh is n).p
def Zdh:Q0d:=mkP 219 [] true [.one (.bool), .one (.int .i64)] [] (λargs rows=>Qac (argB args 0) (argI args 1)) (λargs rows=>Q9i (argB args 0) (argI args 1)) (λX=> .int .u32 X) (λX=>[])
theorem Za6:Q05 Tryz.prog Zdh:=Q0o Q0j Q0i (.nil) Tryz.func219 Tryz.call219 (λargs rows=>Qh (argB args 0) (argI args 1)) [] [] 2 (λ_ _ _=>by kernel_rfl) (λ_ _=>rfl) (λ_ _ h=>h) (λ_ X=>by kernel_rfl)
def Qhr(t:Q0h):Tree Bool:=
.lf t.D6
def Qad(t:Q0h):Bool:=(Qhr t).m
def Qpi:Q0d:=mkR 220 [] true [.agg Q0h.sig] [] (λargs rows=>Qad (Q0h.of (args.getD 0 .dead).cells)) (λX=> .bool X) (λX=>[])
theorem Qoa:Q05 Tryz.prog Qpi:=Q0y Q0j Q0i (.nil) Tryz.func220 Tryz.call220 (λargs rows=>Qhr (Q0h.of (args.getD 0 .dead).cells)) [] [] 2 (λ_ _ _=>by kernel_rfl) (λ_ _=>rfl) (λ_ _=>Tree.free_ok (by kernel_rfl)) (λ_ X=>by kernel_rfl)
def Qes(c:Q0b):Tree Bool:=
.lf (decide ((c.D2.length:Int)>(0:Int)))
def Q5u(c:Q0b):Bool:=(Qes c).m
def Qm3:Q0d:=mkR 221 [] true [.agg Q0b.sig] [] (λargs rows=>Q5u (Q0b.of (args.getD 0 .dead).cells)) (λX=> .bool X) (λX=>[])
theorem Qls:Q05 Tryz.prog Qm3:=Q0y Q0j Q0i (.nil) Tryz.func221 Tryz.call221 (λargs rows=>Qes (Q0b.of (args.getD 0 .dead).cells)) [] [] 2 (λ_ _ _=>by kernel_rfl) (λ_ _=>rfl) (λ_ _=>Tree.free_ok (by kernel_rfl)) (λ_ X=>by kernel_rfl)
def Qii(d0:Q0c):Tree Bool:=
.br (d0.B9==2) (.lf true) (.lf (d0.B9==3))
def Qbi(d0:Q0c):Bool:=(Qii d0).m
def Qro:Q0d:=mkR 222 [] true [.agg Q0c.sig] [] (λargs rows=>Qbi (Q0c.of (args.getD 0 .dead).cells)) (λX=> .bool X) (λX=>[])
theorem Qp3:Q05 Tryz.prog Qro:=Q0y Q0j Q0i (.nil) Tryz.func222 Tryz.call222 (λargs rows=>Qii (Q0c.of (args.getD 0 .dead).cells)) [] [] 2 (λ_ _ _=>by kernel_rfl) (λ_ _=>rfl) (λ_ _=>Tree.free_ok (by kernel_rfl)) (λ_ X=>by kernel_rfl)
def Qjs(n:Q0m):Tree Bool:=
.lf n.B8
def Qcx(n:Q0m):Bool:=(Qjs n).m
def Qsk:Q0d:=mkR 223 [] true [.agg Q0m.sig] [] (λargs rows=>Qcx (Q0m.of (args.getD 0 .dead).cells)) (λX=> .bool X) (λX=>[])
theorem Qrp:Q05 Tryz.prog Qsk:=Q0y Q0j Q0i (.nil) Tryz.func223 Tryz.call223 (λargs rows=>Qjs (Q0m.of (args.getD 0 .dead).cells)) [] [] 2 (λ_ _ _=>by kernel_rfl) (λ_ _=>rfl) (λ_ _=>Tree.free_ok (by kernel_rfl)) (λ_ X=>by kernel_rfl)
def Qmv(b:Q06)(z:(Int)×(Int)):Prop:=0≤z.2∧z.2≤32
def Qff(b:Q06)(z:(Int)×(Int)):Nat:=(32-z.2).toNat
def Qik(b:Q06):Tree Int:=
.lp inferInstance (Qff b (0,0)+1) (((rE (0:Nat)∧rE (0:Nat))∧rE (0:Int)∧rE (0:Int)∧True)∧(rE b.C9∧rE b.C2∧True)∧True) (0,0) λ(v0:Int×Int)=> .br (decide (v0.2<32)) (.cn (decide (0≤wrap u64 v0.2)) (.nx (((rE (0:Nat)∧rE (0:Nat))∧rE ((wrap i64 (v0.1+wrap i64 (iand u32 (ishr u32 b.C2 (wrap u64 v0.2)) 1))):Int)∧rE ((wrap i64 (v0.2+1)):Int)∧True)∧(rE b.C9∧rE b.C2∧True)∧True) (Sum.inl (wrap i64 (v0.1+wrap i64 (iand u32 (ishr u32 b.C2 (wrap u64 v0.2)) 1)),wrap i64 (v0.2+1))))) (.lf (Sum.inr v0.1))
def Qe(b:Q06):Int:=(Qik b).m
theorem Z1y(b:Q06):(Qik b).p:=by
 unfold Tree.p Qik
 repeat'(first|refine w_lp (inv:=Qmv b) (μ:=Qff b) ?_ (Nat.lt_succ_self _) (λ_ _=> ?_)|exact trivial|refine w_br (λ_=> ?_) (λ_=> ?_)|refine w_cn ?_ ?_|refine w_an ?_ ?_|refine w_lv (λ_ _=> ?_)|refine w_nx ?_|refine w_lf ?_|refine And.intro ?_ ?_)
 all_goals((try simp only[Qmv,Qff]at*);((subst_vars;first|trivial|assumption|omega|((simp(config:={decide:=true,failIfUnchanged:=false}) only[Bool.and_eq_true,Bool.or_eq_true,Bool.and_eq_false_iff,Bool.or_eq_false_iff,Bool.not_eq_true',Bool.not_eq_false',Bool.not_eq_true,Bool.not_eq_false,decide_eq_true_eq,decide_eq_false_iff_not,Q82,Q65,Q86,Q64,beq_iff_eq,beq_eq_false_iff_ne,bne_iff_ne,bne_eq_false_iff_eq,ne_eq,List.all_cons,List.all_nil,D.plain,List.length_cons,List.length_nil,List.length_append,List.length_set,List.length_replicate,IntKind.wrap_i64,IntKind.wrap_u64,IntKind.wrap_u32,IntKind.wrap_i32,IntKind.wrap_u8,true_and,and_true,or_false,false_or,or_true,true_or,not_true_eq_false,not_false_eq_true,Prod.fst,Prod.snd]at*);first|done|assumption|omega)|((simp(config:={decide:=true,failIfUnchanged:=false}) only[Bool.and_eq_true,Bool.or_eq_true,Bool.and_eq_false_iff,Bool.or_eq_false_iff,Bool.not_eq_true',Bool.not_eq_false',Bool.not_eq_true,Bool.not_eq_false,decide_eq_true_eq,decide_eq_false_iff_not,Q82,Q65,Q86,Q64,beq_iff_eq,beq_eq_false_iff_ne,bne_iff_ne,bne_eq_false_iff_eq,ne_eq,List.all_cons,List.all_nil,D.plain,List.length_cons,List.length_nil,List.length_append,List.length_set,List.length_replicate,IntKind.wrap_i64,IntKind.wrap_u64,IntKind.wrap_u32,IntKind.wrap_i32,IntKind.wrap_u8,true_and,and_true,or_false,false_or,or_true,true_or,not_true_eq_false,not_false_eq_true,Prod.fst,Prod.snd]at*);simp only[←List.length_pos_iff]at*;omega)|(simp_all;done)|(have:= @Qka;simp_all;try omega))))
def Z6d:LInv:={
 α:=(Int)×(Int)
 F:=λst a=>([(1, .ptr 0 0 0),(3, .int i64 a.1),(4, .int i64 a.2)],[⟨true,38,2, .gen [[(cT st 1 0),(cT st 1 1)]]⟩])
 a0:=λst=>((lk st 3).toInt,(lk st 4).toInt)
 ex0:=λst=>[]++[(Q11 (lk st 1) (st.rows.length+0))]
 next:=λst=>((lk st 3).toInt,(lk st 4).toInt)
 ex:=λst=>[]++[(Q11 (lk st 1) (st.rows.length+0))]}
def Qys:List (Nat×LInv):=[(3,Z6d)]
def Z93:Q0d:=mkR 211 [] true [.agg Q06.sig] [] (λargs rows=>Qe (Q06.of (args.getD 0 .dead).cells)) (λX=> .int .i64 X) (λX=>[])
theorem Qre:Q05 Tryz.prog Z93:=Q0y Q0j Q0i (.nil) Tryz.func211 Tryz.call211 (λargs rows=>Qik (Q06.of (args.getD 0 .dead).cells)) [] Qys 3 (λ_ _ _=>by kernel_rfl) (λ_ _=>rfl) (λargs rows=>Z1y (Q06.of (args.getD 0 .dead).cells)) (λ_ X=>by kernel_rfl)
def Q9r(b:Q06):Tree Bool:=
.lv (Qe b) λ(x0:Int)=> .lf (wrap u64 x0 !=wrap u64 b.C9)
def Q48(b:Q06):Bool:=(Q9r b).m
def Qms:Q0d:=mkR 224 [] true [.agg Q06.sig] [] (λargs rows=>Q48 (Q06.of (args.getD 0 .dead).cells)) (λX=> .bool X) (λX=>[])
theorem Qlt:Q05 Tryz.prog Qms:=Q0y Q0j Q0i (.cons Qre (.nil)) Tryz.func224 Tryz.call224 (λargs rows=>Q9r (Q06.of (args.getD 0 .dead).cells)) [] [] 2 (λ_ _ _=>by kernel_rfl) (λ_ _=>rfl) (λ_ _=>Tree.free_ok (by kernel_rfl)) (λ_ X=>by kernel_rfl)
def Qeu(m:Q00):Tree Int:=
.lv (Qad m.B0) λ(x0:Bool)=> .an (Qac x0 0) (.lv (Q9i x0 0) λ(x1:Int)=> .lv (Q5u m.A3) λ(x2:Bool)=> .an (Qac x2 1) (.lv (Q9i x2 1) λ(x3:Int)=> .lv (Qbi m.B1) λ(x4:Bool)=> .an (Qac x4 2) (.lv (Q9i x4 2) λ(x5:Int)=> .lv (Qcx m.C5) λ(x6:Bool)=> .an (Qac x6 3) (.lv (Q9i x6 3) λ(x7:Int)=> .lv (Q48 m.A1) λ(x8:Bool)=> .an (Qac x8 4) (.lv (Q9i x8 4) λ(x9:Int)=> .lf (ior u32 (ior u32 (ior u32 (ior u32 x1 x3) x5) x7) x9))))))
def Qga(m:Q00):Int:=(Qeu m).m
abbrev Qog(m:Q00):Prop:=(Qeu m).p
def Zap:Q0d:=mkP 169 [] true [.agg Q00.sig] [] (λargs rows=>Qog (Q00.of (args.getD 0 .dead).cells)) (λargs rows=>Qga (Q00.of (args.getD 0 .dead).cells)) (λX=> .int .u32 X) (λX=>[])
theorem Z69:Q05 Tryz.prog Zap:=Q0o Q0j Q0i (.cons Za6 (.cons Qoa (.cons Qls (.cons Qp3 (.cons Qrp (.cons Qlt (.nil))))))) Tryz.func169 Tryz.call169 (λargs rows=>Qeu (Q00.of (args.getD 0 .dead).cells)) [] [] 2 (λ_ _ _=>by kernel_rfl) (λ_ _=>rfl) (λ_ _ h=>h) (λ_ X=>by kernel_rfl)
def Q8y(m:Q00):Tree Int:=
.an (Qog m) (.lv (Qga m) λ(x0:Int)=> .lf (iand u32 x0 m.B3.B6.a7))
def Q39(m:Q00):Int:=(Q8y m).m
abbrev Qfh(m:Q00):Prop:=(Q8y m).p
def Z1z:Q0d:=mkP 115 [] true [.agg Q00.sig] [] (λargs rows=>Qfh (Q00.of (args.getD 0 .dead).cells)) (λargs rows=>Q39 (Q00.of (args.getD 0 .dead).cells)) (λX=> .int .u32 X) (λX=>[])
theorem Qmt:Q05 Tryz.prog Z1z:=Q0o Q0j Q0i (.cons Z69 (.nil)) Tryz.func115 Tryz.call115 (λargs rows=>Q8y (Q00.of (args.getD 0 .dead).cells)) [] [] 2 (λ_ _ _=>by kernel_rfl) (λ_ _=>rfl) (λ_ _ h=>h) (λ_ X=>by kernel_rfl)
def Qdx(m:Q00):Tree Bool:=
.br m.A7 (.an (Qfh m) (.lv (Q39 m) λ(x0:Int)=> .lf (x0==0))) (.lf false)
def Qca(m:Q00):Bool:=(Qdx m).m
abbrev Ql3(m:Q00):Prop:=(Qdx m).p
def Zf:Q0d:=mkP 81 [] true [.agg Q00.sig] [] (λargs rows=>Ql3 (Q00.of (args.getD 0 .dead).cells)) (λargs rows=>Qca (Q00.of (args.getD 0 .dead).cells)) (λX=> .bool X) (λX=>[])
theorem Za0:Q05 Tryz.prog Zf:=Q0o Q0j Q0i (.cons Qmt (.nil)) Tryz.func81 Tryz.call81 (λargs rows=>Qdx (Q00.of (args.getD 0 .dead).cells)) [] [] 2 (λ_ _ _=>by kernel_rfl) (λ_ _=>rfl) (λ_ _ h=>h) (λ_ X=>by kernel_rfl)
def Qee(m:Q00):Tree Bool:=
.lv (Q6m m) λ(x0:Bool)=> .br (!x0) (.lf true) (.br m.A9 (.lf true) (.an (Ql3 m) (.lv (Qca m) λ(x1:Bool)=> .br x1 (.lf true) (.lf (decide (m.A2≥1152921504606846976))))))
def Q13(m:Q00):Bool:=(Qee m).m
abbrev Qj9(m:Q00):Prop:=(Qee m).p
end
end Go.Proofs.YtpcbkbalabgnlaaGreat

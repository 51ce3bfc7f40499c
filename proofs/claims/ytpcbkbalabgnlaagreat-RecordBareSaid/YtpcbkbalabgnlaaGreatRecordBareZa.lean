/-
  Functions of the program: models, and that its calls come to them (by a program: gen3.py).
-/
import Derived.Test.YtpcbkbalabgnlaaGreatRecordBareBase
import Derived.Test.YtpcbkbalabgnlaaGreatRecordBareYe
set_option maxRecDepth 100000
set_option linter.unusedVariables false
set_option linter.unusedSimpArgs false
namespace Go.Proofs.YtpcbkbalabgnlaaGreat
open Go Go.GD Go.IntKind
noncomputable section
def Qa(m:(List Int)):Tree (List Int):=
.cn (Nat.blt (0:Nat) (1:Nat)&&Nat.beq (1:Nat) (1:Nat)&&List.all [D.int u32 (0:Int)] D.plain&&decide ((0:Int)≤(m.length:Int)∧(m.length:Int)≤(m.length:Int)∧(m.length:Int)≤(9223372036854775807:Int)∧(↑(4:Nat):Int)*(m.length:Int)≤(140737488355328:Int))) (let E1:=List.length (List.replicate (Int.toNat (m.length:Int)) (0:Int)); .lf (List.take (Min.min (m.length) E1) m++List.drop (Min.min (m.length) E1) (List.replicate (Int.toNat (m.length:Int)) (0:Int))))
def Qn4(m:(List Int)):(List Int):=(Qa m).m
abbrev Qsn(m:(List Int)):Prop:=(Qa m).p
def Zgp:Q0d:=mkP 83 [] true [.one (.ints .u32)] [] (λargs rows=>Qsn (argL .u32 args 0)) (λargs rows=>Qn4 (argL .u32 args 0)) (λX=> .all 0) (λX=>[⟨false,23,1, .ints .u32 X⟩])
theorem Zdw:Q07 Tryz.prog Zgp:=Q0p Q0j Q0k (.nil) Tryz.func83 Tryz.call83 (λargs rows=>Qa (argL .u32 args 0)) [.row 23 1 (.ints .u32)] [] 2 (λ_ _ _=>by kernel_rfl) (λ_ _=>rfl) (λ_ _ h=>h) (λ_ X=>by kernel_rfl)
def Qcp(m:Q00):Tree Q00:=
.an (Qsn m.Mem) (.lv (Qn4 m.Mem) λ(x0:List Int)=> .lf ({B2:=m.B2,Mem:=x0,A6:=m.A6,B0:=m.B0,B1:=m.B1,C5:=m.C5,A2:=m.A2,A1:=m.A1,A7:=m.A7,A9:=m.A9}))
def Qol(m:Q00):Q00:=(Qcp m).m
abbrev Qjg(m:Q00):Prop:=(Qcp m).p
def Zjg:Q0d:=mkP 43 [] true [.agg Q00.sig] [] (λargs rows=>Qjg (Q00.of (args.getD 0 .dead).cells)) (λargs rows=>Qol (Q00.of (args.getD 0 .dead).cells)) (λX=> .agg (Q00.cellsW X (.all 0))) (λX=>[⟨false,23,1, .ints .u32 X.Mem⟩])
theorem Qyl:Q07 Tryz.prog Zjg:=Q0p Q0j Q0k (.cons Zdw (.nil)) Tryz.func43 Tryz.call43 (λargs rows=>Qcp (Q00.of (args.getD 0 .dead).cells)) [.row 23 1 (.ints .u32)] [] 2 (λ_ _ _=>by kernel_rfl) (λ_ _=>rfl) (λ_ _ h=>h) (λ_ X=>by kernel_rfl)
def Qpy(n:Int)(k:Int)(z:(Int)×(List Int)):Prop:=0≤z.1∧(z.2.length:Int)=z.1∧(z.1≤k∨z.1=0)
def Qcx(n:Int)(k:Int)(z:(Int)×(List Int)):Nat:=(k-z.1).toNat
def Qec(n:Int)(k:Int):Tree (List UInt8):=
.lp inferInstance (Qcx n k (0,[])+1) ((rE (n:Int)∧rE (k:Int)∧True∧rE (0:Int)∧True)∧rE ([]:List Int)∧True) (0,[]) λ(v0:Int×List Int)=> .br (decide (v0.1<k)) (.lv (Q3e n (wrap i64 (Int.tdiv v0.1 9))) λ(x0:Int)=> .cn (decide (1*(v0.2.length+1)≤140737488355328)) (.nx ((rE (n:Int)∧rE (k:Int)∧True∧rE ((wrap i64 (v0.1+1)):Int)∧True)∧rE ((v0.2++[wrap u8 x0]):List Int)∧True) (Sum.inl (wrap i64 (v0.1+1),v0.2++[wrap u8 x0])))) (.lf (Sum.inr (bytesOf v0.2)))
def Qse(n:Int)(k:Int):(List UInt8):=(Qec n k).m
def Qaz(n:Int)(k:Int):Prop:=
k≤1000000000000
theorem Z6c(n:Int)(k:Int)(hw:Qaz n k):(Qec n k).p:=by
 simp only[Qaz]at hw
 unfold Tree.p Qec
 repeat'(first|refine w_lp (inv:=Qpy n k) (μ:=Qcx n k) ?_ (Nat.lt_succ_self _) (λ_ _=> ?_)|exact trivial|refine w_br (λ_=> ?_) (λ_=> ?_)|refine w_cn ?_ ?_|refine w_an ?_ ?_|refine w_lv (λ_ _=> ?_)|refine w_nx ?_|refine w_lf ?_|refine And.intro ?_ ?_)
 all_goals((try simp only[Qpy,Qcx]at*);((subst_vars;first|trivial|assumption|omega|((simp(config:={decide:=true,failIfUnchanged:=false}) only[Bool.and_eq_true,Bool.or_eq_true,Bool.and_eq_false_iff,Bool.or_eq_false_iff,Bool.not_eq_true',Bool.not_eq_false',Bool.not_eq_true,Bool.not_eq_false,decide_eq_true_eq,decide_eq_false_iff_not,Q57,Q3m,Q5a,Q3n,beq_iff_eq,beq_eq_false_iff_ne,bne_iff_ne,bne_eq_false_iff_eq,ne_eq,List.all_cons,List.all_nil,D.plain,List.length_cons,List.length_nil,List.length_append,List.length_set,List.length_replicate,IntKind.wrap_i64,IntKind.wrap_u64,IntKind.wrap_u32,IntKind.wrap_i32,IntKind.wrap_u8,true_and,and_true,or_false,false_or,or_true,true_or,not_true_eq_false,not_false_eq_true,Prod.fst,Prod.snd]at*);first|done|assumption|omega)|((simp(config:={decide:=true,failIfUnchanged:=false}) only[Bool.and_eq_true,Bool.or_eq_true,Bool.and_eq_false_iff,Bool.or_eq_false_iff,Bool.not_eq_true',Bool.not_eq_false',Bool.not_eq_true,Bool.not_eq_false,decide_eq_true_eq,decide_eq_false_iff_not,Q57,Q3m,Q5a,Q3n,beq_iff_eq,beq_eq_false_iff_ne,bne_iff_ne,bne_eq_false_iff_eq,ne_eq,List.all_cons,List.all_nil,D.plain,List.length_cons,List.length_nil,List.length_append,List.length_set,List.length_replicate,IntKind.wrap_i64,IntKind.wrap_u64,IntKind.wrap_u32,IntKind.wrap_i32,IntKind.wrap_u8,true_and,and_true,or_false,false_or,or_true,true_or,not_true_eq_false,not_false_eq_true,Prod.fst,Prod.snd]at*);simp only[←List.length_pos_iff]at*;omega)|(simp_all;done)|(have:= @Qg6;simp_all;try omega))))
def Zdm:LInv:={
 α:=(Int)×(List Int)
 F:=λst a=>([(0,(lk st 0)),(1,(lk st 1)),(5, .all 0),(6, .int i64 a.1)],[⟨false,5,1, .ints u8 a.2⟩])
 a0:=λst=>((lk st 6).toInt,(Q8a st.rows (rN st 5)))
 ex0:=λst=>[]++[(Q0x (lk st 5) (st.rows.length+0))]
 next:=λst=>((lk st 6).toInt,(Q8a st.rows (rN st 5)))
 ex:=λst=>[]++[(Q0x (lk st 5) (st.rows.length+0))]}
def Z2b:List (Nat×LInv):=[(3,Zdm)]
def Zh9:Q0d:=mkP 46 [] true [.one (.int .i64), .one (.int .i64)] [] (λargs rows=>Qaz (argI args 0) (argI args 1)) (λargs rows=>Qse (argI args 0) (argI args 1)) (λX=> .str X) (λX=>[])
theorem Zcy:Q07 Tryz.prog Zh9:=Q0p Q0j Q0k (.cons Qle (.nil)) Tryz.func46 Tryz.call46 (λargs rows=>Qec (argI args 0) (argI args 1)) [] Z2b 3 (λ_ _ _=>by kernel_rfl) (λ_ _=>rfl) (λargs rows h=>Z6c (argI args 0) (argI args 1) h) (λ_ X=>by kernel_rfl)
def Qqw(r:Q01):Tree Q01:=
.an (Qjg r.A0) (.lv (Qol r.A0) λ(x0:Q00)=> .cn (decide (40*(0+r.C2.length)≤140737488355328)) (.cn (decide (32*(0+r.A3.length)≤140737488355328)) (.lf ({A0:=x0,A4:=r.A4,C2:=r.C2,A3:=r.A3}))))
def Qsk(r:Q01):Q01:=(Qqw r).m
abbrev Qs(r:Q01):Prop:=(Qqw r).p
def Qt5(e:Q08):Tree Bool:=
.br (e.B5==1) (.lf (decide (e.C6=[]))) (.br (e.B5==6) (.lf (decide (e.C6=[]))) (.br (e.B5==2) (.br (e.N==0) (.lf (decide (e.C6=[]))) (.lf false)) (.br (e.B5==3) (.br (decide (e.N≤255)) (.lf (decide (e.C6=[]))) (.lf false)) (.br (e.B5==4) (.br (decide (e.N≤1)) (.br (decide (e.C6=[])) (.lf true) (.br (e.N==1) (.lf ((e.C6.length:Int)==(128:Int))) (.lf false))) (.lf false)) (.br (e.B5==5) (.br (e.N==0) (.br (decide ((e.C6.length:Int)≥(1:Int))) (.lf (decide ((e.C6.length:Int)≤(128:Int)))) (.lf false)) (.lf false)) (.lf false))))))
def Q32(e:Q08):Bool:=(Qt5 e).m
def Qjp(r:Q01)(e:Q08):Tree (Q01×Bool):=
.an (Qs r) (.lv (Qsk r) λ(x0:Q01)=> .lv (Q32 e) λ(x1:Bool)=> .br (!x1) (.lf (x0,false)) (.br (e.B5==1) (.lf (x0,false)) (.br (decide ((x0.A3.length:Int)≥(16:Int))) (.lf (x0,false)) (.cn (decide (32*(x0.A3.length+1)≤140737488355328)) (.lf ({A0:=x0.A0,A4:=x0.A4,C2:=x0.C2,A3:=x0.A3++[e]},true))))))
def Q2i(r:Q01)(e:Q08):(Q01×Bool):=(Qjp r e).m
abbrev Qwt(r:Q01)(e:Q08):Prop:=(Qjp r e).p
def Qa3(n:Int):Tree Q08:=
.lv (Q3e n 2) λ(x0:Int)=> .br (Int.tmod x0 (7:Int)==(0:Int)) (.lf ({B5:=2,N:=0,C6:=[]})) (.br (Int.tmod x0 (7:Int)==(1:Int)) (.lf ({B5:=3,N:=wrap u32 (iand i64 (ishr i64 x0 8) 255),C6:=[]})) (.br (Int.tmod x0 (7:Int)==(2:Int)) (.lf ({B5:=3,N:=wrap u32 (iand i64 (ishr i64 x0 8) 255),C6:=[]})) (.br (Int.tmod x0 (7:Int)==(3:Int)) (.lf ({B5:=4,N:=1,C6:=[]})) (.br (Int.tmod x0 (7:Int)==(4:Int)) (.an (Qaz x0 128) (.lv (Qse x0 128) λ(x1:List UInt8)=> .lf ({B5:=4,N:=1,C6:=x1}))) (.br (Int.tmod x0 (7:Int)==(5:Int)) (let E1:=wrap i64 (1+Int.tmod (ishr i64 x0 8) 40); .an (Qaz x0 E1) (.lv (Qse x0 E1) λ(x2:List UInt8)=> .lf ({B5:=5,N:=0,C6:=x2}))) (.br (Int.tmod (ishr i64 x0 8) (4:Int)==(0:Int)) (.lf ({B5:=4,N:=0,C6:=[]})) (.lf ({B5:=6,N:=wrap u32 (Int.tmod (ishr i64 x0 8) 3),C6:=[]}))))))))
def Q3g(n:Int):Q08:=(Qa3 n).m
abbrev Qjz(n:Int):Prop:=(Qa3 n).p
def Zc5:Q0d:=mkP 17 [] true [.one (.int .i64)] [] (λargs rows=>Qjz (argI args 0)) (λargs rows=>Q3g (argI args 0)) (λX=> .agg (Q08.cells X)) (λX=>[])
theorem Z6m:Q07 Tryz.prog Zc5:=Q0p Q0j Q0k (.cons Qle (.cons Zcy (.nil))) Tryz.func17 Tryz.call17 (λargs rows=>Qa3 (argI args 0)) [] [] 2 (λ_ _ _=>by kernel_rfl) (λ_ _=>rfl) (λ_ _ h=>h) (λ_ X=>by kernel_rfl)
def Qnv(m:(List Int)):Tree Int:=
.br (Int.tmod (m.length:Int) (32:Int) !=(0:Int)) (.lf 0) (.br (decide ((m.length:Int)>(1024:Int))) (.lf 0) (.lf (wrap i64 (Int.tdiv (m.length:Int) 32))))
def Q4e(m:(List Int)):Int:=(Qnv m).m
def Zbp:Q0d:=mkR 65 [] true [.one (.ints .u32)] [] (λargs rows=>Q4e (argL .u32 args 0)) (λX=> .int .i64 X) (λX=>[])
theorem Qd:Q07 Tryz.prog Zbp:=Q10 Q0j Q0k (.nil) Tryz.func65 Tryz.call65 (λargs rows=>Qnv (argL .u32 args 0)) [] [] 2 (λ_ _ _=>by kernel_rfl) (λ_ _=>rfl) (λ_ _=>Tree.free_ok (by kernel_rfl)) (λ_ X=>by kernel_rfl)
def Qki(c:Q0b):Tree Bool:=
.lf (decide ((c.D3.length:Int)≤(16:Int)))
def Qhq(c:Q0b):Bool:=(Qki c).m
def Qti:Q0d:=mkR 66 [] true [.agg Q0b.sig] [] (λargs rows=>Qhq (Q0b.of (args.getD 0 .dead).cells)) (λX=> .bool X) (λX=>[])
theorem Qrl:Q07 Tryz.prog Qti:=Q10 Q0j Q0k (.nil) Tryz.func66 Tryz.call66 (λargs rows=>Qki (Q0b.of (args.getD 0 .dead).cells)) [] [] 2 (λ_ _ _=>by kernel_rfl) (λ_ _=>rfl) (λ_ _=>Tree.free_ok (by kernel_rfl)) (λ_ X=>by kernel_rfl)
def Qho(t:Q0g):Tree Bool:=
.br t.D2 (.br t.D5 (.lf false) (.br t.D2 (.lf (t.C8 !=0)) (.br t.D5 (.lf true) (.lf (t.C8==0))))) (.br t.D2 (.lf (t.C8 !=0)) (.br t.D5 (.lf true) (.lf (t.C8==0))))
def Qde(t:Q0g):Bool:=(Qho t).m
def Qz1:Q0d:=mkR 67 [] true [.agg Q0g.sig] [] (λargs rows=>Qde (Q0g.of (args.getD 0 .dead).cells)) (λX=> .bool X) (λX=>[])
theorem Qxh:Q07 Tryz.prog Qz1:=Q10 Q0j Q0k (.nil) Tryz.func67 Tryz.call67 (λargs rows=>Qho (Q0g.of (args.getD 0 .dead).cells)) [] [] 2 (λ_ _ _=>by kernel_rfl) (λ_ _=>rfl) (λ_ _=>Tree.free_ok (by kernel_rfl)) (λ_ X=>by kernel_rfl)
def Qjt(d0:Q0c)(pages:Int):Tree Bool:=
.br (decide (d0.Blocks>64)) (.lf false) (.br (decide (d0.C0<0)) (.lf false) (.br (decide (d0.C0>3)) (.lf false) (.br (d0.C0 !=1) (.br (d0.D8==0) (.br (d0.B7==0) (.br (d0.B3==0) (.lf (decide (d0.C4=[]))) (.lf false)) (.lf false)) (.lf false)) (.br (decide (d0.B7≥d0.Blocks)) (.lf false) (.br (decide (wrap i64 d0.B3≥pages)) (.lf false) (.br (d0.D8==1) (.br (decide (d0.C4=[])) (.lf true) (.br (d0.D8==2) (.lf ((d0.C4.length:Int)==(128:Int))) (.lf false))) (.br (d0.D8==2) (.lf ((d0.C4.length:Int)==(128:Int))) (.lf false))))))))
def Qf3(d0:Q0c)(pages:Int):Bool:=(Qjt d0 pages).m
def Z3c:Q0d:=mkR 68 [] true [.agg Q0c.sig, .one (.int .i64)] [] (λargs rows=>Qf3 (Q0c.of (args.getD 0 .dead).cells) (argI args 1)) (λX=> .bool X) (λX=>[])
theorem Z1f:Q07 Tryz.prog Z3c:=Q10 Q0j Q0k (.nil) Tryz.func68 Tryz.call68 (λargs rows=>Qjt (Q0c.of (args.getD 0 .dead).cells) (argI args 1)) [] [] 2 (λ_ _ _=>by kernel_rfl) (λ_ _=>rfl) (λ_ _=>Tree.free_ok (by kernel_rfl)) (λ_ X=>by kernel_rfl)
def Ql6(n:Q0o)(pages:Int):Tree Bool:=
let T1:Tree (Bool):= .br n.B8 (.br (decide (n.F1≥1)) (.lf (decide (n.F1≤128))) (.lf false)) (.lf (n.F1==0)); .br n.C7 (.br n.B8 (.lf false) (.br (decide (wrap i64 n.B9≥pages)) (.lf false) (.br (!n.C7) (.br (n.B9 !=0) (.lf false) T1) T1))) (.br (!n.C7) (.br (n.B9 !=0) (.lf false) T1) T1)
def Qiv(n:Q0o)(pages:Int):Bool:=(Ql6 n pages).m
def Z66:Q0d:=mkR 69 [] true [.agg Q0o.sig, .one (.int .i64)] [] (λargs rows=>Qiv (Q0o.of (args.getD 0 .dead).cells) (argI args 1)) (λX=> .bool X) (λX=>[])
theorem Z3r:Q07 Tryz.prog Z66:=Q10 Q0j Q0k (.nil) Tryz.func69 Tryz.call69 (λargs rows=>Ql6 (Q0o.of (args.getD 0 .dead).cells) (argI args 1)) [] [] 2 (λ_ _ _=>by kernel_rfl) (λ_ _=>rfl) (λ_ _=>Tree.free_ok (by kernel_rfl)) (λ_ X=>by kernel_rfl)
def Qgg(b:Q06)(pages:Int)(z:(Int)):Prop:=0≤z∧z≤32
def Q6z(b:Q06)(pages:Int)(z:(Int)):Nat:=(32-z).toNat
def Q62(b:Q06)(pages:Int):Tree Bool:=
.lp inferInstance (Q6z b pages 0+1) ((rE (pages:Int)∧(rE (0:Nat)∧rE (0:Nat))∧rE (0:Int)∧True)∧(rE b.C9∧rE b.C3∧True)∧True) 0 λ(v0:Int)=> .br (decide (v0<32)) (.cn (decide (0≤wrap u64 v0)) (let T1:Tree ((Int)⊕(Bool)):= .nx ((rE (pages:Int)∧(rE (0:Nat)∧rE (0:Nat))∧rE ((wrap i64 (v0+1)):Int)∧True)∧(rE b.C9∧rE b.C3∧True)∧True) (Sum.inl (wrap i64 (v0+1))); .br (iand u32 (ishr u32 b.C3 (wrap u64 v0)) (1:Int)==(1:Int)) (.br (decide (v0≥pages)) (.lf (Sum.inr false)) T1) T1)) (.lf (Sum.inr true))
def Q9y(b:Q06)(pages:Int):Bool:=(Q62 b pages).m
theorem Qqa(b:Q06)(pages:Int):(Q62 b pages).p:=by
 unfold Tree.p Q62
 repeat'(first|refine w_lp (inv:=Qgg b pages) (μ:=Q6z b pages) ?_ (Nat.lt_succ_self _) (λ_ _=> ?_)|exact trivial|refine w_br (λ_=> ?_) (λ_=> ?_)|refine w_cn ?_ ?_|refine w_an ?_ ?_|refine w_lv (λ_ _=> ?_)|refine w_nx ?_|refine w_lf ?_|refine And.intro ?_ ?_)
 all_goals((try simp only[Qgg,Q6z]at*);((subst_vars;first|trivial|assumption|omega|((simp(config:={decide:=true,failIfUnchanged:=false}) only[Bool.and_eq_true,Bool.or_eq_true,Bool.and_eq_false_iff,Bool.or_eq_false_iff,Bool.not_eq_true',Bool.not_eq_false',Bool.not_eq_true,Bool.not_eq_false,decide_eq_true_eq,decide_eq_false_iff_not,Q57,Q3m,Q5a,Q3n,beq_iff_eq,beq_eq_false_iff_ne,bne_iff_ne,bne_eq_false_iff_eq,ne_eq,List.all_cons,List.all_nil,D.plain,List.length_cons,List.length_nil,List.length_append,List.length_set,List.length_replicate,IntKind.wrap_i64,IntKind.wrap_u64,IntKind.wrap_u32,IntKind.wrap_i32,IntKind.wrap_u8,true_and,and_true,or_false,false_or,or_true,true_or,not_true_eq_false,not_false_eq_true,Prod.fst,Prod.snd]at*);first|done|assumption|omega)|((simp(config:={decide:=true,failIfUnchanged:=false}) only[Bool.and_eq_true,Bool.or_eq_true,Bool.and_eq_false_iff,Bool.or_eq_false_iff,Bool.not_eq_true',Bool.not_eq_false',Bool.not_eq_true,Bool.not_eq_false,decide_eq_true_eq,decide_eq_false_iff_not,Q57,Q3m,Q5a,Q3n,beq_iff_eq,beq_eq_false_iff_ne,bne_iff_ne,bne_eq_false_iff_eq,ne_eq,List.all_cons,List.all_nil,D.plain,List.length_cons,List.length_nil,List.length_append,List.length_set,List.length_replicate,IntKind.wrap_i64,IntKind.wrap_u64,IntKind.wrap_u32,IntKind.wrap_i32,IntKind.wrap_u8,true_and,and_true,or_false,false_or,or_true,true_or,not_true_eq_false,not_false_eq_true,Prod.fst,Prod.snd]at*);simp only[←List.length_pos_iff]at*;omega)|(simp_all;done)|(have:= @Qg6;simp_all;try omega))))
def Qrx:LInv:={
 α:=(Int)
 F:=λst a=>([(1,(lk st 1)),(2, .ptr 0 0 0),(5, .int i64 a)],[⟨true,38,2, .gen [[(cT st 2 0),(cT st 2 1)]]⟩])
 a0:=λst=>(lk st 5).toInt
 ex0:=λst=>[]++[(Q0x (lk st 2) (st.rows.length+0))]
 next:=λst=>(lk st 5).toInt
 ex:=λst=>[]++[(Q0x (lk st 2) (st.rows.length+0))]}
def Qp4:List (Nat×LInv):=[(2,Qrx)]
def Qvg:Q0d:=mkR 70 [] true [.agg Q06.sig, .one (.int .i64)] [] (λargs rows=>Q9y (Q06.of (args.getD 0 .dead).cells) (argI args 1)) (λX=> .bool X) (λX=>[])
theorem Qt3:Q07 Tryz.prog Qvg:=Q10 Q0j Q0k (.nil) Tryz.func70 Tryz.call70 (λargs rows=>Q62 (Q06.of (args.getD 0 .dead).cells) (argI args 1)) [] Qp4 3 (λ_ _ _=>by kernel_rfl) (λ_ _=>rfl) (λargs rows=>Qqa (Q06.of (args.getD 0 .dead).cells) (argI args 1)) (λ_ X=>by kernel_rfl)
def Quh(m:Q00):Tree Bool:=
.lv (Q4e m.Mem) λ(x0:Int)=> .br (decide (x0<1)) (.lf false) (.br (m.B2.X.a0 !=0) (.lf false) (.br (decide (m.B2.B6.a0>31)) (.lf false) (.br (decide (m.B2.B6.a7>31)) (.lf false) (.br (decide (m.B2.B6.a6>255)) (.lf false) (.br (Int.tmod m.B2.B6.a1 (4:Int) !=(0:Int)) (.lf false) (.lv (Qhq m.A6) λ(x1:Bool)=> .br (!x1) (.lf false) (.lv (Qde m.B0) λ(x2:Bool)=> .br (!x2) (.lf false) (.lv (Qf3 m.B1 x0) λ(x3:Bool)=> .br (!x3) (.lf false) (.lv (Qiv m.C5 x0) λ(x4:Bool)=> .br (!x4) (.lf false) (.lv (Q9y m.A2 x0) λ(x5:Bool)=> .br (!x5) (.lf false) (.br (decide (m.A1≤1152921504606846976)) (.br m.A7 (.lf (!m.A9)) (.lf true)) (.lf false))))))))))))
def Q7o(m:Q00):Bool:=(Quh m).m
def Zk:Q0d:=mkR 32 [] true [.agg Q00.sig] [] (λargs rows=>Q7o (Q00.of (args.getD 0 .dead).cells)) (λX=> .bool X) (λX=>[])
theorem Z0y:Q07 Tryz.prog Zk:=Q10 Q0j Q0k (.cons Qd (.cons Qrl (.cons Qxh (.cons Z1f (.cons Z3r (.cons Qt3 (.nil))))))) Tryz.func32 Tryz.call32 (λargs rows=>Quh (Q00.of (args.getD 0 .dead).cells)) [] [] 2 (λ_ _ _=>by kernel_rfl) (λ_ _=>rfl) (λ_ _=>Tree.free_ok (by kernel_rfl)) (λ_ X=>by kernel_rfl)
def Qac(t:Q0g):Tree (Q0g×Bool):=
.br (!t.D2) (.lf (t,false)) (.lf ({D2:=false,C8:=t.C8,D5:=true},true))
def Q7a(t:Q0g):(Q0g×Bool):=(Qac t).m
def Zfo:Q0d:=mkR 107 [] true [.agg Q0g.sig] [] (λargs rows=>Q7a (Q0g.of (args.getD 0 .dead).cells)) (λX=> .tup [.agg (Q0g.cells (X.1)), .bool (X.2)]) (λX=>[])
theorem Zdx:Q07 Tryz.prog Zfo:=Q10 Q0j Q0k (.nil) Tryz.func107 Tryz.call107 (λargs rows=>Qac (Q0g.of (args.getD 0 .dead).cells)) [] [] 2 (λ_ _ _=>by kernel_rfl) (λ_ _=>rfl) (λ_ _=>Tree.free_ok (by kernel_rfl)) (λ_ X=>by kernel_rfl)
def Qca(c:Q0b)(b:Int):Tree (Q0b×Bool):=
.br (decide ((c.D3.length:Int)≥(16:Int))) (.lf (c,false)) (.cn (decide (c.D3.length+1≤maxLen)) (.lf ({D3:=c.D3++[(λ(n:Int)=>UInt8.ofNat n.toNat) b]},true)))
def Qkg(c:Q0b)(b:Int):(Q0b×Bool):=(Qca c b).m
abbrev Qlm(c:Q0b)(b:Int):Prop:=(Qca c b).p
def Zg8:Q0d:=mkP 108 [] true [.agg Q0b.sig, .one (.int .u8)] [] (λargs rows=>Qlm (Q0b.of (args.getD 0 .dead).cells) (argI args 1)) (λargs rows=>Qkg (Q0b.of (args.getD 0 .dead).cells) (argI args 1)) (λX=> .tup [.agg (Q0b.cells (X.1)), .bool (X.2)]) (λX=>[])
theorem Zd2:Q07 Tryz.prog Zg8:=Q0p Q0j Q0k (.nil) Tryz.func108 Tryz.call108 (λargs rows=>Qca (Q0b.of (args.getD 0 .dead).cells) (argI args 1)) [] [] 2 (λ_ _ _=>by kernel_rfl) (λ_ _=>rfl) (λ_ _ h=>h) (λ_ X=>by kernel_rfl)
def Qig(m:(List Int))(frame:Int):Tree Bool:=
.lv (Q4e m) λ(x0:Int)=> .lf (decide (wrap u64 frame<wrap u64 x0))
def Q2e(m:(List Int))(frame:Int):Bool:=(Qig m frame).m
def Zep:Q0d:=mkR 162 [] true [.one (.ints .u32), .one (.int .u32)] [] (λargs rows=>Q2e (argL .u32 args 0) (argI args 1)) (λX=> .bool X) (λX=>[])
theorem Qf6:Q07 Tryz.prog Zep:=Q10 Q0j Q0k (.cons Qd (.nil)) Tryz.func162 Tryz.call162 (λargs rows=>Qig (argL .u32 args 0) (argI args 1)) [] [] 2 (λ_ _ _=>by kernel_rfl) (λ_ _=>rfl) (λ_ _=>Tree.free_ok (by kernel_rfl)) (λ_ X=>by kernel_rfl)
def Qe(m:(List Int))(addr:Int)(size:Int)(v:Int):Tree (List Int):=
let E1:=Nat.beq 1 1&&Nat.blt 0 1&&decide (0≤wrap u32 (Int.tdiv addr 4)∧wrap u32 (Int.tdiv addr 4)<(m.length:Int));let E2:=Int.toNat (wrap u32 (Int.tdiv addr 4)); .br (size==4) (.cn E1 (.lf (List.set m E2 v))) (.cn E1 (let E3:=decide (0≤wrap u32 (8*Int.tmod addr 4)); .cn E3 (.cn E3 (.cn E1 (.lf (List.set m E2 (ior u32 (Qgm u32 (m.getD E2 0) (ishl u32 255 (wrap u32 (8*Int.tmod addr 4)))) (ishl u32 (iand u32 v 255) (wrap u32 (8*Int.tmod addr 4))))))))))
def Qb2(m:(List Int))(addr:Int)(size:Int)(v:Int):(List Int):=(Qe m addr size v).m
abbrev Qey(m:(List Int))(addr:Int)(size:Int)(v:Int):Prop:=(Qe m addr size v).p
def Zl2:Q0d:=mkP 207 [true,false,false,false] true [.one (.row 0), .one (.int .u32), .one (.int .i64), .one (.int .u32)] [.arr 23 1 (.ints .u32)] (λargs rows=>Qey (rowL .u32 rows 0) (argI args 1) (argI args 2) (argI args 3)) (λargs rows=>Qb2 (rowL .u32 rows 0) (argI args 1) (argI args 2) (argI args 3)) (λX=> .tup []) (λX=>[⟨false,23,1, .ints .u32 X⟩])
theorem Z0n:Q07 Tryz.prog Zl2:=Q0p Q0j Q0k (.nil) Tryz.func207 Tryz.call207 (λargs rows=>Qe (rowL .u32 rows 0) (argI args 1) (argI args 2) (argI args 3)) [] [] 2 (λ_ _ _=>by kernel_rfl) (λ_ _=>rfl) (λ_ _ h=>h) (λ_ X=>by kernel_rfl)
def Qj(m:(List Int))(frame:Int)(s:(List UInt8))(z:(Int)×(List Int)):Nat:=(128-z.1).toNat
def Qab(m:(List Int))(frame:Int)(s:(List UInt8)):Tree (List Int):=
.lp inferInstance (Qj m frame s (0,m)+1) ((True∧rE (frame:Int)∧rE (s:List UInt8)∧rE (0:Int)∧True)∧rE (m:List Int)∧True) (0,m) λ(v0:Int×List Int)=> .br (decide (v0.1<(s.length:Int))) (.br (decide (v0.1<128)) (.cn (decide (0≤v0.1∧v0.1<(s.length:Int))) (let E1:=wrap u32 (↑(UInt8.toNat (s.getD v0.1.toNat (0:UInt8))):Int);let E2:=wrap u32 (wrap i64 (wrap i64 (frame*128)+v0.1)); .an (Qey v0.2 E2 1 E1) (.lv (Qb2 v0.2 E2 1 E1) λ(x0:List Int)=> .nx ((True∧rE (frame:Int)∧rE (s:List UInt8)∧rE ((wrap i64 (v0.1+1)):Int)∧True)∧rE (x0:List Int)∧True) (Sum.inl (wrap i64 (v0.1+1),x0))))) (.lf (Sum.inr v0.2))) (.lf (Sum.inr v0.2))
def Qku(m:(List Int))(frame:Int)(s:(List UInt8)):(List Int):=(Qab m frame s).m
abbrev Qlb(m:(List Int))(frame:Int)(s:(List UInt8)):Prop:=(Qab m frame s).p
def Z9k:LInv:={
 α:=(Int)×(List Int)
 F:=λst a=>([(0, .all 0),(1,(lk st 1)),(2,(lk st 2)),(6, .int i64 a.1)],[⟨false,23,1, .ints u32 a.2⟩])
 a0:=λst=>((lk st 6).toInt,(Q8a st.rows 0))
 ex0:=λst=>[0]++[]
 next:=λst=>((lk st 6).toInt,(Q8a st.rows 0))
 ex:=λst=>[0]++[]}
def Z20:List (Nat×LInv):=[(1,Z9k)]
def Zfu:Q0d:=mkP 163 [true,false,false] true [.one (.row 0), .one (.int .i64), .one (.str)] [.arr 23 1 (.ints .u32)] (λargs rows=>Qlb (rowL .u32 rows 0) (argI args 1) (argS args 2)) (λargs rows=>Qku (rowL .u32 rows 0) (argI args 1) (argS args 2)) (λX=> .tup []) (λX=>[⟨false,23,1, .ints .u32 X⟩])
theorem Qws:Q07 Tryz.prog Zfu:=Q0p Q0j Q0k (.cons Z0n (.nil)) Tryz.func163 Tryz.call163 (λargs rows=>Qab (rowL .u32 rows 0) (argI args 1) (argS args 2)) [] Z20 3 (λ_ _ _=>by kernel_rfl) (λ_ _=>rfl) (λ_ _ h=>h) (λ_ X=>by kernel_rfl)
def Q73(d0:Q0c)(m:(List Int))(e:Q08):Tree (Q0c×Bool×(List Int)):=
.br (d0.C0 !=1) (.lf (d0,false,m)) (.br (e.B5 !=4) (.lf (d0,false,m)) (.br (decide (e.N>1)) (.lf (d0,false,m)) (let E4:=({Blocks:=d0.Blocks,C1:=d0.C1,B4:=d0.B4,C0:=2,D8:=0,B7:=0,B3:=0,C4:=[]}:Q0c);let E5:=({Blocks:=d0.Blocks,C1:=d0.C1,B4:=d0.B4,C0:=3,D8:=0,B7:=0,B3:=0,C4:=[]}:Q0c);let T2:Tree ((Q0c×Bool×(List Int))):= .br (e.N==1) (.lf (E4,true,m)) (.lf (E5,true,m));let E6:=decide ((e.C6.length:Int)>(0:Int)); .br (e.N==1) (let T1:Tree ((Q0c×Bool×(List Int))):= .br (d0.D8==1) (.an (Qlb m (wrap i64 d0.B3) e.C6) (.lv (Qku m (wrap i64 d0.B3) e.C6) λ(x1:List Int)=> .br (e.N==1) (.lf (E4,true,x1)) (.lf (E5,true,x1)))) T2;let T3:Tree ((Q0c×Bool×(List Int))):= .br (!d0.D8==1) (.br E6 (.lf (d0,false,m)) T1) T1; .br (d0.D8==1) (.br ((e.C6.length:Int) !=(128:Int)) (.lf (d0,false,m)) (.lv (Q2e m d0.B3) λ(x0:Bool)=> .br (!x0) (.lf (d0,false,m)) T3)) T3) (.br E6 (.lf (d0,false,m)) T2))))
def Q8r(d0:Q0c)(m:(List Int))(e:Q08):(Q0c×Bool×(List Int)):=(Q73 d0 m e).m
abbrev Qip(d0:Q0c)(m:(List Int))(e:Q08):Prop:=(Q73 d0 m e).p
def Z9:Q0d:=mkP 109 [false,true,false] true [.agg Q0c.sig, .one (.row 0), .agg Q08.sig] [.arr 23 1 (.ints .u32)] (λargs rows=>Qip (Q0c.of (args.getD 0 .dead).cells) (rowL .u32 rows 0) (Q08.of (args.getD 2 .dead).cells)) (λargs rows=>Q8r (Q0c.of (args.getD 0 .dead).cells) (rowL .u32 rows 0) (Q08.of (args.getD 2 .dead).cells)) (λX=> .tup [.agg (Q0c.cells (X.1)), .bool (X.2.1)]) (λX=>[⟨false,23,1, .ints .u32 (X.2.2)⟩])
theorem Z34:Q07 Tryz.prog Z9:=Q0p Q0j Q0k (.cons Qf6 (.cons Qws (.nil))) Tryz.func109 Tryz.call109 (λargs rows=>Q73 (Q0c.of (args.getD 0 .dead).cells) (rowL .u32 rows 0) (Q08.of (args.getD 2 .dead).cells)) [] [] 2 (λ_ _ _=>by kernel_rfl) (λ_ _=>rfl) (λ_ _ h=>h) (λ_ X=>by kernel_rfl)
def Q70(n:Q0o)(m:(List Int))(frame:(List UInt8)):Tree (Q0o×Bool×(List Int)):=
.br (!n.C7) (.lf (n,false,m)) (.br (decide ((frame.length:Int)<(1:Int))) (.lf (n,false,m)) (.br (decide ((frame.length:Int)>(128:Int))) (.lf (n,false,m)) (.lv (Q2e m n.B9) λ(x0:Bool)=> .br (!x0) (.lf (n,false,m)) (.an (Qlb m (wrap i64 n.B9) frame) (.lv (Qku m (wrap i64 n.B9) frame) λ(x1:List Int)=> .lf ({B4:=n.B4,E0:=n.E0,C7:=false,B9:=0,B8:=true,F1:=wrap u32 (frame.length:Int)},true,x1))))))
def Q8i(n:Q0o)(m:(List Int))(frame:(List UInt8)):(Q0o×Bool×(List Int)):=(Q70 n m frame).m
abbrev Qiu(n:Q0o)(m:(List Int))(frame:(List UInt8)):Prop:=(Q70 n m frame).p
def Z8b:Q0d:=mkP 110 [false,true,false] true [.agg Q0o.sig, .one (.row 0), .one (.str)] [.arr 23 1 (.ints .u32)] (λargs rows=>Qiu (Q0o.of (args.getD 0 .dead).cells) (rowL .u32 rows 0) (argS args 2)) (λargs rows=>Q8i (Q0o.of (args.getD 0 .dead).cells) (rowL .u32 rows 0) (argS args 2)) (λX=> .tup [.agg (Q0o.cells (X.1)), .bool (X.2.1)]) (λX=>[⟨false,23,1, .ints .u32 (X.2.2)⟩])
theorem Z3v:Q07 Tryz.prog Z8b:=Q0p Q0j Q0k (.cons Qf6 (.cons Qws (.nil))) Tryz.func110 Tryz.call110 (λargs rows=>Q70 (Q0o.of (args.getD 0 .dead).cells) (rowL .u32 rows 0) (argS args 2)) [] [] 2 (λ_ _ _=>by kernel_rfl) (λ_ _=>rfl) (λ_ _ h=>h) (λ_ X=>by kernel_rfl)
def Q4p(m:Q00)(e:Q08):Tree (Bool×Q00):=
.br m.A9 (.lf (false,m)) (let T1:Tree ((Bool×Q00)):= .br (e.B5==4) (.an (Qip m.B1 m.Mem e) (.lv (Q8r m.B1 m.Mem e) λ(x2:Q0c×Bool×List Int)=> .lf (x2.2.1,{B2:=m.B2,Mem:=x2.2.2,A6:=m.A6,B0:=m.B0,B1:=x2.1,C5:=m.C5,A2:=m.A2,A1:=m.A1,A7:=m.A7,A9:=m.A9}))) (let T3:Tree ((Bool×Q00)):= .br (e.B5==6) (.br (decide (e.C6=[])) (.lf (true,{B2:=m.B2,Mem:=m.Mem,A6:=m.A6,B0:=m.B0,B1:=m.B1,C5:=m.C5,A2:={C9:=e.N,C3:=m.A2.C3},A1:=m.A1,A7:=m.A7,A9:=m.A9})) (.lf (false,m))) (.lf (false,m)); .br (e.B5==5) (.br (e.N==0) (.an (Qiu m.C5 m.Mem e.C6) (.lv (Q8i m.C5 m.Mem e.C6) λ(x3:Q0o×Bool×List Int)=> .lf (x3.2.1,{B2:=m.B2,Mem:=x3.2.2,A6:=m.A6,B0:=m.B0,B1:=m.B1,C5:=x3.1,A2:=m.A2,A1:=m.A1,A7:=m.A7,A9:=m.A9}))) T3) T3);let T2:Tree ((Bool×Q00)):= .br (e.B5==3) (.br (decide (e.N≤255)) (.br (decide (e.C6=[])) (.an (Qlm m.A6 (wrap u8 e.N)) (.lv (Qkg m.A6 (wrap u8 e.N)) λ(x1:Q0b×Bool)=> .lf (x1.2,{B2:=m.B2,Mem:=m.Mem,A6:=x1.1,B0:=m.B0,B1:=m.B1,C5:=m.C5,A2:=m.A2,A1:=m.A1,A7:=m.A7,A9:=m.A9}))) T1) T1) T1; .br (e.B5==2) (.br (e.N==0) (.br (decide (e.C6=[])) (.lv (Q7a m.B0) λ(x0:Q0g×Bool)=> .lf (x0.2,{B2:=m.B2,Mem:=m.Mem,A6:=m.A6,B0:=x0.1,B1:=m.B1,C5:=m.C5,A2:=m.A2,A1:=m.A1,A7:=m.A7,A9:=m.A9})) T2) T2) T2)
def Q0m(m:Q00)(e:Q08):(Bool×Q00):=(Q4p m e).m
abbrev Qpg(m:Q00)(e:Q08):Prop:=(Q4p m e).p
def Zds:Q0d:=mkP 73 [true,false] true [.ptr 0, .agg Q08.sig] [.box 41 49 (Q00.sigW (.row 1)), .arr 23 1 (.ints .u32)] (λargs rows=>Qpg (Q00.ofW (rows.getD 0 default).cs (rowL .u32 rows 1)) (Q08.of (args.getD 1 .dead).cells)) (λargs rows=>Q0m (Q00.ofW (rows.getD 0 default).cs (rowL .u32 rows 1)) (Q08.of (args.getD 1 .dead).cells)) (λX=> .bool (X.1)) (λX=>[⟨true,41,49, .gen [(Q00.cellsW (X.2) (.all 1))]⟩,⟨false,23,1, .ints .u32 (X.2).Mem⟩])
theorem Qt1:Q07 Tryz.prog Zds:=Q0p Q0j Q0k (.cons Zdx (.cons Zd2 (.cons Z34 (.cons Z3v (.nil))))) Tryz.func73 Tryz.call73 (λargs rows=>Q4p (Q00.ofW (rows.getD 0 default).cs (rowL .u32 rows 1)) (Q08.of (args.getD 1 .dead).cells)) [.row 23 1 (.ints .u32)] [] 2 (λ_ _ _=>by kernel_rfl) (λ_ _=>rfl) (λ_ _ h=>h) (λ_ X=>by kernel_rfl)
def Qjw(m:Q01)(e:Q08):Tree (Bool×Q01):=
.br m.A0.A9 (.lf (false,m)) (let T1:Tree ((Bool×Q01)):= .br (e.B5==4) (.an (Qip m.A0.B1 m.A0.Mem e) (.lv (Q8r m.A0.B1 m.A0.Mem e) λ(x2:Q0c×Bool×List Int)=> .lf (x2.2.1,{A0:={B2:=m.A0.B2,Mem:=x2.2.2,A6:=m.A0.A6,B0:=m.A0.B0,B1:=x2.1,C5:=m.A0.C5,A2:=m.A0.A2,A1:=m.A0.A1,A7:=m.A0.A7,A9:=m.A0.A9},A4:=m.A4,C2:=m.C2,A3:=m.A3}))) (let T3:Tree ((Bool×Q01)):= .br (e.B5==6) (.br (decide (e.C6=[])) (.lf (true,{A0:={B2:=m.A0.B2,Mem:=m.A0.Mem,A6:=m.A0.A6,B0:=m.A0.B0,B1:=m.A0.B1,C5:=m.A0.C5,A2:={C9:=e.N,C3:=m.A0.A2.C3},A1:=m.A0.A1,A7:=m.A0.A7,A9:=m.A0.A9},A4:=m.A4,C2:=m.C2,A3:=m.A3})) (.lf (false,m))) (.lf (false,m)); .br (e.B5==5) (.br (e.N==0) (.an (Qiu m.A0.C5 m.A0.Mem e.C6) (.lv (Q8i m.A0.C5 m.A0.Mem e.C6) λ(x3:Q0o×Bool×List Int)=> .lf (x3.2.1,{A0:={B2:=m.A0.B2,Mem:=x3.2.2,A6:=m.A0.A6,B0:=m.A0.B0,B1:=m.A0.B1,C5:=x3.1,A2:=m.A0.A2,A1:=m.A0.A1,A7:=m.A0.A7,A9:=m.A0.A9},A4:=m.A4,C2:=m.C2,A3:=m.A3}))) T3) T3);let T2:Tree ((Bool×Q01)):= .br (e.B5==3) (.br (decide (e.N≤255)) (.br (decide (e.C6=[])) (.an (Qlm m.A0.A6 (wrap u8 e.N)) (.lv (Qkg m.A0.A6 (wrap u8 e.N)) λ(x1:Q0b×Bool)=> .lf (x1.2,{A0:={B2:=m.A0.B2,Mem:=m.A0.Mem,A6:=x1.1,B0:=m.A0.B0,B1:=m.A0.B1,C5:=m.A0.C5,A2:=m.A0.A2,A1:=m.A0.A1,A7:=m.A0.A7,A9:=m.A0.A9},A4:=m.A4,C2:=m.C2,A3:=m.A3}))) T1) T1) T1; .br (e.B5==2) (.br (e.N==0) (.br (decide (e.C6=[])) (.lv (Q7a m.A0.B0) λ(x0:Q0g×Bool)=> .lf (x0.2,{A0:={B2:=m.A0.B2,Mem:=m.A0.Mem,A6:=m.A0.A6,B0:=x0.1,B1:=m.A0.B1,C5:=m.A0.C5,A2:=m.A0.A2,A1:=m.A0.A1,A7:=m.A0.A7,A9:=m.A0.A9},A4:=m.A4,C2:=m.C2,A3:=m.A3})) T2) T2) T2)
def Qnw(m:Q01)(e:Q08):(Bool×Q01):=(Qjw m e).m
abbrev Qxa(m:Q01)(e:Q08):Prop:=(Qjw m e).p
def Qi2(m:Q01)(e:Q08):Tree (Bool×Q01):=
.an (Qxa m e) (.lv (Qnw m e) λ(x0:Bool×Q01)=> .lf (x0.1,x0.2))
def Qlq(m:Q01)(e:Q08):(Bool×Q01):=(Qi2 m e).m
abbrev Qus(m:Q01)(e:Q08):Prop:=(Qi2 m e).p
def Ql8(r:Q01)(e:Q08):Tree Q01:=
.an (Qus r e) (.lv (Qlq r e) λ(x0:Bool×Q01)=> .br x0.1 (.cn (decide (40*(x0.2.C2.length+1)≤140737488355328)) (.lf ({A0:=x0.2.A0,A4:=x0.2.A4,C2:=x0.2.C2++[{At:=x0.2.A0.A1,D0:=e}],A3:=x0.2.A3}))) (.lf x0.2))
def Qll(r:Q01)(e:Q08):Q01:=(Ql8 r e).m
abbrev Qnx(r:Q01)(e:Q08):Prop:=(Ql8 r e).p
def Qix(is:Bool)(n:Int):Tree Int:=
.br is (.cn (decide (0≤wrap u64 n)) (.lf (ishl u32 1 (wrap u64 n)))) (.lf 0)
def Q9z(is:Bool)(n:Int):Int:=(Qix is n).m
abbrev Qb(is:Bool)(n:Int):Prop:=(Qix is n).p
def Zh1:Q0d:=mkP 219 [] true [.one (.bool), .one (.int .i64)] [] (λargs rows=>Qb (argB args 0) (argI args 1)) (λargs rows=>Q9z (argB args 0) (argI args 1)) (λX=> .int .u32 X) (λX=>[])
theorem Zbl:Q07 Tryz.prog Zh1:=Q0p Q0j Q0k (.nil) Tryz.func219 Tryz.call219 (λargs rows=>Qix (argB args 0) (argI args 1)) [] [] 2 (λ_ _ _=>by kernel_rfl) (λ_ _=>rfl) (λ_ _ h=>h) (λ_ X=>by kernel_rfl)
def Qia(t:Q0g):Tree Bool:=
.lf t.D5
def Qaj(t:Q0g):Bool:=(Qia t).m
def Qr0:Q0d:=mkR 220 [] true [.agg Q0g.sig] [] (λargs rows=>Qaj (Q0g.of (args.getD 0 .dead).cells)) (λX=> .bool X) (λX=>[])
theorem Qp5:Q07 Tryz.prog Qr0:=Q10 Q0j Q0k (.nil) Tryz.func220 Tryz.call220 (λargs rows=>Qia (Q0g.of (args.getD 0 .dead).cells)) [] [] 2 (λ_ _ _=>by kernel_rfl) (λ_ _=>rfl) (λ_ _=>Tree.free_ok (by kernel_rfl)) (λ_ X=>by kernel_rfl)
def Qfo(c:Q0b):Tree Bool:=
.lf (decide ((c.D3.length:Int)>(0:Int)))
def Q67(c:Q0b):Bool:=(Qfo c).m
def Qn5:Q0d:=mkR 221 [] true [.agg Q0b.sig] [] (λargs rows=>Q67 (Q0b.of (args.getD 0 .dead).cells)) (λX=> .bool X) (λX=>[])
theorem Qml:Q07 Tryz.prog Qn5:=Q10 Q0j Q0k (.nil) Tryz.func221 Tryz.call221 (λargs rows=>Qfo (Q0b.of (args.getD 0 .dead).cells)) [] [] 2 (λ_ _ _=>by kernel_rfl) (λ_ _=>rfl) (λ_ _=>Tree.free_ok (by kernel_rfl)) (λ_ X=>by kernel_rfl)
def Qjf(d0:Q0c):Tree Bool:=
.br (d0.C0==2) (.lf true) (.lf (d0.C0==3))
def Qc1(d0:Q0c):Bool:=(Qjf d0).m
def Qrb:Q0d:=mkR 222 [] true [.agg Q0c.sig] [] (λargs rows=>Qc1 (Q0c.of (args.getD 0 .dead).cells)) (λX=> .bool X) (λX=>[])
theorem Qq9:Q07 Tryz.prog Qrb:=Q10 Q0j Q0k (.nil) Tryz.func222 Tryz.call222 (λargs rows=>Qjf (Q0c.of (args.getD 0 .dead).cells)) [] [] 2 (λ_ _ _=>by kernel_rfl) (λ_ _=>rfl) (λ_ _=>Tree.free_ok (by kernel_rfl)) (λ_ X=>by kernel_rfl)
def Qkn(n:Q0o):Tree Bool:=
.lf n.B8
def Qcu(n:Q0o):Bool:=(Qkn n).m
def Qu5:Q0d:=mkR 223 [] true [.agg Q0o.sig] [] (λargs rows=>Qcu (Q0o.of (args.getD 0 .dead).cells)) (λX=> .bool X) (λX=>[])
theorem Qsg:Q07 Tryz.prog Qu5:=Q10 Q0j Q0k (.nil) Tryz.func223 Tryz.call223 (λargs rows=>Qkn (Q0o.of (args.getD 0 .dead).cells)) [] [] 2 (λ_ _ _=>by kernel_rfl) (λ_ _=>rfl) (λ_ _=>Tree.free_ok (by kernel_rfl)) (λ_ X=>by kernel_rfl)
def Qo3(b:Q06)(z:(Int)×(Int)):Prop:=0≤z.2∧z.2≤32
def Qg(b:Q06)(z:(Int)×(Int)):Nat:=(32-z.2).toNat
def Qjd(b:Q06):Tree Int:=
.lp inferInstance (Qg b (0,0)+1) (((rE (0:Nat)∧rE (0:Nat))∧rE (0:Int)∧rE (0:Int)∧True)∧(rE b.C9∧rE b.C3∧True)∧True) (0,0) λ(v0:Int×Int)=> .br (decide (v0.2<32)) (.cn (decide (0≤wrap u64 v0.2)) (.nx (((rE (0:Nat)∧rE (0:Nat))∧rE ((wrap i64 (v0.1+wrap i64 (iand u32 (ishr u32 b.C3 (wrap u64 v0.2)) 1))):Int)∧rE ((wrap i64 (v0.2+1)):Int)∧True)∧(rE b.C9∧rE b.C3∧True)∧True) (Sum.inl (wrap i64 (v0.1+wrap i64 (iand u32 (ishr u32 b.C3 (wrap u64 v0.2)) 1)),wrap i64 (v0.2+1))))) (.lf (Sum.inr v0.1))
def Qdx(b:Q06):Int:=(Qjd b).m
theorem Z3j(b:Q06):(Qjd b).p:=by
 unfold Tree.p Qjd
 repeat'(first|refine w_lp (inv:=Qo3 b) (μ:=Qg b) ?_ (Nat.lt_succ_self _) (λ_ _=> ?_)|exact trivial|refine w_br (λ_=> ?_) (λ_=> ?_)|refine w_cn ?_ ?_|refine w_an ?_ ?_|refine w_lv (λ_ _=> ?_)|refine w_nx ?_|refine w_lf ?_|refine And.intro ?_ ?_)
 all_goals((try simp only[Qo3,Qg]at*);((subst_vars;first|trivial|assumption|omega|((simp(config:={decide:=true,failIfUnchanged:=false}) only[Bool.and_eq_true,Bool.or_eq_true,Bool.and_eq_false_iff,Bool.or_eq_false_iff,Bool.not_eq_true',Bool.not_eq_false',Bool.not_eq_true,Bool.not_eq_false,decide_eq_true_eq,decide_eq_false_iff_not,Q57,Q3m,Q5a,Q3n,beq_iff_eq,beq_eq_false_iff_ne,bne_iff_ne,bne_eq_false_iff_eq,ne_eq,List.all_cons,List.all_nil,D.plain,List.length_cons,List.length_nil,List.length_append,List.length_set,List.length_replicate,IntKind.wrap_i64,IntKind.wrap_u64,IntKind.wrap_u32,IntKind.wrap_i32,IntKind.wrap_u8,true_and,and_true,or_false,false_or,or_true,true_or,not_true_eq_false,not_false_eq_true,Prod.fst,Prod.snd]at*);first|done|assumption|omega)|((simp(config:={decide:=true,failIfUnchanged:=false}) only[Bool.and_eq_true,Bool.or_eq_true,Bool.and_eq_false_iff,Bool.or_eq_false_iff,Bool.not_eq_true',Bool.not_eq_false',Bool.not_eq_true,Bool.not_eq_false,decide_eq_true_eq,decide_eq_false_iff_not,Q57,Q3m,Q5a,Q3n,beq_iff_eq,beq_eq_false_iff_ne,bne_iff_ne,bne_eq_false_iff_eq,ne_eq,List.all_cons,List.all_nil,D.plain,List.length_cons,List.length_nil,List.length_append,List.length_set,List.length_replicate,IntKind.wrap_i64,IntKind.wrap_u64,IntKind.wrap_u32,IntKind.wrap_i32,IntKind.wrap_u8,true_and,and_true,or_false,false_or,or_true,true_or,not_true_eq_false,not_false_eq_true,Prod.fst,Prod.snd]at*);simp only[←List.length_pos_iff]at*;omega)|(simp_all;done)|(have:= @Qg6;simp_all;try omega))))
def Z6d:LInv:={
 α:=(Int)×(Int)
 F:=λst a=>([(1, .ptr 0 0 0),(3, .int i64 a.1),(4, .int i64 a.2)],[⟨true,38,2, .gen [[(cT st 1 0),(cT st 1 1)]]⟩])
 a0:=λst=>((lk st 3).toInt,(lk st 4).toInt)
 ex0:=λst=>[]++[(Q0x (lk st 1) (st.rows.length+0))]
 next:=λst=>((lk st 3).toInt,(lk st 4).toInt)
 ex:=λst=>[]++[(Q0x (lk st 1) (st.rows.length+0))]}
def Z1d:List (Nat×LInv):=[(3,Z6d)]
def Zci:Q0d:=mkR 211 [] true [.agg Q06.sig] [] (λargs rows=>Qdx (Q06.of (args.getD 0 .dead).cells)) (λX=> .int .i64 X) (λX=>[])
theorem Qr3:Q07 Tryz.prog Zci:=Q10 Q0j Q0k (.nil) Tryz.func211 Tryz.call211 (λargs rows=>Qjd (Q06.of (args.getD 0 .dead).cells)) [] Z1d 3 (λ_ _ _=>by kernel_rfl) (λ_ _=>rfl) (λargs rows=>Z3j (Q06.of (args.getD 0 .dead).cells)) (λ_ X=>by kernel_rfl)
def Qa0(b:Q06):Tree Bool:=
.lv (Qdx b) λ(x0:Int)=> .lf (wrap u64 x0 !=wrap u64 b.C9)
def Q4d(b:Q06):Bool:=(Qa0 b).m
def Qo4:Q0d:=mkR 224 [] true [.agg Q06.sig] [] (λargs rows=>Q4d (Q06.of (args.getD 0 .dead).cells)) (λX=> .bool X) (λX=>[])
theorem Qmm:Q07 Tryz.prog Qo4:=Q10 Q0j Q0k (.cons Qr3 (.nil)) Tryz.func224 Tryz.call224 (λargs rows=>Qa0 (Q06.of (args.getD 0 .dead).cells)) [] [] 2 (λ_ _ _=>by kernel_rfl) (λ_ _=>rfl) (λ_ _=>Tree.free_ok (by kernel_rfl)) (λ_ X=>by kernel_rfl)
def Qfr(m:Q00):Tree Int:=
.lv (Qaj m.B0) λ(x0:Bool)=> .an (Qb x0 0) (.lv (Q9z x0 0) λ(x1:Int)=> .lv (Q67 m.A6) λ(x2:Bool)=> .an (Qb x2 1) (.lv (Q9z x2 1) λ(x3:Int)=> .lv (Qc1 m.B1) λ(x4:Bool)=> .an (Qb x4 2) (.lv (Q9z x4 2) λ(x5:Int)=> .lv (Qcu m.C5) λ(x6:Bool)=> .an (Qb x6 3) (.lv (Q9z x6 3) λ(x7:Int)=> .lv (Q4d m.A2) λ(x8:Bool)=> .an (Qb x8 4) (.lv (Q9z x8 4) λ(x9:Int)=> .lf (ior u32 (ior u32 (ior u32 (ior u32 x1 x3) x5) x7) x9))))))
def Qh1(m:Q00):Int:=(Qfr m).m
abbrev Qpi(m:Q00):Prop:=(Qfr m).p
def Zcq:Q0d:=mkP 169 [] true [.agg Q00.sig] [] (λargs rows=>Qpi (Q00.of (args.getD 0 .dead).cells)) (λargs rows=>Qh1 (Q00.of (args.getD 0 .dead).cells)) (λX=> .int .u32 X) (λX=>[])
theorem Z8j:Q07 Tryz.prog Zcq:=Q0p Q0j Q0k (.cons Zbl (.cons Qp5 (.cons Qml (.cons Qq9 (.cons Qsg (.cons Qmm (.nil))))))) Tryz.func169 Tryz.call169 (λargs rows=>Qfr (Q00.of (args.getD 0 .dead).cells)) [] [] 2 (λ_ _ _=>by kernel_rfl) (λ_ _=>rfl) (λ_ _ h=>h) (λ_ X=>by kernel_rfl)
def Q90(m:Q00):Tree Int:=
.an (Qpi m) (.lv (Qh1 m) λ(x0:Int)=> .lf (iand u32 x0 m.B2.B6.a7))
def Q3h(m:Q00):Int:=(Q90 m).m
abbrev Qg3(m:Q00):Prop:=(Q90 m).p
def Z36:Q0d:=mkP 115 [] true [.agg Q00.sig] [] (λargs rows=>Qg3 (Q00.of (args.getD 0 .dead).cells)) (λargs rows=>Q3h (Q00.of (args.getD 0 .dead).cells)) (λX=> .int .u32 X) (λX=>[])
theorem Qmn:Q07 Tryz.prog Z36:=Q0p Q0j Q0k (.cons Z8j (.nil)) Tryz.func115 Tryz.call115 (λargs rows=>Q90 (Q00.of (args.getD 0 .dead).cells)) [] [] 2 (λ_ _ _=>by kernel_rfl) (λ_ _=>rfl) (λ_ _ h=>h) (λ_ X=>by kernel_rfl)
def Qe0(m:Q00):Tree Bool:=
.br m.A7 (.an (Qg3 m) (.lv (Q3h m) λ(x0:Int)=> .lf (x0==0))) (.lf false)
def Qdj(m:Q00):Bool:=(Qe0 m).m
abbrev Qlp(m:Q00):Prop:=(Qe0 m).p
def Zh2:Q0d:=mkP 81 [] true [.agg Q00.sig] [] (λargs rows=>Qlp (Q00.of (args.getD 0 .dead).cells)) (λargs rows=>Qdj (Q00.of (args.getD 0 .dead).cells)) (λX=> .bool X) (λX=>[])
theorem Ze:Q07 Tryz.prog Zh2:=Q0p Q0j Q0k (.cons Qmn (.nil)) Tryz.func81 Tryz.call81 (λargs rows=>Qe0 (Q00.of (args.getD 0 .dead).cells)) [] [] 2 (λ_ _ _=>by kernel_rfl) (λ_ _=>rfl) (λ_ _ h=>h) (λ_ X=>by kernel_rfl)
def Qfv(m:Q00):Tree Bool:=
.lv (Q7o m) λ(x0:Bool)=> .br (!x0) (.lf true) (.br m.A9 (.lf true) (.an (Qlp m) (.lv (Qdj m) λ(x1:Bool)=> .br x1 (.lf true) (.lf (decide (m.A1≥1152921504606846976))))))
def Q0u(m:Q00):Bool:=(Qfv m).m
abbrev Qjs(m:Q00):Prop:=(Qfv m).p
end
end Go.Proofs.YtpcbkbalabgnlaaGreat

/-
  Functions of the program: models, and that its calls come to them (by a program: gen3.py).
-/
import Derived.Test.YtjaifpiopmhmlaaGreatBareSeesBase
import Derived.Test.YtjaifpiopmhmlaaGreatBareSeesYe
set_option maxRecDepth 100000
set_option linter.all false
namespace Go.Proofs.YtjaifpiopmhmlaaGreat
open Go Go.GD Go.IntKind
noncomputable section
def Qd8(m:(List Int)):Tree (List Int):=
.cn (Nat.blt (0:Nat) (1:Nat)&&Nat.beq (1:Nat) (1:Nat)&&List.all [D.int u32 (0:Int)] D.plain&&decide ((0:Int)<=(m.length:Int)/\(m.length:Int)<=(m.length:Int)/\(m.length:Int)<=(9223372036854775807:Int)/\(↑(4:Nat):Int)*(m.length:Int)<=(140737488355328:Int))) (let E1:=List.length (List.replicate (Int.toNat (m.length:Int)) (0:Int)); .lf (List.take (Min.min (m.length) E1) m++List.drop (Min.min (m.length) E1) (List.replicate (Int.toNat (m.length:Int)) (0:Int))))
def Qsg(m:(List Int)):(List Int):=(Qd8 m).m
abbrev Qro(m:(List Int)):Prop:=(Qd8 m).p
def Zgj:Q0b:=mkP 114 [] true [.one (.ints .u32)] [] (λargs rows=>Qro (argL .u32 args 0)) (λargs rows=>Qsg (argL .u32 args 0)) (λX=> .all 0) (λX=>[⟨false,23,1, .ints .u32 X⟩])
theorem Zb:Q05 Tryz.prog Zgj:=Q0k Q0j Q0h (.nil) Tryz.func114 Tryz.call114 (λargs rows=>Qd8 (argL .u32 args 0)) [.row 23 1 (.ints .u32)] [] 2 (λ_ _ _=>by kernel_rfl) (λ_ _=>rfl) (λ_ _ h=>h) (λ_ X=>by kernel_rfl)
def Qbh(m:Q00):Tree Q00:=
.an (Qro m.Mem) (.lv (Qsg m.Mem) λ(x0:List Int)=> .lf ({B3:=m.B3,Mem:=x0,A1:=m.A1,B1:=m.B1,B0:=m.B0,C7:=m.C7,A2:=m.A2,A3:=m.A3,A6:=m.A6,A7:=m.A7}))
def Qky(m:Q00):Q00:=(Qbh m).m
abbrev Qez(m:Q00):Prop:=(Qbh m).p
def Zl9:Q0b:=mkP 53 [] true [.agg Q00.sig] [] (λargs rows=>Qez (Q00.of (args.getD 0 .dead).cells)) (λargs rows=>Qky (Q00.of (args.getD 0 .dead).cells)) (λX=> .agg (Q00.cellsW X (.all 0))) (λX=>[⟨false,23,1, .ints .u32 X.Mem⟩])
theorem Qqt:Q05 Tryz.prog Zl9:=Q0k Q0j Q0h (.cons Zb (.nil)) Tryz.func53 Tryz.call53 (λargs rows=>Qbh (Q00.of (args.getD 0 .dead).cells)) [.row 23 1 (.ints .u32)] [] 2 (λ_ _ _=>by kernel_rfl) (λ_ _=>rfl) (λ_ _ h=>h) (λ_ X=>by kernel_rfl)
def Qpu(n:Int)(k:Int)(z:(Int)×(List Int)):Prop:=0<=z.1/\(z.2.length:Int)=z.1/\(z.1<=k\/z.1=0)
def Qbn(n:Int)(k:Int)(z:(Int)×(List Int)):Nat:=(k-z.1).toNat
def Qcz(n:Int)(k:Int):Tree (List UInt8):=
.lp inferInstance (Qbn n k (0,[])+1) ((rE (n:Int)/\rE (k:Int)/\True/\rE (0:Int)/\True)/\rE ([]:List Int)/\True) (0,[]) λ(v0:Int×List Int)=> .br (decide (v0.1<k)) (.lv (Q2u n (wrap i64 (Int.tdiv v0.1 9))) λ(x0:Int)=> .cn (decide (1*(v0.2.length+1)<=140737488355328)) (.nx ((rE (n:Int)/\rE (k:Int)/\True/\rE ((wrap i64 (v0.1+1)):Int)/\True)/\rE ((v0.2++[wrap u8 x0]):List Int)/\True) (Sum.inl (wrap i64 (v0.1+1),v0.2++[wrap u8 x0])))) (.lf (Sum.inr (bytesOf v0.2)))
def Qtd(n:Int)(k:Int):(List UInt8):=(Qcz n k).m
def Q9s(n:Int)(k:Int):Prop:=
k<=1000000000000
theorem Z8m(n:Int)(k:Int)(hw:Q9s n k):(Qcz n k).p:=by
 simp only[Q9s]at hw
 unfold Tree.p Qcz
 repeat'(first|refine w_lp (inv:=Qpu n k) (μ:=Qbn n k) ?_ (Nat.lt_succ_self _) (λ_ _=> ?_)|exact trivial|refine w_br (λ_=> ?_) (λ_=> ?_)|refine w_cn ?_ ?_|refine w_an ?_ ?_|refine w_lv (λ_ _=> ?_)|refine w_nx ?_|refine w_lf ?_|refine And.intro ?_ ?_)
 all_goals((try simp only[Qpu,Qbn]at*);((subst_vars;first|trivial|assumption|omega|((simp(config:={decide:=true,failIfUnchanged:=false}) only[Bool.and_eq_true,Bool.or_eq_true,Bool.and_eq_false_iff,Bool.or_eq_false_iff,Bool.not_eq_true',Bool.not_eq_false',Bool.not_eq_true,Bool.not_eq_false,decide_eq_true_eq,decide_eq_false_iff_not,Q4f,Q2r,Q4i,Q2s,beq_iff_eq,beq_eq_false_iff_ne,bne_iff_ne,bne_eq_false_iff_eq,ne_eq,List.all_cons,List.all_nil,D.plain,List.length_cons,List.length_nil,List.length_append,List.length_set,List.length_replicate,IntKind.wrap_i64,IntKind.wrap_u64,IntKind.wrap_u32,IntKind.wrap_i32,IntKind.wrap_u8,true_and,and_true,or_false,false_or,or_true,true_or,not_true_eq_false,not_false_eq_true,Prod.fst,Prod.snd]at*);first|done|assumption|omega)|((simp(config:={decide:=true,failIfUnchanged:=false}) only[Bool.and_eq_true,Bool.or_eq_true,Bool.and_eq_false_iff,Bool.or_eq_false_iff,Bool.not_eq_true',Bool.not_eq_false',Bool.not_eq_true,Bool.not_eq_false,decide_eq_true_eq,decide_eq_false_iff_not,Q4f,Q2r,Q4i,Q2s,beq_iff_eq,beq_eq_false_iff_ne,bne_iff_ne,bne_eq_false_iff_eq,ne_eq,List.all_cons,List.all_nil,D.plain,List.length_cons,List.length_nil,List.length_append,List.length_set,List.length_replicate,IntKind.wrap_i64,IntKind.wrap_u64,IntKind.wrap_u32,IntKind.wrap_i32,IntKind.wrap_u8,true_and,and_true,or_false,false_or,or_true,true_or,not_true_eq_false,not_false_eq_true,Prod.fst,Prod.snd]at*);simp only[<-List.length_pos_iff]at*;omega)|(simp_all;done)|(have:= @Qf8;simp_all;try omega))))
def Zbk:LInv:={
 α:=(Int)×(List Int)
 F:=λst a=>([(0,(lk st 0)),(1,(lk st 1)),(5, .all 0),(6, .int i64 a.1)],[⟨false,5,1, .ints u8 a.2⟩])
 a0:=λst=>((lk st 6).toInt,(Q3k st.rows (rN st 5)))
 ex0:=λst=>[]++[(Q0n (lk st 5) (st.rows.length+0))]
 next:=λst=>((lk st 6).toInt,(Q3k st.rows (rN st 5)))
 ex:=λst=>[]++[(Q0n (lk st 5) (st.rows.length+0))]}
def Z49:List (Nat×LInv):=[(3,Zbk)]
def Zg9:Q0b:=mkP 65 [] true [.one (.int .i64), .one (.int .i64)] [] (λargs rows=>Q9s (argI args 0) (argI args 1)) (λargs rows=>Qtd (argI args 0) (argI args 1)) (λX=> .str X) (λX=>[])
theorem Zd2:Q05 Tryz.prog Zg9:=Q0k Q0j Q0h (.cons Ql7 (.nil)) Tryz.func65 Tryz.call65 (λargs rows=>Qcz (argI args 0) (argI args 1)) [] Z49 3 (λ_ _ _=>by kernel_rfl) (λ_ _=>rfl) (λargs rows h=>Z8m (argI args 0) (argI args 1) h) (λ_ X=>by kernel_rfl)
def Qdc(r:Q01):Tree Q01:=
.an (Qez r.A0) (.lv (Qky r.A0) λ(x0:Q00)=> .cn (decide (40*(0+r.C6.length)<=140737488355328)) (.cn (decide (32*(0+r.A4.length)<=140737488355328)) (.lf ({A0:=x0,A9:=r.A9,C6:=r.C6,A4:=r.A4}))))
def Qo2(r:Q01):Q01:=(Qdc r).m
abbrev Qlx(r:Q01):Prop:=(Qdc r).p
def Zf2:Q0b:=mkP 180 [] true [.agg Q01.sig] [] (λargs rows=>Qlx (Q01.of (args.getD 0 .dead).cells)) (λargs rows=>Qo2 (Q01.of (args.getD 0 .dead).cells)) (λX=> .agg (Q01.cellsW X (.all 0) (.all 1) (.all 2))) (λX=>[⟨false,23,1, .ints .u32 X.A0.Mem⟩,⟨false,72,4, .recs .apiEntry X.C6⟩,⟨false,70,3, .recs .apiEvent X.A4⟩])
theorem Qvz:Q05 Tryz.prog Zf2:=Q0k Q0j Q0h (.cons Qqt (.nil)) Tryz.func180 Tryz.call180 (λargs rows=>Qdc (Q01.of (args.getD 0 .dead).cells)) [.row 23 1 (.ints .u32), .row 72 4 (.recs .apiEntry), .row 70 3 (.recs .apiEvent)] [] 2 (λ_ _ _=>by kernel_rfl) (λ_ _=>rfl) (λ_ _ h=>h) (λ_ X=>by kernel_rfl)
def Qt1(e:Q0e):Tree Bool:=
.br (e.B5==1) (.lf (decide (e.C8=[]))) (.br (e.B5==6) (.lf (decide (e.C8=[]))) (.br (e.B5==2) (.br (e.N==0) (.lf (decide (e.C8=[]))) (.lf false)) (.br (e.B5==3) (.br (decide (e.N<=255)) (.lf (decide (e.C8=[]))) (.lf false)) (.br (e.B5==4) (.br (decide (e.N<=1)) (.br (decide (e.C8=[])) (.lf true) (.br (e.N==1) (.lf ((e.C8.length:Int)==(128:Int))) (.lf false))) (.lf false)) (.br (e.B5==5) (.br (e.N==0) (.br (decide ((e.C8.length:Int)>=(1:Int))) (.lf (decide ((e.C8.length:Int)<=(128:Int)))) (.lf false)) (.lf false)) (.lf false))))))
def Q2n(e:Q0e):Bool:=(Qt1 e).m
def Z6p:Q0b:=mkR 181 [] true [.agg Q0e.sig] [] (λargs rows=>Q2n (Q0e.of (args.getD 0 .dead).cells)) (λX=> .bool X) (λX=>[])
theorem Z35:Q05 Tryz.prog Z6p:=Q0x Q0j Q0h (.nil) Tryz.func181 Tryz.call181 (λargs rows=>Qt1 (Q0e.of (args.getD 0 .dead).cells)) [] [] 2 (λ_ _ _=>by kernel_rfl) (λ_ _=>rfl) (λ_ _=>Tree.free_ok (by kernel_rfl)) (λ_ X=>by kernel_rfl)
def Q84(r:Q01)(e:Q0e):Tree (Q01×Bool):=
.an (Qlx r) (.lv (Qo2 r) λ(x0:Q01)=> .lv (Q2n e) λ(x1:Bool)=> .br (!x1) (.lf (x0,false)) (.br (e.B5==1) (.lf (x0,false)) (.br (decide ((x0.A4.length:Int)>=(16:Int))) (.lf (x0,false)) (.cn (decide (32*(x0.A4.length+1)<=140737488355328)) (.lf ({A0:=x0.A0,A9:=x0.A9,C6:=x0.C6,A4:=x0.A4++[e]},true))))))
def Q2h(r:Q01)(e:Q0e):(Q01×Bool):=(Q84 r e).m
abbrev Qme(r:Q01)(e:Q0e):Prop:=(Q84 r e).p
def Z3x:Q0b:=mkP 128 [] true [.agg Q01.sig, .agg Q0e.sig] [] (λargs rows=>Qme (Q01.of (args.getD 0 .dead).cells) (Q0e.of (args.getD 1 .dead).cells)) (λargs rows=>Q2h (Q01.of (args.getD 0 .dead).cells) (Q0e.of (args.getD 1 .dead).cells)) (λX=> .tup [.agg (Q01.cellsW (X.1) (.all 0) (.all 1) (.all 2)), .bool (X.2)]) (λX=>[⟨false,23,1, .ints .u32 (X.1).A0.Mem⟩,⟨false,72,4, .recs .apiEntry (X.1).C6⟩,⟨false,70,3, .recs .apiEvent (X.1).A4⟩])
theorem Z02:Q05 Tryz.prog Z3x:=Q0k Q0j Q0h (.cons Qvz (.cons Z35 (.nil))) Tryz.func128 Tryz.call128 (λargs rows=>Q84 (Q01.of (args.getD 0 .dead).cells) (Q0e.of (args.getD 1 .dead).cells)) [.row 23 1 (.ints .u32), .row 72 4 (.recs .apiEntry), .row 70 3 (.recs .apiEvent)] [] 2 (λ_ _ _=>by kernel_rfl) (λ_ _=>rfl) (λ_ _ h=>h) (λ_ X=>by kernel_rfl)
def Q8s(n:Int):Tree Q0e:=
.lv (Q2u n 2) λ(x0:Int)=> .br (Int.tmod x0 (7:Int)==(0:Int)) (.lf ({B5:=2,N:=0,C8:=[]})) (.br (Int.tmod x0 (7:Int)==(1:Int)) (.lf ({B5:=3,N:=wrap u32 (iand i64 (ishr i64 x0 8) 255),C8:=[]})) (.br (Int.tmod x0 (7:Int)==(2:Int)) (.lf ({B5:=3,N:=wrap u32 (iand i64 (ishr i64 x0 8) 255),C8:=[]})) (.br (Int.tmod x0 (7:Int)==(3:Int)) (.lf ({B5:=4,N:=1,C8:=[]})) (.br (Int.tmod x0 (7:Int)==(4:Int)) (.an (Q9s x0 128) (.lv (Qtd x0 128) λ(x1:List UInt8)=> .lf ({B5:=4,N:=1,C8:=x1}))) (.br (Int.tmod x0 (7:Int)==(5:Int)) (let E1:=wrap i64 (1+Int.tmod (ishr i64 x0 8) 40); .an (Q9s x0 E1) (.lv (Qtd x0 E1) λ(x2:List UInt8)=> .lf ({B5:=5,N:=0,C8:=x2}))) (.br (Int.tmod (ishr i64 x0 8) (4:Int)==(0:Int)) (.lf ({B5:=4,N:=0,C8:=[]})) (.lf ({B5:=6,N:=wrap u32 (Int.tmod (ishr i64 x0 8) 3),C8:=[]}))))))))
def Q4a(n:Int):Q0e:=(Q8s n).m
abbrev Qq5(n:Int):Prop:=(Q8s n).p
def Za8:Q0b:=mkP 62 [] true [.one (.int .i64)] [] (λargs rows=>Qq5 (argI args 0)) (λargs rows=>Q4a (argI args 0)) (λX=> .agg (Q0e.cells X)) (λX=>[])
theorem Z7r:Q05 Tryz.prog Za8:=Q0k Q0j Q0h (.cons Ql7 (.cons Zd2 (.nil))) Tryz.func62 Tryz.call62 (λargs rows=>Q8s (argI args 0)) [] [] 2 (λ_ _ _=>by kernel_rfl) (λ_ _=>rfl) (λ_ _ h=>h) (λ_ X=>by kernel_rfl)
def Qmx(m:(List Int)):Tree Int:=
.br (Int.tmod (m.length:Int) (32:Int) !=(0:Int)) (.lf 0) (.br (decide ((m.length:Int)>(1024:Int))) (.lf 0) (.lf (wrap i64 (Int.tdiv (m.length:Int) 32))))
def Q3j(m:(List Int)):Int:=(Qmx m).m
def Zdx:Q0b:=mkR 86 [] true [.one (.ints .u32)] [] (λargs rows=>Q3j (argL .u32 args 0)) (λX=> .int .i64 X) (λX=>[])
theorem Qc0:Q05 Tryz.prog Zdx:=Q0x Q0j Q0h (.nil) Tryz.func86 Tryz.call86 (λargs rows=>Qmx (argL .u32 args 0)) [] [] 2 (λ_ _ _=>by kernel_rfl) (λ_ _=>rfl) (λ_ _=>Tree.free_ok (by kernel_rfl)) (λ_ X=>by kernel_rfl)
def Qkg(c:Q0a):Tree Bool:=
.lf (decide ((c.D5.length:Int)<=(16:Int)))
def Qij(c:Q0a):Bool:=(Qkg c).m
def Qto:Q0b:=mkR 87 [] true [.agg Q0a.sig] [] (λargs rows=>Qij (Q0a.of (args.getD 0 .dead).cells)) (λX=> .bool X) (λX=>[])
theorem Qs2:Q05 Tryz.prog Qto:=Q0x Q0j Q0h (.nil) Tryz.func87 Tryz.call87 (λargs rows=>Qkg (Q0a.of (args.getD 0 .dead).cells)) [] [] 2 (λ_ _ _=>by kernel_rfl) (λ_ _=>rfl) (λ_ _=>Tree.free_ok (by kernel_rfl)) (λ_ X=>by kernel_rfl)
def Qi(t:Q0f):Tree Bool:=
.br t.D4 (.br t.D9 (.lf false) (.br t.D4 (.lf (t.D1 !=0)) (.br t.D9 (.lf true) (.lf (t.D1==0))))) (.br t.D4 (.lf (t.D1 !=0)) (.br t.D9 (.lf true) (.lf (t.D1==0))))
def Qcl(t:Q0f):Bool:=(Qi t).m
def Z1i:Q0b:=mkR 88 [] true [.agg Q0f.sig] [] (λargs rows=>Qcl (Q0f.of (args.getD 0 .dead).cells)) (λX=> .bool X) (λX=>[])
theorem Qx:Q05 Tryz.prog Z1i:=Q0x Q0j Q0h (.nil) Tryz.func88 Tryz.call88 (λargs rows=>Qi (Q0f.of (args.getD 0 .dead).cells)) [] [] 2 (λ_ _ _=>by kernel_rfl) (λ_ _=>rfl) (λ_ _=>Tree.free_ok (by kernel_rfl)) (λ_ X=>by kernel_rfl)
def Qj9(d0:Q0d)(pages:Int):Tree Bool:=
.br (decide (d0.Blocks>64)) (.lf false) (.br (decide (d0.C1<0)) (.lf false) (.br (decide (d0.C1>3)) (.lf false) (.br (d0.C1 !=1) (.br (d0.F1==0) (.br (d0.B8==0) (.br (d0.B2==0) (.lf (decide (d0.C5=[]))) (.lf false)) (.lf false)) (.lf false)) (.br (decide (d0.B8>=d0.Blocks)) (.lf false) (.br (decide (wrap i64 d0.B2>=pages)) (.lf false) (.br (d0.F1==1) (.br (decide (d0.C5=[])) (.lf true) (.br (d0.F1==2) (.lf ((d0.C5.length:Int)==(128:Int))) (.lf false))) (.br (d0.F1==2) (.lf ((d0.C5.length:Int)==(128:Int))) (.lf false))))))))
def Qev(d0:Q0d)(pages:Int):Bool:=(Qj9 d0 pages).m
def Z2z:Q0b:=mkR 89 [] true [.agg Q0d.sig, .one (.int .i64)] [] (λargs rows=>Qev (Q0d.of (args.getD 0 .dead).cells) (argI args 1)) (λX=> .bool X) (λX=>[])
theorem Z1o:Q05 Tryz.prog Z2z:=Q0x Q0j Q0h (.nil) Tryz.func89 Tryz.call89 (λargs rows=>Qj9 (Q0d.of (args.getD 0 .dead).cells) (argI args 1)) [] [] 2 (λ_ _ _=>by kernel_rfl) (λ_ _=>rfl) (λ_ _=>Tree.free_ok (by kernel_rfl)) (λ_ X=>by kernel_rfl)
def Qls(n:Q0p)(pages:Int):Tree Bool:=
let T1:Tree (Bool):= .br n.C0 (.br (decide (n.F6>=1)) (.lf (decide (n.F6<=128))) (.lf false)) (.lf (n.F6==0)); .br n.C9 (.br n.C0 (.lf false) (.br (decide (wrap i64 n.C3>=pages)) (.lf false) (.br (!n.C9) (.br (n.C3 !=0) (.lf false) T1) T1))) (.br (!n.C9) (.br (n.C3 !=0) (.lf false) T1) T1)
def Qha(n:Q0p)(pages:Int):Bool:=(Qls n pages).m
def Z8z:Q0b:=mkR 90 [] true [.agg Q0p.sig, .one (.int .i64)] [] (λargs rows=>Qha (Q0p.of (args.getD 0 .dead).cells) (argI args 1)) (λX=> .bool X) (λX=>[])
theorem Z33:Q05 Tryz.prog Z8z:=Q0x Q0j Q0h (.nil) Tryz.func90 Tryz.call90 (λargs rows=>Qls (Q0p.of (args.getD 0 .dead).cells) (argI args 1)) [] [] 2 (λ_ _ _=>by kernel_rfl) (λ_ _=>rfl) (λ_ _=>Tree.free_ok (by kernel_rfl)) (λ_ X=>by kernel_rfl)
def Qfv(b:Q07)(pages:Int)(z:(Int)):Prop:=0<=z/\z<=32
def Q5x(b:Q07)(pages:Int)(z:(Int)):Nat:=(32-z).toNat
def Q50(b:Q07)(pages:Int):Tree Bool:=
.lp inferInstance (Q5x b pages 0+1) ((rE (pages:Int)/\(rE (0:Nat)/\rE (0:Nat))/\rE (0:Int)/\True)/\(rE b.D0/\rE b.C4/\True)/\True) 0 λ(v0:Int)=> .br (decide (v0<32)) (.cn (decide (0<=wrap u64 v0)) (let T1:Tree ((Int)⊕(Bool)):= .nx ((rE (pages:Int)/\(rE (0:Nat)/\rE (0:Nat))/\rE ((wrap i64 (v0+1)):Int)/\True)/\(rE b.D0/\rE b.C4/\True)/\True) (Sum.inl (wrap i64 (v0+1))); .br (iand u32 (ishr u32 b.C4 (wrap u64 v0)) (1:Int)==(1:Int)) (.br (decide (v0>=pages)) (.lf (Sum.inr false)) T1) T1)) (.lf (Sum.inr true))
def Q92(b:Q07)(pages:Int):Bool:=(Q50 b pages).m
theorem Qr0(b:Q07)(pages:Int):(Q50 b pages).p:=by
 unfold Tree.p Q50
 repeat'(first|refine w_lp (inv:=Qfv b pages) (μ:=Q5x b pages) ?_ (Nat.lt_succ_self _) (λ_ _=> ?_)|exact trivial|refine w_br (λ_=> ?_) (λ_=> ?_)|refine w_cn ?_ ?_|refine w_an ?_ ?_|refine w_lv (λ_ _=> ?_)|refine w_nx ?_|refine w_lf ?_|refine And.intro ?_ ?_)
 all_goals((try simp only[Qfv,Q5x]at*);((subst_vars;first|trivial|assumption|omega|((simp(config:={decide:=true,failIfUnchanged:=false}) only[Bool.and_eq_true,Bool.or_eq_true,Bool.and_eq_false_iff,Bool.or_eq_false_iff,Bool.not_eq_true',Bool.not_eq_false',Bool.not_eq_true,Bool.not_eq_false,decide_eq_true_eq,decide_eq_false_iff_not,Q4f,Q2r,Q4i,Q2s,beq_iff_eq,beq_eq_false_iff_ne,bne_iff_ne,bne_eq_false_iff_eq,ne_eq,List.all_cons,List.all_nil,D.plain,List.length_cons,List.length_nil,List.length_append,List.length_set,List.length_replicate,IntKind.wrap_i64,IntKind.wrap_u64,IntKind.wrap_u32,IntKind.wrap_i32,IntKind.wrap_u8,true_and,and_true,or_false,false_or,or_true,true_or,not_true_eq_false,not_false_eq_true,Prod.fst,Prod.snd]at*);first|done|assumption|omega)|((simp(config:={decide:=true,failIfUnchanged:=false}) only[Bool.and_eq_true,Bool.or_eq_true,Bool.and_eq_false_iff,Bool.or_eq_false_iff,Bool.not_eq_true',Bool.not_eq_false',Bool.not_eq_true,Bool.not_eq_false,decide_eq_true_eq,decide_eq_false_iff_not,Q4f,Q2r,Q4i,Q2s,beq_iff_eq,beq_eq_false_iff_ne,bne_iff_ne,bne_eq_false_iff_eq,ne_eq,List.all_cons,List.all_nil,D.plain,List.length_cons,List.length_nil,List.length_append,List.length_set,List.length_replicate,IntKind.wrap_i64,IntKind.wrap_u64,IntKind.wrap_u32,IntKind.wrap_i32,IntKind.wrap_u8,true_and,and_true,or_false,false_or,or_true,true_or,not_true_eq_false,not_false_eq_true,Prod.fst,Prod.snd]at*);simp only[<-List.length_pos_iff]at*;omega)|(simp_all;done)|(have:= @Qf8;simp_all;try omega))))
def Qs4:LInv:={
 α:=(Int)
 F:=λst a=>([(1,(lk st 1)),(2, .ptr 0 0 0),(5, .int i64 a)],[⟨true,38,2, .gen [[(cT st 2 0),(cT st 2 1)]]⟩])
 a0:=λst=>(lk st 5).toInt
 ex0:=λst=>[]++[(Q0n (lk st 2) (st.rows.length+0))]
 next:=λst=>(lk st 5).toInt
 ex:=λst=>[]++[(Q0n (lk st 2) (st.rows.length+0))]}
def Qpd:List (Nat×LInv):=[(2,Qs4)]
def Qtq:Q0b:=mkR 91 [] true [.agg Q07.sig, .one (.int .i64)] [] (λargs rows=>Q92 (Q07.of (args.getD 0 .dead).cells) (argI args 1)) (λX=> .bool X) (λX=>[])
theorem Qt7:Q05 Tryz.prog Qtq:=Q0x Q0j Q0h (.nil) Tryz.func91 Tryz.call91 (λargs rows=>Q50 (Q07.of (args.getD 0 .dead).cells) (argI args 1)) [] Qpd 3 (λ_ _ _=>by kernel_rfl) (λ_ _=>rfl) (λargs rows=>Qr0 (Q07.of (args.getD 0 .dead).cells) (argI args 1)) (λ_ X=>by kernel_rfl)
def Quw(m:Q00):Tree Bool:=
.lv (Q3j m.Mem) λ(x0:Int)=> .br (decide (x0<1)) (.lf false) (.br (m.B3.X.a0 !=0) (.lf false) (.br (decide (m.B3.B7.a0>31)) (.lf false) (.br (decide (m.B3.B7.a7>31)) (.lf false) (.br (decide (m.B3.B7.a6>255)) (.lf false) (.br (Int.tmod m.B3.B7.a1 (4:Int) !=(0:Int)) (.lf false) (.lv (Qij m.A1) λ(x1:Bool)=> .br (!x1) (.lf false) (.lv (Qcl m.B1) λ(x2:Bool)=> .br (!x2) (.lf false) (.lv (Qev m.B0 x0) λ(x3:Bool)=> .br (!x3) (.lf false) (.lv (Qha m.C7 x0) λ(x4:Bool)=> .br (!x4) (.lf false) (.lv (Q92 m.A2 x0) λ(x5:Bool)=> .br (!x5) (.lf false) (.br (decide (m.A3<=1152921504606846976)) (.br m.A6 (.lf (!m.A7)) (.lf true)) (.lf false))))))))))))
def Q7g(m:Q00):Bool:=(Quw m).m
def Zls:Q0b:=mkR 44 [] true [.agg Q00.sig] [] (λargs rows=>Q7g (Q00.of (args.getD 0 .dead).cells)) (λX=> .bool X) (λX=>[])
theorem Qqo:Q05 Tryz.prog Zls:=Q0x Q0j Q0h (.cons Qc0 (.cons Qs2 (.cons Qx (.cons Z1o (.cons Z33 (.cons Qt7 (.nil))))))) Tryz.func44 Tryz.call44 (λargs rows=>Quw (Q00.of (args.getD 0 .dead).cells)) [] [] 2 (λ_ _ _=>by kernel_rfl) (λ_ _=>rfl) (λ_ _=>Tree.free_ok (by kernel_rfl)) (λ_ X=>by kernel_rfl)
def Q94(t:Q0f):Tree (Q0f×Bool):=
.br (!t.D4) (.lf (t,false)) (.lf ({D4:=false,D1:=t.D1,D9:=true},true))
def Q61(t:Q0f):(Q0f×Bool):=(Q94 t).m
def Zho:Q0b:=mkR 132 [] true [.agg Q0f.sig] [] (λargs rows=>Q61 (Q0f.of (args.getD 0 .dead).cells)) (λX=> .tup [.agg (Q0f.cells (X.1)), .bool (X.2)]) (λX=>[])
theorem Qwu:Q05 Tryz.prog Zho:=Q0x Q0j Q0h (.nil) Tryz.func132 Tryz.call132 (λargs rows=>Q94 (Q0f.of (args.getD 0 .dead).cells)) [] [] 2 (λ_ _ _=>by kernel_rfl) (λ_ _=>rfl) (λ_ _=>Tree.free_ok (by kernel_rfl)) (λ_ X=>by kernel_rfl)
def Qaw(c:Q0a)(b:Int):Tree (Q0a×Bool):=
.br (decide ((c.D5.length:Int)>=(16:Int))) (.lf (c,false)) (.cn (decide (c.D5.length+1<=maxLen)) (.lf ({D5:=c.D5++[(λ(n:Int)=>UInt8.ofNat n.toNat) b]},true)))
def Qkm(c:Q0a)(b:Int):(Q0a×Bool):=(Qaw c b).m
abbrev Qkx(c:Q0a)(b:Int):Prop:=(Qaw c b).p
def Zge:Q0b:=mkP 133 [] true [.agg Q0a.sig, .one (.int .u8)] [] (λargs rows=>Qkx (Q0a.of (args.getD 0 .dead).cells) (argI args 1)) (λargs rows=>Qkm (Q0a.of (args.getD 0 .dead).cells) (argI args 1)) (λX=> .tup [.agg (Q0a.cells (X.1)), .bool (X.2)]) (λX=>[])
theorem Qw8:Q05 Tryz.prog Zge:=Q0k Q0j Q0h (.nil) Tryz.func133 Tryz.call133 (λargs rows=>Qaw (Q0a.of (args.getD 0 .dead).cells) (argI args 1)) [] [] 2 (λ_ _ _=>by kernel_rfl) (λ_ _=>rfl) (λ_ _ h=>h) (λ_ X=>by kernel_rfl)
def Qhz(m:(List Int))(frame:Int):Tree Bool:=
.lv (Q3j m) λ(x0:Int)=> .lf (decide (wrap u64 frame<wrap u64 x0))
def Q22(m:(List Int))(frame:Int):Bool:=(Qhz m frame).m
def Zfq:Q0b:=mkR 186 [] true [.one (.ints .u32), .one (.int .u32)] [] (λargs rows=>Q22 (argL .u32 args 0) (argI args 1)) (λX=> .bool X) (λX=>[])
theorem Qf3:Q05 Tryz.prog Zfq:=Q0x Q0j Q0h (.cons Qc0 (.nil)) Tryz.func186 Tryz.call186 (λargs rows=>Qhz (argL .u32 args 0) (argI args 1)) [] [] 2 (λ_ _ _=>by kernel_rfl) (λ_ _=>rfl) (λ_ _=>Tree.free_ok (by kernel_rfl)) (λ_ X=>by kernel_rfl)
def Qdu(m:(List Int))(addr:Int)(size:Int)(v:Int):Tree (List Int):=
let E1:=Nat.beq 1 1&&Nat.blt 0 1&&decide (0<=wrap u32 (Int.tdiv addr 4)/\wrap u32 (Int.tdiv addr 4)<(m.length:Int));let E2:=Int.toNat (wrap u32 (Int.tdiv addr 4)); .br (size==4) (.cn E1 (.lf (List.set m E2 v))) (.cn E1 (let E3:=decide (0<=wrap u32 (8*Int.tmod addr 4)); .cn E3 (.cn E3 (.cn E1 (.lf (List.set m E2 (ior u32 (Qg5 u32 (m.getD E2 0) (ishl u32 255 (wrap u32 (8*Int.tmod addr 4)))) (ishl u32 (iand u32 v 255) (wrap u32 (8*Int.tmod addr 4))))))))))
def Q9m(m:(List Int))(addr:Int)(size:Int)(v:Int):(List Int):=(Qdu m addr size v).m
abbrev Qei(m:(List Int))(addr:Int)(size:Int)(v:Int):Prop:=(Qdu m addr size v).p
def Zkv:Q0b:=mkP 234 [true,false,false,false] true [.one (.row 0), .one (.int .u32), .one (.int .i64), .one (.int .u32)] [.arr 23 1 (.ints .u32)] (λargs rows=>Qei (rowL .u32 rows 0) (argI args 1) (argI args 2) (argI args 3)) (λargs rows=>Q9m (rowL .u32 rows 0) (argI args 1) (argI args 2) (argI args 3)) (λX=> .tup []) (λX=>[⟨false,23,1, .ints .u32 X⟩])
theorem Qzq:Q05 Tryz.prog Zkv:=Q0k Q0j Q0h (.nil) Tryz.func234 Tryz.call234 (λargs rows=>Qdu (rowL .u32 rows 0) (argI args 1) (argI args 2) (argI args 3)) [] [] 2 (λ_ _ _=>by kernel_rfl) (λ_ _=>rfl) (λ_ _ h=>h) (λ_ X=>by kernel_rfl)
def Qhx(m:(List Int))(frame:Int)(s:(List UInt8))(z:(Int)×(List Int)):Nat:=(128-z.1).toNat
def Q9b(m:(List Int))(frame:Int)(s:(List UInt8)):Tree (List Int):=
.lp inferInstance (Qhx m frame s (0,m)+1) ((True/\rE (frame:Int)/\rE (s:List UInt8)/\rE (0:Int)/\True)/\rE (m:List Int)/\True) (0,m) λ(v0:Int×List Int)=> .br (decide (v0.1<(s.length:Int))) (.br (decide (v0.1<128)) (.cn (decide (0<=v0.1/\v0.1<(s.length:Int))) (let E1:=wrap u32 (↑(UInt8.toNat (s.getD v0.1.toNat (0:UInt8))):Int);let E2:=wrap u32 (wrap i64 (wrap i64 (frame*128)+v0.1)); .an (Qei v0.2 E2 1 E1) (.lv (Q9m v0.2 E2 1 E1) λ(x0:List Int)=> .nx ((True/\rE (frame:Int)/\rE (s:List UInt8)/\rE ((wrap i64 (v0.1+1)):Int)/\True)/\rE (x0:List Int)/\True) (Sum.inl (wrap i64 (v0.1+1),x0))))) (.lf (Sum.inr v0.2))) (.lf (Sum.inr v0.2))
def Qju(m:(List Int))(frame:Int)(s:(List UInt8)):(List Int):=(Q9b m frame s).m
abbrev Qlg(m:(List Int))(frame:Int)(s:(List UInt8)):Prop:=(Q9b m frame s).p
def Zaf:LInv:={
 α:=(Int)×(List Int)
 F:=λst a=>([(0, .all 0),(1,(lk st 1)),(2,(lk st 2)),(6, .int i64 a.1)],[⟨false,23,1, .ints u32 a.2⟩])
 a0:=λst=>((lk st 6).toInt,(Q3k st.rows 0))
 ex0:=λst=>[0]++[]
 next:=λst=>((lk st 6).toInt,(Q3k st.rows 0))
 ex:=λst=>[0]++[]}
def Z3v:List (Nat×LInv):=[(1,Zaf)]
def Zfp:Q0b:=mkP 187 [true,false,false] true [.one (.row 0), .one (.int .i64), .one (.str)] [.arr 23 1 (.ints .u32)] (λargs rows=>Qlg (rowL .u32 rows 0) (argI args 1) (argS args 2)) (λargs rows=>Qju (rowL .u32 rows 0) (argI args 1) (argS args 2)) (λX=> .tup []) (λX=>[⟨false,23,1, .ints .u32 X⟩])
theorem Qvu:Q05 Tryz.prog Zfp:=Q0k Q0j Q0h (.cons Qzq (.nil)) Tryz.func187 Tryz.call187 (λargs rows=>Q9b (rowL .u32 rows 0) (argI args 1) (argS args 2)) [] Z3v 3 (λ_ _ _=>by kernel_rfl) (λ_ _=>rfl) (λ_ _ h=>h) (λ_ X=>by kernel_rfl)
def Q66(d0:Q0d)(m:(List Int))(e:Q0e):Tree (Q0d×Bool×(List Int)):=
.br (d0.C1 !=1) (.lf (d0,false,m)) (.br (e.B5 !=4) (.lf (d0,false,m)) (.br (decide (e.N>1)) (.lf (d0,false,m)) (let E4:=({Blocks:=d0.Blocks,B6:=d0.B6,B4:=d0.B4,C1:=2,F1:=0,B8:=0,B2:=0,C5:=[]}:Q0d);let E5:=({Blocks:=d0.Blocks,B6:=d0.B6,B4:=d0.B4,C1:=3,F1:=0,B8:=0,B2:=0,C5:=[]}:Q0d);let T2:Tree ((Q0d×Bool×(List Int))):= .br (e.N==1) (.lf (E4,true,m)) (.lf (E5,true,m));let E6:=decide ((e.C8.length:Int)>(0:Int)); .br (e.N==1) (let T1:Tree ((Q0d×Bool×(List Int))):= .br (d0.F1==1) (.an (Qlg m (wrap i64 d0.B2) e.C8) (.lv (Qju m (wrap i64 d0.B2) e.C8) λ(x1:List Int)=> .br (e.N==1) (.lf (E4,true,x1)) (.lf (E5,true,x1)))) T2;let T3:Tree ((Q0d×Bool×(List Int))):= .br (!d0.F1==1) (.br E6 (.lf (d0,false,m)) T1) T1; .br (d0.F1==1) (.br ((e.C8.length:Int) !=(128:Int)) (.lf (d0,false,m)) (.lv (Q22 m d0.B2) λ(x0:Bool)=> .br (!x0) (.lf (d0,false,m)) T3)) T3) (.br E6 (.lf (d0,false,m)) T2))))
def Q7f(d0:Q0d)(m:(List Int))(e:Q0e):(Q0d×Bool×(List Int)):=(Q66 d0 m e).m
abbrev Qhy(d0:Q0d)(m:(List Int))(e:Q0e):Prop:=(Q66 d0 m e).p
def Z7b:Q0b:=mkP 134 [false,true,false] true [.agg Q0d.sig, .one (.row 0), .agg Q0e.sig] [.arr 23 1 (.ints .u32)] (λargs rows=>Qhy (Q0d.of (args.getD 0 .dead).cells) (rowL .u32 rows 0) (Q0e.of (args.getD 2 .dead).cells)) (λargs rows=>Q7f (Q0d.of (args.getD 0 .dead).cells) (rowL .u32 rows 0) (Q0e.of (args.getD 2 .dead).cells)) (λX=> .tup [.agg (Q0d.cells (X.1)), .bool (X.2.1)]) (λX=>[⟨false,23,1, .ints .u32 (X.2.2)⟩])
theorem Qpo:Q05 Tryz.prog Z7b:=Q0k Q0j Q0h (.cons Qf3 (.cons Qvu (.nil))) Tryz.func134 Tryz.call134 (λargs rows=>Q66 (Q0d.of (args.getD 0 .dead).cells) (rowL .u32 rows 0) (Q0e.of (args.getD 2 .dead).cells)) [] [] 2 (λ_ _ _=>by kernel_rfl) (λ_ _=>rfl) (λ_ _ h=>h) (λ_ X=>by kernel_rfl)
def Q69(n:Q0p)(m:(List Int))(frame:(List UInt8)):Tree (Q0p×Bool×(List Int)):=
.br (!n.C9) (.lf (n,false,m)) (.br (decide ((frame.length:Int)<(1:Int))) (.lf (n,false,m)) (.br (decide ((frame.length:Int)>(128:Int))) (.lf (n,false,m)) (.lv (Q22 m n.C3) λ(x0:Bool)=> .br (!x0) (.lf (n,false,m)) (.an (Qlg m (wrap i64 n.C3) frame) (.lv (Qju m (wrap i64 n.C3) frame) λ(x1:List Int)=> .lf ({B4:=n.B4,F4:=n.F4,C9:=false,C3:=0,C0:=true,F6:=wrap u32 (frame.length:Int)},true,x1))))))
def Q7s(n:Q0p)(m:(List Int))(frame:(List UInt8)):(Q0p×Bool×(List Int)):=(Q69 n m frame).m
abbrev Qh9(n:Q0p)(m:(List Int))(frame:(List UInt8)):Prop:=(Q69 n m frame).p
def Z7n:Q0b:=mkP 135 [false,true,false] true [.agg Q0p.sig, .one (.row 0), .one (.str)] [.arr 23 1 (.ints .u32)] (λargs rows=>Qh9 (Q0p.of (args.getD 0 .dead).cells) (rowL .u32 rows 0) (argS args 2)) (λargs rows=>Q7s (Q0p.of (args.getD 0 .dead).cells) (rowL .u32 rows 0) (argS args 2)) (λX=> .tup [.agg (Q0p.cells (X.1)), .bool (X.2.1)]) (λX=>[⟨false,23,1, .ints .u32 (X.2.2)⟩])
theorem Qpk:Q05 Tryz.prog Z7n:=Q0k Q0j Q0h (.cons Qf3 (.cons Qvu (.nil))) Tryz.func135 Tryz.call135 (λargs rows=>Q69 (Q0p.of (args.getD 0 .dead).cells) (rowL .u32 rows 0) (argS args 2)) [] [] 2 (λ_ _ _=>by kernel_rfl) (λ_ _=>rfl) (λ_ _ h=>h) (λ_ X=>by kernel_rfl)
def Q3x(m:Q00)(e:Q0e):Tree (Bool×Q00):=
.br m.A7 (.lf (false,m)) (let T1:Tree ((Bool×Q00)):= .br (e.B5==4) (.an (Qhy m.B0 m.Mem e) (.lv (Q7f m.B0 m.Mem e) λ(x2:Q0d×Bool×List Int)=> .lf (x2.2.1,{B3:=m.B3,Mem:=x2.2.2,A1:=m.A1,B1:=m.B1,B0:=x2.1,C7:=m.C7,A2:=m.A2,A3:=m.A3,A6:=m.A6,A7:=m.A7}))) (let T3:Tree ((Bool×Q00)):= .br (e.B5==6) (.br (decide (e.C8=[])) (.lf (true,{B3:=m.B3,Mem:=m.Mem,A1:=m.A1,B1:=m.B1,B0:=m.B0,C7:=m.C7,A2:={D0:=e.N,C4:=m.A2.C4},A3:=m.A3,A6:=m.A6,A7:=m.A7})) (.lf (false,m))) (.lf (false,m)); .br (e.B5==5) (.br (e.N==0) (.an (Qh9 m.C7 m.Mem e.C8) (.lv (Q7s m.C7 m.Mem e.C8) λ(x3:Q0p×Bool×List Int)=> .lf (x3.2.1,{B3:=m.B3,Mem:=x3.2.2,A1:=m.A1,B1:=m.B1,B0:=m.B0,C7:=x3.1,A2:=m.A2,A3:=m.A3,A6:=m.A6,A7:=m.A7}))) T3) T3);let T2:Tree ((Bool×Q00)):= .br (e.B5==3) (.br (decide (e.N<=255)) (.br (decide (e.C8=[])) (.an (Qkx m.A1 (wrap u8 e.N)) (.lv (Qkm m.A1 (wrap u8 e.N)) λ(x1:Q0a×Bool)=> .lf (x1.2,{B3:=m.B3,Mem:=m.Mem,A1:=x1.1,B1:=m.B1,B0:=m.B0,C7:=m.C7,A2:=m.A2,A3:=m.A3,A6:=m.A6,A7:=m.A7}))) T1) T1) T1; .br (e.B5==2) (.br (e.N==0) (.br (decide (e.C8=[])) (.lv (Q61 m.B1) λ(x0:Q0f×Bool)=> .lf (x0.2,{B3:=m.B3,Mem:=m.Mem,A1:=m.A1,B1:=x0.1,B0:=m.B0,C7:=m.C7,A2:=m.A2,A3:=m.A3,A6:=m.A6,A7:=m.A7})) T2) T2) T2)
def Q0r(m:Q00)(e:Q0e):(Bool×Q00):=(Q3x m e).m
abbrev Qps(m:Q00)(e:Q0e):Prop:=(Q3x m e).p
def Ze5:Q0b:=mkP 68 [true,false] true [.ptr 0, .agg Q0e.sig] [.box 41 49 (Q00.sigW (.row 1)), .arr 23 1 (.ints .u32)] (λargs rows=>Qps (Q00.ofW (rows.getD 0 default).cs (rowL .u32 rows 1)) (Q0e.of (args.getD 1 .dead).cells)) (λargs rows=>Q0r (Q00.ofW (rows.getD 0 default).cs (rowL .u32 rows 1)) (Q0e.of (args.getD 1 .dead).cells)) (λX=> .bool (X.1)) (λX=>[⟨true,41,49, .gen [(Q00.cellsW (X.2) (.all 1))]⟩,⟨false,23,1, .ints .u32 (X.2).Mem⟩])
theorem Z9n:Q05 Tryz.prog Ze5:=Q0k Q0j Q0h (.cons Qwu (.cons Qw8 (.cons Qpo (.cons Qpk (.nil))))) Tryz.func68 Tryz.call68 (λargs rows=>Q3x (Q00.ofW (rows.getD 0 default).cs (rowL .u32 rows 1)) (Q0e.of (args.getD 1 .dead).cells)) [.row 23 1 (.ints .u32)] [] 2 (λ_ _ _=>by kernel_rfl) (λ_ _=>rfl) (λ_ _ h=>h) (λ_ X=>by kernel_rfl)
def Q8b(m:Q01)(e:Q0e):Tree (Bool×Q01):=
.br m.A0.A7 (.lf (false,m)) (let T1:Tree ((Bool×Q01)):= .br (e.B5==4) (.an (Qhy m.A0.B0 m.A0.Mem e) (.lv (Q7f m.A0.B0 m.A0.Mem e) λ(x2:Q0d×Bool×List Int)=> .lf (x2.2.1,{A0:={B3:=m.A0.B3,Mem:=x2.2.2,A1:=m.A0.A1,B1:=m.A0.B1,B0:=x2.1,C7:=m.A0.C7,A2:=m.A0.A2,A3:=m.A0.A3,A6:=m.A0.A6,A7:=m.A0.A7},A9:=m.A9,C6:=m.C6,A4:=m.A4}))) (let T3:Tree ((Bool×Q01)):= .br (e.B5==6) (.br (decide (e.C8=[])) (.lf (true,{A0:={B3:=m.A0.B3,Mem:=m.A0.Mem,A1:=m.A0.A1,B1:=m.A0.B1,B0:=m.A0.B0,C7:=m.A0.C7,A2:={D0:=e.N,C4:=m.A0.A2.C4},A3:=m.A0.A3,A6:=m.A0.A6,A7:=m.A0.A7},A9:=m.A9,C6:=m.C6,A4:=m.A4})) (.lf (false,m))) (.lf (false,m)); .br (e.B5==5) (.br (e.N==0) (.an (Qh9 m.A0.C7 m.A0.Mem e.C8) (.lv (Q7s m.A0.C7 m.A0.Mem e.C8) λ(x3:Q0p×Bool×List Int)=> .lf (x3.2.1,{A0:={B3:=m.A0.B3,Mem:=x3.2.2,A1:=m.A0.A1,B1:=m.A0.B1,B0:=m.A0.B0,C7:=x3.1,A2:=m.A0.A2,A3:=m.A0.A3,A6:=m.A0.A6,A7:=m.A0.A7},A9:=m.A9,C6:=m.C6,A4:=m.A4}))) T3) T3);let T2:Tree ((Bool×Q01)):= .br (e.B5==3) (.br (decide (e.N<=255)) (.br (decide (e.C8=[])) (.an (Qkx m.A0.A1 (wrap u8 e.N)) (.lv (Qkm m.A0.A1 (wrap u8 e.N)) λ(x1:Q0a×Bool)=> .lf (x1.2,{A0:={B3:=m.A0.B3,Mem:=m.A0.Mem,A1:=x1.1,B1:=m.A0.B1,B0:=m.A0.B0,C7:=m.A0.C7,A2:=m.A0.A2,A3:=m.A0.A3,A6:=m.A0.A6,A7:=m.A0.A7},A9:=m.A9,C6:=m.C6,A4:=m.A4}))) T1) T1) T1; .br (e.B5==2) (.br (e.N==0) (.br (decide (e.C8=[])) (.lv (Q61 m.A0.B1) λ(x0:Q0f×Bool)=> .lf (x0.2,{A0:={B3:=m.A0.B3,Mem:=m.A0.Mem,A1:=m.A0.A1,B1:=x0.1,B0:=m.A0.B0,C7:=m.A0.C7,A2:=m.A0.A2,A3:=m.A0.A3,A6:=m.A0.A6,A7:=m.A0.A7},A9:=m.A9,C6:=m.C6,A4:=m.A4})) T2) T2) T2)
def Qiw(m:Q01)(e:Q0e):(Bool×Q01):=(Q8b m e).m
abbrev Qma(m:Q01)(e:Q0e):Prop:=(Q8b m e).p
def Z4e:Q0b:=mkP 68 [true,false] true [.ptr 0, .agg Q0e.sig] [.box 49 52 (Q01.sigW (.row 1) (.row 2) (.row 3)), .arr 23 1 (.ints .u32), .arr 72 4 (.recs .apiEntry), .arr 70 3 (.recs .apiEvent)] (λargs rows=>Qma (Q01.ofW (rows.getD 0 default).cs (rowL .u32 rows 1) (rowR .apiEntry rows 2) (rowR .apiEvent rows 3)) (Q0e.of (args.getD 1 .dead).cells)) (λargs rows=>Qiw (Q01.ofW (rows.getD 0 default).cs (rowL .u32 rows 1) (rowR .apiEntry rows 2) (rowR .apiEvent rows 3)) (Q0e.of (args.getD 1 .dead).cells)) (λX=> .bool (X.1)) (λX=>[⟨true,49,52, .gen [(Q01.cellsW (X.2) (.all 1) (.all 2) (.all 3))]⟩,⟨false,23,1, .ints .u32 (X.2).A0.Mem⟩,⟨false,72,4, .recs .apiEntry (X.2).C6⟩,⟨false,70,3, .recs .apiEvent (X.2).A4⟩])
theorem Qzs:Q05 Tryz.prog Z4e:=Q0k Q0j Q0h (.cons Qwu (.cons Qw8 (.cons Qpo (.cons Qpk (.nil))))) Tryz.func68 Tryz.call68 (λargs rows=>Q8b (Q01.ofW (rows.getD 0 default).cs (rowL .u32 rows 1) (rowR .apiEntry rows 2) (rowR .apiEvent rows 3)) (Q0e.of (args.getD 1 .dead).cells)) [.row 23 1 (.ints .u32), .row 72 4 (.recs .apiEntry), .row 70 3 (.recs .apiEvent)] [] 2 (λ_ _ _=>by kernel_rfl) (λ_ _=>rfl) (λ_ _ h=>h) (λ_ X=>by kernel_rfl)
def Q6v(m:Q01)(e:Q0e):Tree (Bool×Q01):=
.an (Qma m e) (.lv (Qiw m e) λ(x0:Bool×Q01)=> .lf (x0.1,x0.2))
def Qga(m:Q01)(e:Q0e):(Bool×Q01):=(Q6v m e).m
abbrev Qjo(m:Q01)(e:Q0e):Prop:=(Q6v m e).p
def Z2d:Q0b:=mkP 233 [true,false] true [.ptr 0, .agg Q0e.sig] [.box 49 52 (Q01.sigW (.row 1) (.row 2) (.row 3)), .arr 23 1 (.ints .u32), .arr 72 4 (.recs .apiEntry), .arr 70 3 (.recs .apiEvent)] (λargs rows=>Qjo (Q01.ofW (rows.getD 0 default).cs (rowL .u32 rows 1) (rowR .apiEntry rows 2) (rowR .apiEvent rows 3)) (Q0e.of (args.getD 1 .dead).cells)) (λargs rows=>Qga (Q01.ofW (rows.getD 0 default).cs (rowL .u32 rows 1) (rowR .apiEntry rows 2) (rowR .apiEvent rows 3)) (Q0e.of (args.getD 1 .dead).cells)) (λX=> .bool (X.1)) (λX=>[⟨true,49,52, .gen [(Q01.cellsW (X.2) (.all 1) (.all 2) (.all 3))]⟩,⟨false,23,1, .ints .u32 (X.2).A0.Mem⟩,⟨false,72,4, .recs .apiEntry (X.2).C6⟩,⟨false,70,3, .recs .apiEvent (X.2).A4⟩])
theorem Qy3:Q05 Tryz.prog Z2d:=Q0k Q0j Q0h (.cons Qzs (.nil)) Tryz.func233 Tryz.call233 (λargs rows=>Q6v (Q01.ofW (rows.getD 0 default).cs (rowL .u32 rows 1) (rowR .apiEntry rows 2) (rowR .apiEvent rows 3)) (Q0e.of (args.getD 1 .dead).cells)) [.row 23 1 (.ints .u32), .row 72 4 (.recs .apiEntry), .row 70 3 (.recs .apiEvent)] [] 2 (λ_ _ _=>by kernel_rfl) (λ_ _=>rfl) (λ_ _ h=>h) (λ_ X=>by kernel_rfl)
def Q9p(r:Q01)(e:Q0e):Tree Q01:=
.an (Qjo r e) (.lv (Qga r e) λ(x0:Bool×Q01)=> .br x0.1 (.cn (decide (40*(x0.2.C6.length+1)<=140737488355328)) (.lf ({A0:=x0.2.A0,A9:=x0.2.A9,C6:=x0.2.C6++[{At:=x0.2.A0.A3,D6:=e}],A4:=x0.2.A4}))) (.lf x0.2))
def Qhf(r:Q01)(e:Q0e):Q01:=(Q9p r e).m
abbrev Qi7(r:Q01)(e:Q0e):Prop:=(Q9p r e).p
def Z70:Q0b:=mkKP 1 182 [true,false] [.ptr 0, .agg Q0e.sig] [.box 49 52 (Q01.sigW (.row 1) (.row 2) (.row 3)), .arr 23 1 (.ints .u32), .arr 72 4 (.recs .apiEntry), .arr 70 3 (.recs .apiEvent)] (λargs rows=>Qi7 (Q01.ofW (rows.getD 0 default).cs (rowL .u32 rows 1) (rowR .apiEntry rows 2) (rowR .apiEvent rows 3)) (Q0e.of (args.getD 1 .dead).cells)) (λargs rows=>Qhf (Q01.ofW (rows.getD 0 default).cs (rowL .u32 rows 1) (rowR .apiEntry rows 2) (rowR .apiEvent rows 3)) (Q0e.of (args.getD 1 .dead).cells)) (λX=> .tup []) (λX=>[⟨true,49,52, .gen [(Q01.cellsW X (.all 1) (.all 2) (.all 3))]⟩,⟨false,23,1, .ints .u32 X.A0.Mem⟩,⟨false,72,4, .recs .apiEntry X.C6⟩,⟨false,70,3, .recs .apiEvent X.A4⟩])
theorem Z3j:Q05 Tryz.prog Z70:=xz Q0j Q0h (.cons Qy3 (.nil)) Tryz.func182 Tryz.call182 (λargs rows=>Q9p (Q01.ofW (rows.getD 0 default).cs (rowL .u32 rows 1) (rowR .apiEntry rows 2) (rowR .apiEvent rows 3)) (Q0e.of (args.getD 1 .dead).cells)) [.row 23 1 (.ints .u32), .row 72 4 (.recs .apiEntry), .row 70 3 (.recs .apiEvent)] [] 2 (λ_ _ _=>by kernel_rfl) (λ_ _=>rfl) (λ_ _ h=>h)
def Qgv(is:Bool)(n:Int):Tree Int:=
.br is (.cn (decide (0<=wrap u64 n)) (.lf (ishl u32 1 (wrap u64 n)))) (.lf 0)
def Q8z(is:Bool)(n:Int):Int:=(Qgv is n).m
abbrev Q9u(is:Bool)(n:Int):Prop:=(Qgv is n).p
def Zew:Q0b:=mkP 97 [] true [.one (.bool), .one (.int .i64)] [] (λargs rows=>Q9u (argB args 0) (argI args 1)) (λargs rows=>Q8z (argB args 0) (argI args 1)) (λX=> .int .u32 X) (λX=>[])
theorem Zce:Q05 Tryz.prog Zew:=Q0k Q0j Q0h (.nil) Tryz.func97 Tryz.call97 (λargs rows=>Qgv (argB args 0) (argI args 1)) [] [] 2 (λ_ _ _=>by kernel_rfl) (λ_ _=>rfl) (λ_ _ h=>h) (λ_ X=>by kernel_rfl)
def Qhq(t:Q0f):Tree Bool:=
.lf t.D9
def Q9j(t:Q0f):Bool:=(Qhq t).m
def Qqm:Q0b:=mkR 98 [] true [.agg Q0f.sig] [] (λargs rows=>Q9j (Q0f.of (args.getD 0 .dead).cells)) (λX=> .bool X) (λX=>[])
theorem Qpc:Q05 Tryz.prog Qqm:=Q0x Q0j Q0h (.nil) Tryz.func98 Tryz.call98 (λargs rows=>Qhq (Q0f.of (args.getD 0 .dead).cells)) [] [] 2 (λ_ _ _=>by kernel_rfl) (λ_ _=>rfl) (λ_ _=>Tree.free_ok (by kernel_rfl)) (λ_ X=>by kernel_rfl)
def Qeq(c:Q0a):Tree Bool:=
.lf (decide ((c.D5.length:Int)>(0:Int)))
def Q5d(c:Q0a):Bool:=(Qeq c).m
def Qns:Q0b:=mkR 99 [] true [.agg Q0a.sig] [] (λargs rows=>Q5d (Q0a.of (args.getD 0 .dead).cells)) (λX=> .bool X) (λX=>[])
theorem Qmm:Q05 Tryz.prog Qns:=Q0x Q0j Q0h (.nil) Tryz.func99 Tryz.call99 (λargs rows=>Qeq (Q0a.of (args.getD 0 .dead).cells)) [] [] 2 (λ_ _ _=>by kernel_rfl) (λ_ _=>rfl) (λ_ _=>Tree.free_ok (by kernel_rfl)) (λ_ X=>by kernel_rfl)
def Qip(d0:Q0d):Tree Bool:=
.br (d0.C1==2) (.lf true) (.lf (d0.C1==3))
def Qak(d0:Q0d):Bool:=(Qip d0).m
def Qss:Q0b:=mkR 100 [] true [.agg Q0d.sig] [] (λargs rows=>Qak (Q0d.of (args.getD 0 .dead).cells)) (λX=> .bool X) (λX=>[])
theorem Qqs:Q05 Tryz.prog Qss:=Q0x Q0j Q0h (.nil) Tryz.func100 Tryz.call100 (λargs rows=>Qip (Q0d.of (args.getD 0 .dead).cells)) [] [] 2 (λ_ _ _=>by kernel_rfl) (λ_ _=>rfl) (λ_ _=>Tree.free_ok (by kernel_rfl)) (λ_ X=>by kernel_rfl)
def Qjx(n:Q0p):Tree Bool:=
.lf n.C0
def Qbu(n:Q0p):Bool:=(Qjx n).m
def Qtk:Q0b:=mkR 101 [] true [.agg Q0p.sig] [] (λargs rows=>Qbu (Q0p.of (args.getD 0 .dead).cells)) (λX=> .bool X) (λX=>[])
theorem Qsw:Q05 Tryz.prog Qtk:=Q0x Q0j Q0h (.nil) Tryz.func101 Tryz.call101 (λargs rows=>Qjx (Q0p.of (args.getD 0 .dead).cells)) [] [] 2 (λ_ _ _=>by kernel_rfl) (λ_ _=>rfl) (λ_ _=>Tree.free_ok (by kernel_rfl)) (λ_ X=>by kernel_rfl)
def Qnj(b:Q07)(z:(Int)×(Int)):Prop:=0<=z.2/\z.2<=32
def Qfl(b:Q07)(z:(Int)×(Int)):Nat:=(32-z.2).toNat
def Qiy(b:Q07):Tree Int:=
.lp inferInstance (Qfl b (0,0)+1) (((rE (0:Nat)/\rE (0:Nat))/\rE (0:Int)/\rE (0:Int)/\True)/\(rE b.D0/\rE b.C4/\True)/\True) (0,0) λ(v0:Int×Int)=> .br (decide (v0.2<32)) (.cn (decide (0<=wrap u64 v0.2)) (.nx (((rE (0:Nat)/\rE (0:Nat))/\rE ((wrap i64 (v0.1+wrap i64 (iand u32 (ishr u32 b.C4 (wrap u64 v0.2)) 1))):Int)/\rE ((wrap i64 (v0.2+1)):Int)/\True)/\(rE b.D0/\rE b.C4/\True)/\True) (Sum.inl (wrap i64 (v0.1+wrap i64 (iand u32 (ishr u32 b.C4 (wrap u64 v0.2)) 1)),wrap i64 (v0.2+1))))) (.lf (Sum.inr v0.1))
def Qdp(b:Q07):Int:=(Qiy b).m
theorem Z3w(b:Q07):(Qiy b).p:=by
 unfold Tree.p Qiy
 repeat'(first|refine w_lp (inv:=Qnj b) (μ:=Qfl b) ?_ (Nat.lt_succ_self _) (λ_ _=> ?_)|exact trivial|refine w_br (λ_=> ?_) (λ_=> ?_)|refine w_cn ?_ ?_|refine w_an ?_ ?_|refine w_lv (λ_ _=> ?_)|refine w_nx ?_|refine w_lf ?_|refine And.intro ?_ ?_)
 all_goals((try simp only[Qnj,Qfl]at*);((subst_vars;first|trivial|assumption|omega|((simp(config:={decide:=true,failIfUnchanged:=false}) only[Bool.and_eq_true,Bool.or_eq_true,Bool.and_eq_false_iff,Bool.or_eq_false_iff,Bool.not_eq_true',Bool.not_eq_false',Bool.not_eq_true,Bool.not_eq_false,decide_eq_true_eq,decide_eq_false_iff_not,Q4f,Q2r,Q4i,Q2s,beq_iff_eq,beq_eq_false_iff_ne,bne_iff_ne,bne_eq_false_iff_eq,ne_eq,List.all_cons,List.all_nil,D.plain,List.length_cons,List.length_nil,List.length_append,List.length_set,List.length_replicate,IntKind.wrap_i64,IntKind.wrap_u64,IntKind.wrap_u32,IntKind.wrap_i32,IntKind.wrap_u8,true_and,and_true,or_false,false_or,or_true,true_or,not_true_eq_false,not_false_eq_true,Prod.fst,Prod.snd]at*);first|done|assumption|omega)|((simp(config:={decide:=true,failIfUnchanged:=false}) only[Bool.and_eq_true,Bool.or_eq_true,Bool.and_eq_false_iff,Bool.or_eq_false_iff,Bool.not_eq_true',Bool.not_eq_false',Bool.not_eq_true,Bool.not_eq_false,decide_eq_true_eq,decide_eq_false_iff_not,Q4f,Q2r,Q4i,Q2s,beq_iff_eq,beq_eq_false_iff_ne,bne_iff_ne,bne_eq_false_iff_eq,ne_eq,List.all_cons,List.all_nil,D.plain,List.length_cons,List.length_nil,List.length_append,List.length_set,List.length_replicate,IntKind.wrap_i64,IntKind.wrap_u64,IntKind.wrap_u32,IntKind.wrap_i32,IntKind.wrap_u8,true_and,and_true,or_false,false_or,or_true,true_or,not_true_eq_false,not_false_eq_true,Prod.fst,Prod.snd]at*);simp only[<-List.length_pos_iff]at*;omega)|(simp_all;done)|(have:= @Qf8;simp_all;try omega))))
def Z8v:LInv:={
 α:=(Int)×(Int)
 F:=λst a=>([(1, .ptr 0 0 0),(3, .int i64 a.1),(4, .int i64 a.2)],[⟨true,38,2, .gen [[(cT st 1 0),(cT st 1 1)]]⟩])
 a0:=λst=>((lk st 3).toInt,(lk st 4).toInt)
 ex0:=λst=>[]++[(Q0n (lk st 1) (st.rows.length+0))]
 next:=λst=>((lk st 3).toInt,(lk st 4).toInt)
 ex:=λst=>[]++[(Q0n (lk st 1) (st.rows.length+0))]}
def Z01:List (Nat×LInv):=[(3,Z8v)]
def Zd6:Q0b:=mkR 153 [] true [.agg Q07.sig] [] (λargs rows=>Qdp (Q07.of (args.getD 0 .dead).cells)) (λX=> .int .i64 X) (λX=>[])
theorem Qt2:Q05 Tryz.prog Zd6:=Q0x Q0j Q0h (.nil) Tryz.func153 Tryz.call153 (λargs rows=>Qiy (Q07.of (args.getD 0 .dead).cells)) [] Z01 3 (λ_ _ _=>by kernel_rfl) (λ_ _=>rfl) (λargs rows=>Z3w (Q07.of (args.getD 0 .dead).cells)) (λ_ X=>by kernel_rfl)
def Q8x(b:Q07):Tree Bool:=
.lv (Qdp b) λ(x0:Int)=> .lf (wrap u64 x0 !=wrap u64 b.D0)
def Q3h(b:Q07):Bool:=(Q8x b).m
def Qo3:Q0b:=mkR 102 [] true [.agg Q07.sig] [] (λargs rows=>Q3h (Q07.of (args.getD 0 .dead).cells)) (λX=> .bool X) (λX=>[])
theorem Qmk:Q05 Tryz.prog Qo3:=Q0x Q0j Q0h (.cons Qt2 (.nil)) Tryz.func102 Tryz.call102 (λargs rows=>Q8x (Q07.of (args.getD 0 .dead).cells)) [] [] 2 (λ_ _ _=>by kernel_rfl) (λ_ _=>rfl) (λ_ _=>Tree.free_ok (by kernel_rfl)) (λ_ X=>by kernel_rfl)
def Qe8(m:Q00):Tree Int:=
.lv (Q9j m.B1) λ(x0:Bool)=> .an (Q9u x0 0) (.lv (Q8z x0 0) λ(x1:Int)=> .lv (Q5d m.A1) λ(x2:Bool)=> .an (Q9u x2 1) (.lv (Q8z x2 1) λ(x3:Int)=> .lv (Qak m.B0) λ(x4:Bool)=> .an (Q9u x4 2) (.lv (Q8z x4 2) λ(x5:Int)=> .lv (Qbu m.C7) λ(x6:Bool)=> .an (Q9u x6 3) (.lv (Q8z x6 3) λ(x7:Int)=> .lv (Q3h m.A2) λ(x8:Bool)=> .an (Q9u x8 4) (.lv (Q8z x8 4) λ(x9:Int)=> .lf (ior u32 (ior u32 (ior u32 (ior u32 x1 x3) x5) x7) x9))))))
def Qgq(m:Q00):Int:=(Qe8 m).m
abbrev Qpr(m:Q00):Prop:=(Qe8 m).p
def Zee:Q0b:=mkP 46 [] true [.agg Q00.sig] [] (λargs rows=>Qpr (Q00.of (args.getD 0 .dead).cells)) (λargs rows=>Qgq (Q00.of (args.getD 0 .dead).cells)) (λX=> .int .u32 X) (λX=>[])
theorem Z8t:Q05 Tryz.prog Zee:=Q0k Q0j Q0h (.cons Zce (.cons Qpc (.cons Qmm (.cons Qqs (.cons Qsw (.cons Qmk (.nil))))))) Tryz.func46 Tryz.call46 (λargs rows=>Qe8 (Q00.of (args.getD 0 .dead).cells)) [] [] 2 (λ_ _ _=>by kernel_rfl) (λ_ _=>rfl) (λ_ _ h=>h) (λ_ X=>by kernel_rfl)
def Q82(m:Q00):Tree Int:=
.an (Qpr m) (.lv (Qgq m) λ(x0:Int)=> .lf (iand u32 x0 m.B3.B7.a7))
def Q2q(m:Q00):Int:=(Q82 m).m
abbrev Qfa(m:Q00):Prop:=(Q82 m).p
def Z2t:Q0b:=mkP 104 [] true [.agg Q00.sig] [] (λargs rows=>Qfa (Q00.of (args.getD 0 .dead).cells)) (λargs rows=>Q2q (Q00.of (args.getD 0 .dead).cells)) (λX=> .int .u32 X) (λX=>[])
theorem Qny:Q05 Tryz.prog Z2t:=Q0k Q0j Q0h (.cons Z8t (.nil)) Tryz.func104 Tryz.call104 (λargs rows=>Q82 (Q00.of (args.getD 0 .dead).cells)) [] [] 2 (λ_ _ _=>by kernel_rfl) (λ_ _=>rfl) (λ_ _ h=>h) (λ_ X=>by kernel_rfl)
def Qdq(m:Q00):Tree Bool:=
.br m.A6 (.an (Qfa m) (.lv (Q2q m) λ(x0:Int)=> .lf (x0==0))) (.lf false)
def Qe5(m:Q00):Bool:=(Qdq m).m
abbrev Qlw(m:Q00):Prop:=(Qdq m).p
def Zhl:Q0b:=mkP 48 [] true [.agg Q00.sig] [] (λargs rows=>Qlw (Q00.of (args.getD 0 .dead).cells)) (λargs rows=>Qe5 (Q00.of (args.getD 0 .dead).cells)) (λX=> .bool X) (λX=>[])
theorem Qw2:Q05 Tryz.prog Zhl:=Q0k Q0j Q0h (.cons Qny (.nil)) Tryz.func48 Tryz.call48 (λargs rows=>Qdq (Q00.of (args.getD 0 .dead).cells)) [] [] 2 (λ_ _ _=>by kernel_rfl) (λ_ _=>rfl) (λ_ _ h=>h) (λ_ X=>by kernel_rfl)
def Q8k(m:Q00):Tree Bool:=
.lv (Q7g m) λ(x0:Bool)=> .br (!x0) (.lf true) (.br m.A7 (.lf true) (.an (Qlw m) (.lv (Qe5 m) λ(x1:Bool)=> .br x1 (.lf true) (.lf (decide (m.A3>=1152921504606846976))))))
def Q17(m:Q00):Bool:=(Q8k m).m
abbrev Qe3(m:Q00):Prop:=(Q8k m).p
def Zdh:Q0b:=mkP 108 [] true [.agg Q00.sig] [] (λargs rows=>Qe3 (Q00.of (args.getD 0 .dead).cells)) (λargs rows=>Q17 (Q00.of (args.getD 0 .dead).cells)) (λX=> .bool X) (λX=>[])
theorem Qt:Q05 Tryz.prog Zdh:=Q0k Q0j Q0h (.cons Qqo (.cons Qw2 (.nil))) Tryz.func108 Tryz.call108 (λargs rows=>Q8k (Q00.of (args.getD 0 .dead).cells)) [] [] 2 (λ_ _ _=>by kernel_rfl) (λ_ _=>rfl) (λ_ _ h=>h) (λ_ X=>by kernel_rfl)
end
end Go.Proofs.YtjaifpiopmhmlaaGreat

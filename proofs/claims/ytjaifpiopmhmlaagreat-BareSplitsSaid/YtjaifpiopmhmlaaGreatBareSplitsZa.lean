/-
  Functions of the program: models, and that its calls come to them (by a program: gen3.py).
-/
import Derived.Test.YtjaifpiopmhmlaaGreatBareSplitsBase
import Derived.Test.YtjaifpiopmhmlaaGreatBareSplitsYe
set_option maxRecDepth 100000
set_option linter.all false
namespace Go.Proofs.YtjaifpiopmhmlaaGreat
open Go Go.GD Go.IntKind
noncomputable section
def Qd5(m:(List Int)):Tree (List Int):=
.cn (Nat.blt (0:Nat) (1:Nat)&&Nat.beq (1:Nat) (1:Nat)&&List.all [D.int u32 (0:Int)] D.plain&&decide ((0:Int)<=(m.length:Int)/\(m.length:Int)<=(m.length:Int)/\(m.length:Int)<=(9223372036854775807:Int)/\(↑(4:Nat):Int)*(m.length:Int)<=(140737488355328:Int))) (let E1:=List.length (List.replicate (Int.toNat (m.length:Int)) (0:Int)); .lf (List.take (Min.min (m.length) E1) m++List.drop (Min.min (m.length) E1) (List.replicate (Int.toNat (m.length:Int)) (0:Int))))
def Qt8(m:(List Int)):(List Int):=(Qd5 m).m
abbrev Qrz(m:(List Int)):Prop:=(Qd5 m).p
def Zgo:Q0c:=mkP 114 [] true [.one (.ints .u32)] [] (λargs rows=>Qrz (argL .u32 args 0)) (λargs rows=>Qt8 (argL .u32 args 0)) (λX=> .all 0) (λX=>[⟨false,23,1, .ints .u32 X⟩])
theorem Zdw:Q05 Tryz.prog Zgo:=Q0n Q0j Q0k (.nil) Tryz.func114 Tryz.call114 (λargs rows=>Qd5 (argL .u32 args 0)) [.row 23 1 (.ints .u32)] [] 2 (λ_ _ _=>by kernel_rfl) (λ_ _=>rfl) (λ_ _ h=>h) (λ_ X=>by kernel_rfl)
def Qb8(m:Q00):Tree Q00:=
.an (Qrz m.Mem) (.lv (Qt8 m.Mem) λ(x0:List Int)=> .lf ({B2:=m.B2,Mem:=x0,A3:=m.A3,B0:=m.B0,B1:=m.B1,C5:=m.C5,A2:=m.A2,A1:=m.A1,A4:=m.A4,A7:=m.A7}))
def Qlg(m:Q00):Q00:=(Qb8 m).m
abbrev Qef(m:Q00):Prop:=(Qb8 m).p
def Zk1:Q0c:=mkP 53 [] true [.agg Q00.sig] [] (λargs rows=>Qef (Q00.of (args.getD 0 .dead).cells)) (λargs rows=>Qlg (Q00.of (args.getD 0 .dead).cells)) (λX=> .agg (Q00.cellsW X (.all 0))) (λX=>[⟨false,23,1, .ints .u32 X.Mem⟩])
theorem Qq7:Q05 Tryz.prog Zk1:=Q0n Q0j Q0k (.cons Zdw (.nil)) Tryz.func53 Tryz.call53 (λargs rows=>Qb8 (Q00.of (args.getD 0 .dead).cells)) [.row 23 1 (.ints .u32)] [] 2 (λ_ _ _=>by kernel_rfl) (λ_ _=>rfl) (λ_ _ h=>h) (λ_ X=>by kernel_rfl)
def Qpc(n:Int)(k:Int)(z:(Int)×(List Int)):Prop:=0<=z.1/\(z.2.length:Int)=z.1/\(z.1<=k\/z.1=0)
def Qc1(n:Int)(k:Int)(z:(Int)×(List Int)):Nat:=(k-z.1).toNat
def Qd7(n:Int)(k:Int):Tree (List UInt8):=
.lp inferInstance (Qc1 n k (0,[])+1) ((rE (n:Int)/\rE (k:Int)/\True/\rE (0:Int)/\True)/\rE ([]:List Int)/\True) (0,[]) λ(v0:Int×List Int)=> .br (decide (v0.1<k)) (.lv (Q2y n (wrap i64 (Int.tdiv v0.1 9))) λ(x0:Int)=> .cn (decide (1*(v0.2.length+1)<=140737488355328)) (.nx ((rE (n:Int)/\rE (k:Int)/\True/\rE ((wrap i64 (v0.1+1)):Int)/\True)/\rE ((v0.2++[wrap u8 x0]):List Int)/\True) (Sum.inl (wrap i64 (v0.1+1),v0.2++[wrap u8 x0])))) (.lf (Sum.inr (bytesOf v0.2)))
def Qsz(n:Int)(k:Int):(List UInt8):=(Qd7 n k).m
def Q9p(n:Int)(k:Int):Prop:=
k<=1000000000000
theorem Z8d(n:Int)(k:Int)(hw:Q9p n k):(Qd7 n k).p:=by
 simp only[Q9p]at hw
 unfold Tree.p Qd7
 repeat'(first|refine w_lp (inv:=Qpc n k) (μ:=Qc1 n k) ?_ (Nat.lt_succ_self _) (λ_ _=> ?_)|exact trivial|refine w_br (λ_=> ?_) (λ_=> ?_)|refine w_cn ?_ ?_|refine w_an ?_ ?_|refine w_lv (λ_ _=> ?_)|refine w_nx ?_|refine w_lf ?_|refine And.intro ?_ ?_)
 all_goals((try simp only[Qpc,Qc1]at*);((subst_vars;first|trivial|assumption|omega|((simp(config:={decide:=true,failIfUnchanged:=false}) only[Bool.and_eq_true,Bool.or_eq_true,Bool.and_eq_false_iff,Bool.or_eq_false_iff,Bool.not_eq_true',Bool.not_eq_false',Bool.not_eq_true,Bool.not_eq_false,decide_eq_true_eq,decide_eq_false_iff_not,Q4i,Q2t,Q4e,Q2s,beq_iff_eq,beq_eq_false_iff_ne,bne_iff_ne,bne_eq_false_iff_eq,ne_eq,List.all_cons,List.all_nil,D.plain,List.length_cons,List.length_nil,List.length_append,List.length_set,List.length_replicate,IntKind.wrap_i64,IntKind.wrap_u64,IntKind.wrap_u32,IntKind.wrap_i32,IntKind.wrap_u8,true_and,and_true,or_false,false_or,or_true,true_or,not_true_eq_false,not_false_eq_true,Prod.fst,Prod.snd]at*);first|done|assumption|omega)|((simp(config:={decide:=true,failIfUnchanged:=false}) only[Bool.and_eq_true,Bool.or_eq_true,Bool.and_eq_false_iff,Bool.or_eq_false_iff,Bool.not_eq_true',Bool.not_eq_false',Bool.not_eq_true,Bool.not_eq_false,decide_eq_true_eq,decide_eq_false_iff_not,Q4i,Q2t,Q4e,Q2s,beq_iff_eq,beq_eq_false_iff_ne,bne_iff_ne,bne_eq_false_iff_eq,ne_eq,List.all_cons,List.all_nil,D.plain,List.length_cons,List.length_nil,List.length_append,List.length_set,List.length_replicate,IntKind.wrap_i64,IntKind.wrap_u64,IntKind.wrap_u32,IntKind.wrap_i32,IntKind.wrap_u8,true_and,and_true,or_false,false_or,or_true,true_or,not_true_eq_false,not_false_eq_true,Prod.fst,Prod.snd]at*);simp only[<-List.length_pos_iff]at*;omega)|(simp_all;done)|(have:= @Qfb;simp_all;try omega))))
def Zc8:LInv:={
 α:=(Int)×(List Int)
 F:=λst a=>([(0,(lk st 0)),(1,(lk st 1)),(5, .all 0),(6, .int i64 a.1)],[⟨false,5,1, .ints u8 a.2⟩])
 a0:=λst=>((lk st 6).toInt,(Q45 st.rows (rN st 5)))
 ex0:=λst=>[]++[(Q0r (lk st 5) (st.rows.length+0))]
 next:=λst=>((lk st 6).toInt,(Q45 st.rows (rN st 5)))
 ex:=λst=>[]++[(Q0r (lk st 5) (st.rows.length+0))]}
def Z3p:List (Nat×LInv):=[(3,Zc8)]
def Zfm:Q0c:=mkP 65 [] true [.one (.int .i64), .one (.int .i64)] [] (λargs rows=>Q9p (argI args 0) (argI args 1)) (λargs rows=>Qsz (argI args 0) (argI args 1)) (λX=> .str X) (λX=>[])
theorem Zay:Q05 Tryz.prog Zfm:=Q0n Q0j Q0k (.cons Ql0 (.nil)) Tryz.func65 Tryz.call65 (λargs rows=>Qd7 (argI args 0) (argI args 1)) [] Z3p 3 (λ_ _ _=>by kernel_rfl) (λ_ _=>rfl) (λargs rows h=>Z8d (argI args 0) (argI args 1) h) (λ_ X=>by kernel_rfl)
def Qd8(r:Q01):Tree Q01:=
.an (Qef r.A0) (.lv (Qlg r.A0) λ(x0:Q00)=> .cn (decide (40*(0+r.C4.length)<=140737488355328)) (.cn (decide (32*(0+r.A6.length)<=140737488355328)) (.lf ({A0:=x0,A9:=r.A9,C4:=r.C4,A6:=r.A6}))))
def Qnh(r:Q01):Q01:=(Qd8 r).m
abbrev Ql8(r:Q01):Prop:=(Qd8 r).p
def Ze9:Q0c:=mkP 180 [] true [.agg Q01.sig] [] (λargs rows=>Ql8 (Q01.of (args.getD 0 .dead).cells)) (λargs rows=>Qnh (Q01.of (args.getD 0 .dead).cells)) (λX=> .agg (Q01.cellsW X (.all 0) (.all 1) (.all 2))) (λX=>[⟨false,23,1, .ints .u32 X.A0.Mem⟩,⟨false,72,4, .recs .apiEntry X.C4⟩,⟨false,70,3, .recs .apiEvent X.A6⟩])
theorem Qvt:Q05 Tryz.prog Ze9:=Q0n Q0j Q0k (.cons Qq7 (.nil)) Tryz.func180 Tryz.call180 (λargs rows=>Qd8 (Q01.of (args.getD 0 .dead).cells)) [.row 23 1 (.ints .u32), .row 72 4 (.recs .apiEntry), .row 70 3 (.recs .apiEvent)] [] 2 (λ_ _ _=>by kernel_rfl) (λ_ _=>rfl) (λ_ _ h=>h) (λ_ X=>by kernel_rfl)
def Qqt(e:Q0f):Tree Bool:=
.br (e.B5==1) (.lf (decide (e.C8=[]))) (.br (e.B5==6) (.lf (decide (e.C8=[]))) (.br (e.B5==2) (.br (e.N==0) (.lf (decide (e.C8=[]))) (.lf false)) (.br (e.B5==3) (.br (decide (e.N<=255)) (.lf (decide (e.C8=[]))) (.lf false)) (.br (e.B5==4) (.br (decide (e.N<=1)) (.br (decide (e.C8=[])) (.lf true) (.br (e.N==1) (.lf ((e.C8.length:Int)==(128:Int))) (.lf false))) (.lf false)) (.br (e.B5==5) (.br (e.N==0) (.br (decide ((e.C8.length:Int)>=(1:Int))) (.lf (decide ((e.C8.length:Int)<=(128:Int)))) (.lf false)) (.lf false)) (.lf false))))))
def Q2n(e:Q0f):Bool:=(Qqt e).m
def Z6q:Q0c:=mkR 181 [] true [.agg Q0f.sig] [] (λargs rows=>Q2n (Q0f.of (args.getD 0 .dead).cells)) (λX=> .bool X) (λX=>[])
theorem Z2w:Q05 Tryz.prog Z6q:=Q0z Q0j Q0k (.nil) Tryz.func181 Tryz.call181 (λargs rows=>Qqt (Q0f.of (args.getD 0 .dead).cells)) [] [] 2 (λ_ _ _=>by kernel_rfl) (λ_ _=>rfl) (λ_ _=>Tree.free_ok (by kernel_rfl)) (λ_ X=>by kernel_rfl)
def Q89(r:Q01)(e:Q0f):Tree (Q01×Bool):=
.an (Ql8 r) (.lv (Qnh r) λ(x0:Q01)=> .lv (Q2n e) λ(x1:Bool)=> .br (!x1) (.lf (x0,false)) (.br (e.B5==1) (.lf (x0,false)) (.br (decide ((x0.A6.length:Int)>=(16:Int))) (.lf (x0,false)) (.cn (decide (32*(x0.A6.length+1)<=140737488355328)) (.lf ({A0:=x0.A0,A9:=x0.A9,C4:=x0.C4,A6:=x0.A6++[e]},true))))))
def Q2g(r:Q01)(e:Q0f):(Q01×Bool):=(Q89 r e).m
abbrev Qlz(r:Q01)(e:Q0f):Prop:=(Q89 r e).p
def Z3z:Q0c:=mkP 128 [] true [.agg Q01.sig, .agg Q0f.sig] [] (λargs rows=>Qlz (Q01.of (args.getD 0 .dead).cells) (Q0f.of (args.getD 1 .dead).cells)) (λargs rows=>Q2g (Q01.of (args.getD 0 .dead).cells) (Q0f.of (args.getD 1 .dead).cells)) (λX=> .tup [.agg (Q01.cellsW (X.1) (.all 0) (.all 1) (.all 2)), .bool (X.2)]) (λX=>[⟨false,23,1, .ints .u32 (X.1).A0.Mem⟩,⟨false,72,4, .recs .apiEntry (X.1).C4⟩,⟨false,70,3, .recs .apiEvent (X.1).A6⟩])
theorem Qzx:Q05 Tryz.prog Z3z:=Q0n Q0j Q0k (.cons Qvt (.cons Z2w (.nil))) Tryz.func128 Tryz.call128 (λargs rows=>Q89 (Q01.of (args.getD 0 .dead).cells) (Q0f.of (args.getD 1 .dead).cells)) [.row 23 1 (.ints .u32), .row 72 4 (.recs .apiEntry), .row 70 3 (.recs .apiEvent)] [] 2 (λ_ _ _=>by kernel_rfl) (λ_ _=>rfl) (λ_ _ h=>h) (λ_ X=>by kernel_rfl)
def Q8u(n:Int):Tree Q0f:=
.lv (Q2y n 2) λ(x0:Int)=> .br (Int.tmod x0 (7:Int)==(0:Int)) (.lf ({B5:=2,N:=0,C8:=[]})) (.br (Int.tmod x0 (7:Int)==(1:Int)) (.lf ({B5:=3,N:=wrap u32 (iand i64 (ishr i64 x0 8) 255),C8:=[]})) (.br (Int.tmod x0 (7:Int)==(2:Int)) (.lf ({B5:=3,N:=wrap u32 (iand i64 (ishr i64 x0 8) 255),C8:=[]})) (.br (Int.tmod x0 (7:Int)==(3:Int)) (.lf ({B5:=4,N:=1,C8:=[]})) (.br (Int.tmod x0 (7:Int)==(4:Int)) (.an (Q9p x0 128) (.lv (Qsz x0 128) λ(x1:List UInt8)=> .lf ({B5:=4,N:=1,C8:=x1}))) (.br (Int.tmod x0 (7:Int)==(5:Int)) (let E1:=wrap i64 (1+Int.tmod (ishr i64 x0 8) 40); .an (Q9p x0 E1) (.lv (Qsz x0 E1) λ(x2:List UInt8)=> .lf ({B5:=5,N:=0,C8:=x2}))) (.br (Int.tmod (ishr i64 x0 8) (4:Int)==(0:Int)) (.lf ({B5:=4,N:=0,C8:=[]})) (.lf ({B5:=6,N:=wrap u32 (Int.tmod (ishr i64 x0 8) 3),C8:=[]}))))))))
def Q44(n:Int):Q0f:=(Q8u n).m
abbrev Qp3(n:Int):Prop:=(Q8u n).p
def Zbm:Q0c:=mkP 62 [] true [.one (.int .i64)] [] (λargs rows=>Qp3 (argI args 0)) (λargs rows=>Q44 (argI args 0)) (λX=> .agg (Q0f.cells X)) (λX=>[])
theorem Z6i:Q05 Tryz.prog Zbm:=Q0n Q0j Q0k (.cons Ql0 (.cons Zay (.nil))) Tryz.func62 Tryz.call62 (λargs rows=>Q8u (argI args 0)) [] [] 2 (λ_ _ _=>by kernel_rfl) (λ_ _=>rfl) (λ_ _ h=>h) (λ_ X=>by kernel_rfl)
def Qng(m:(List Int)):Tree Int:=
.br (Int.tmod (m.length:Int) (32:Int) !=(0:Int)) (.lf 0) (.br (decide ((m.length:Int)>(1024:Int))) (.lf 0) (.lf (wrap i64 (Int.tdiv (m.length:Int) 32))))
def Q3i(m:(List Int)):Int:=(Qng m).m
def Zcj:Q0c:=mkR 86 [] true [.one (.ints .u32)] [] (λargs rows=>Q3i (argL .u32 args 0)) (λX=> .int .i64 X) (λX=>[])
theorem Qbl:Q05 Tryz.prog Zcj:=Q0z Q0j Q0k (.nil) Tryz.func86 Tryz.call86 (λargs rows=>Qng (argL .u32 args 0)) [] [] 2 (λ_ _ _=>by kernel_rfl) (λ_ _=>rfl) (λ_ _=>Tree.free_ok (by kernel_rfl)) (λ_ X=>by kernel_rfl)
def Qjv(c:Q0b):Tree Bool:=
.lf (decide ((c.D3.length:Int)<=(16:Int)))
def Qhq(c:Q0b):Bool:=(Qjv c).m
def Qvd:Q0c:=mkR 87 [] true [.agg Q0b.sig] [] (λargs rows=>Qhq (Q0b.of (args.getD 0 .dead).cells)) (λX=> .bool X) (λX=>[])
theorem Qrk:Q05 Tryz.prog Qvd:=Q0z Q0j Q0k (.nil) Tryz.func87 Tryz.call87 (λargs rows=>Qjv (Q0b.of (args.getD 0 .dead).cells)) [] [] 2 (λ_ _ _=>by kernel_rfl) (λ_ _=>rfl) (λ_ _=>Tree.free_ok (by kernel_rfl)) (λ_ X=>by kernel_rfl)
def Qi8(t:Q0g):Tree Bool:=
.br t.D2 (.br t.D5 (.lf false) (.br t.D2 (.lf (t.C9 !=0)) (.br t.D5 (.lf true) (.lf (t.C9==0))))) (.br t.D2 (.lf (t.C9 !=0)) (.br t.D5 (.lf true) (.lf (t.C9==0))))
def Qc5(t:Q0g):Bool:=(Qi8 t).m
def Z14:Q0c:=mkR 88 [] true [.agg Q0g.sig] [] (λargs rows=>Qc5 (Q0g.of (args.getD 0 .dead).cells)) (λX=> .bool X) (λX=>[])
theorem Qwv:Q05 Tryz.prog Z14:=Q0z Q0j Q0k (.nil) Tryz.func88 Tryz.call88 (λargs rows=>Qi8 (Q0g.of (args.getD 0 .dead).cells)) [] [] 2 (λ_ _ _=>by kernel_rfl) (λ_ _=>rfl) (λ_ _=>Tree.free_ok (by kernel_rfl)) (λ_ X=>by kernel_rfl)
def Qj8(d0:Q0e)(pages:Int):Tree Bool:=
.br (decide (d0.Blocks>64)) (.lf false) (.br (decide (d0.C1<0)) (.lf false) (.br (decide (d0.C1>3)) (.lf false) (.br (d0.C1 !=1) (.br (d0.D8==0) (.br (d0.B7==0) (.br (d0.B3==0) (.lf (decide (d0.C3=[]))) (.lf false)) (.lf false)) (.lf false)) (.br (decide (d0.B7>=d0.Blocks)) (.lf false) (.br (decide (wrap i64 d0.B3>=pages)) (.lf false) (.br (d0.D8==1) (.br (decide (d0.C3=[])) (.lf true) (.br (d0.D8==2) (.lf ((d0.C3.length:Int)==(128:Int))) (.lf false))) (.br (d0.D8==2) (.lf ((d0.C3.length:Int)==(128:Int))) (.lf false))))))))
def Qeh(d0:Q0e)(pages:Int):Bool:=(Qj8 d0 pages).m
def Z2s:Q0c:=mkR 89 [] true [.agg Q0e.sig, .one (.int .i64)] [] (λargs rows=>Qeh (Q0e.of (args.getD 0 .dead).cells) (argI args 1)) (λX=> .bool X) (λX=>[])
theorem Z0j:Q05 Tryz.prog Z2s:=Q0z Q0j Q0k (.nil) Tryz.func89 Tryz.call89 (λargs rows=>Qj8 (Q0e.of (args.getD 0 .dead).cells) (argI args 1)) [] [] 2 (λ_ _ _=>by kernel_rfl) (λ_ _=>rfl) (λ_ _=>Tree.free_ok (by kernel_rfl)) (λ_ X=>by kernel_rfl)
def Ql6(n:Q0q)(pages:Int):Tree Bool:=
let T1:Tree (Bool):= .br n.B8 (.br (decide (n.F2>=1)) (.lf (decide (n.F2<=128))) (.lf false)) (.lf (n.F2==0)); .br n.C7 (.br n.B8 (.lf false) (.br (decide (wrap i64 n.C0>=pages)) (.lf false) (.br (!n.C7) (.br (n.C0 !=0) (.lf false) T1) T1))) (.br (!n.C7) (.br (n.C0 !=0) (.lf false) T1) T1)
def Qgq(n:Q0q)(pages:Int):Bool:=(Ql6 n pages).m
def Z7z:Q0c:=mkR 90 [] true [.agg Q0q.sig, .one (.int .i64)] [] (λargs rows=>Qgq (Q0q.of (args.getD 0 .dead).cells) (argI args 1)) (λX=> .bool X) (λX=>[])
theorem Z33:Q05 Tryz.prog Z7z:=Q0z Q0j Q0k (.nil) Tryz.func90 Tryz.call90 (λargs rows=>Ql6 (Q0q.of (args.getD 0 .dead).cells) (argI args 1)) [] [] 2 (λ_ _ _=>by kernel_rfl) (λ_ _=>rfl) (λ_ _=>Tree.free_ok (by kernel_rfl)) (λ_ X=>by kernel_rfl)
def Qfj(b:Q07)(pages:Int)(z:(Int)):Prop:=0<=z/\z<=32
def Q5v(b:Q07)(pages:Int)(z:(Int)):Nat:=(32-z).toNat
def Q51(b:Q07)(pages:Int):Tree Bool:=
.lp inferInstance (Q5v b pages 0+1) ((rE (pages:Int)/\(rE (0:Nat)/\rE (0:Nat))/\rE (0:Int)/\True)/\(rE b.D0/\rE b.C2/\True)/\True) 0 λ(v0:Int)=> .br (decide (v0<32)) (.cn (decide (0<=wrap u64 v0)) (let T1:Tree ((Int)⊕(Bool)):= .nx ((rE (pages:Int)/\(rE (0:Nat)/\rE (0:Nat))/\rE ((wrap i64 (v0+1)):Int)/\True)/\(rE b.D0/\rE b.C2/\True)/\True) (Sum.inl (wrap i64 (v0+1))); .br (iand u32 (ishr u32 b.C2 (wrap u64 v0)) (1:Int)==(1:Int)) (.br (decide (v0>=pages)) (.lf (Sum.inr false)) T1) T1)) (.lf (Sum.inr true))
def Q9f(b:Q07)(pages:Int):Bool:=(Q51 b pages).m
theorem Qq9(b:Q07)(pages:Int):(Q51 b pages).p:=by
 unfold Tree.p Q51
 repeat'(first|refine w_lp (inv:=Qfj b pages) (μ:=Q5v b pages) ?_ (Nat.lt_succ_self _) (λ_ _=> ?_)|exact trivial|refine w_br (λ_=> ?_) (λ_=> ?_)|refine w_cn ?_ ?_|refine w_an ?_ ?_|refine w_lv (λ_ _=> ?_)|refine w_nx ?_|refine w_lf ?_|refine And.intro ?_ ?_)
 all_goals((try simp only[Qfj,Q5v]at*);((subst_vars;first|trivial|assumption|omega|((simp(config:={decide:=true,failIfUnchanged:=false}) only[Bool.and_eq_true,Bool.or_eq_true,Bool.and_eq_false_iff,Bool.or_eq_false_iff,Bool.not_eq_true',Bool.not_eq_false',Bool.not_eq_true,Bool.not_eq_false,decide_eq_true_eq,decide_eq_false_iff_not,Q4i,Q2t,Q4e,Q2s,beq_iff_eq,beq_eq_false_iff_ne,bne_iff_ne,bne_eq_false_iff_eq,ne_eq,List.all_cons,List.all_nil,D.plain,List.length_cons,List.length_nil,List.length_append,List.length_set,List.length_replicate,IntKind.wrap_i64,IntKind.wrap_u64,IntKind.wrap_u32,IntKind.wrap_i32,IntKind.wrap_u8,true_and,and_true,or_false,false_or,or_true,true_or,not_true_eq_false,not_false_eq_true,Prod.fst,Prod.snd]at*);first|done|assumption|omega)|((simp(config:={decide:=true,failIfUnchanged:=false}) only[Bool.and_eq_true,Bool.or_eq_true,Bool.and_eq_false_iff,Bool.or_eq_false_iff,Bool.not_eq_true',Bool.not_eq_false',Bool.not_eq_true,Bool.not_eq_false,decide_eq_true_eq,decide_eq_false_iff_not,Q4i,Q2t,Q4e,Q2s,beq_iff_eq,beq_eq_false_iff_ne,bne_iff_ne,bne_eq_false_iff_eq,ne_eq,List.all_cons,List.all_nil,D.plain,List.length_cons,List.length_nil,List.length_append,List.length_set,List.length_replicate,IntKind.wrap_i64,IntKind.wrap_u64,IntKind.wrap_u32,IntKind.wrap_i32,IntKind.wrap_u8,true_and,and_true,or_false,false_or,or_true,true_or,not_true_eq_false,not_false_eq_true,Prod.fst,Prod.snd]at*);simp only[<-List.length_pos_iff]at*;omega)|(simp_all;done)|(have:= @Qfb;simp_all;try omega))))
def Qt4:LInv:={
 α:=(Int)
 F:=λst a=>([(1,(lk st 1)),(2, .ptr 0 0 0),(5, .int i64 a)],[⟨true,38,2, .gen [[(cT st 2 0),(cT st 2 1)]]⟩])
 a0:=λst=>(lk st 5).toInt
 ex0:=λst=>[]++[(Q0r (lk st 2) (st.rows.length+0))]
 next:=λst=>(lk st 5).toInt
 ex:=λst=>[]++[(Q0r (lk st 2) (st.rows.length+0))]}
def Qot:List (Nat×LInv):=[(2,Qt4)]
def Qub:Q0c:=mkR 91 [] true [.agg Q07.sig, .one (.int .i64)] [] (λargs rows=>Q9f (Q07.of (args.getD 0 .dead).cells) (argI args 1)) (λX=> .bool X) (λX=>[])
theorem Qr:Q05 Tryz.prog Qub:=Q0z Q0j Q0k (.nil) Tryz.func91 Tryz.call91 (λargs rows=>Q51 (Q07.of (args.getD 0 .dead).cells) (argI args 1)) [] Qot 3 (λ_ _ _=>by kernel_rfl) (λ_ _=>rfl) (λargs rows=>Qq9 (Q07.of (args.getD 0 .dead).cells) (argI args 1)) (λ_ X=>by kernel_rfl)
def Quy(m:Q00):Tree Bool:=
.lv (Q3i m.Mem) λ(x0:Int)=> .br (decide (x0<1)) (.lf false) (.br (m.B2.X.a0 !=0) (.lf false) (.br (decide (m.B2.B6.a0>31)) (.lf false) (.br (decide (m.B2.B6.a7>31)) (.lf false) (.br (decide (m.B2.B6.a6>255)) (.lf false) (.br (Int.tmod m.B2.B6.a1 (4:Int) !=(0:Int)) (.lf false) (.lv (Qhq m.A3) λ(x1:Bool)=> .br (!x1) (.lf false) (.lv (Qc5 m.B0) λ(x2:Bool)=> .br (!x2) (.lf false) (.lv (Qeh m.B1 x0) λ(x3:Bool)=> .br (!x3) (.lf false) (.lv (Qgq m.C5 x0) λ(x4:Bool)=> .br (!x4) (.lf false) (.lv (Q9f m.A2 x0) λ(x5:Bool)=> .br (!x5) (.lf false) (.br (decide (m.A1<=1152921504606846976)) (.br m.A4 (.lf (!m.A7)) (.lf true)) (.lf false))))))))))))
def Q7b(m:Q00):Bool:=(Quy m).m
def Zl2:Q0c:=mkR 44 [] true [.agg Q00.sig] [] (λargs rows=>Q7b (Q00.of (args.getD 0 .dead).cells)) (λX=> .bool X) (λX=>[])
theorem Qqd:Q05 Tryz.prog Zl2:=Q0z Q0j Q0k (.cons Qbl (.cons Qrk (.cons Qwv (.cons Z0j (.cons Z33 (.cons Qr (.nil))))))) Tryz.func44 Tryz.call44 (λargs rows=>Quy (Q00.of (args.getD 0 .dead).cells)) [] [] 2 (λ_ _ _=>by kernel_rfl) (λ_ _=>rfl) (λ_ _=>Tree.free_ok (by kernel_rfl)) (λ_ X=>by kernel_rfl)
def Q9d(t:Q0g):Tree (Q0g×Bool):=
.br (!t.D2) (.lf (t,false)) (.lf ({D2:=false,C9:=t.C9,D5:=true},true))
def Q67(t:Q0g):(Q0g×Bool):=(Q9d t).m
def Zh4:Q0c:=mkR 132 [] true [.agg Q0g.sig] [] (λargs rows=>Q67 (Q0g.of (args.getD 0 .dead).cells)) (λX=> .tup [.agg (Q0g.cells (X.1)), .bool (X.2)]) (λX=>[])
theorem Qwh:Q05 Tryz.prog Zh4:=Q0z Q0j Q0k (.nil) Tryz.func132 Tryz.call132 (λargs rows=>Q9d (Q0g.of (args.getD 0 .dead).cells)) [] [] 2 (λ_ _ _=>by kernel_rfl) (λ_ _=>rfl) (λ_ _=>Tree.free_ok (by kernel_rfl)) (λ_ X=>by kernel_rfl)
def Qas(c:Q0b)(b:Int):Tree (Q0b×Bool):=
.br (decide ((c.D3.length:Int)>=(16:Int))) (.lf (c,false)) (.cn (decide (c.D3.length+1<=maxLen)) (.lf ({D3:=c.D3++[(λ(n:Int)=>UInt8.ofNat n.toNat) b]},true)))
def Qjm(c:Q0b)(b:Int):(Q0b×Bool):=(Qas c b).m
abbrev Qkt(c:Q0b)(b:Int):Prop:=(Qas c b).p
def Zeq:Q0c:=mkP 133 [] true [.agg Q0b.sig, .one (.int .u8)] [] (λargs rows=>Qkt (Q0b.of (args.getD 0 .dead).cells) (argI args 1)) (λargs rows=>Qjm (Q0b.of (args.getD 0 .dead).cells) (argI args 1)) (λX=> .tup [.agg (Q0b.cells (X.1)), .bool (X.2)]) (λX=>[])
theorem Qvu:Q05 Tryz.prog Zeq:=Q0n Q0j Q0k (.nil) Tryz.func133 Tryz.call133 (λargs rows=>Qas (Q0b.of (args.getD 0 .dead).cells) (argI args 1)) [] [] 2 (λ_ _ _=>by kernel_rfl) (λ_ _=>rfl) (λ_ _ h=>h) (λ_ X=>by kernel_rfl)
def Qhb(m:(List Int))(frame:Int):Tree Bool:=
.lv (Q3i m) λ(x0:Int)=> .lf (decide (wrap u64 frame<wrap u64 x0))
def Q1y(m:(List Int))(frame:Int):Bool:=(Qhb m frame).m
def Zfj:Q0c:=mkR 186 [] true [.one (.ints .u32), .one (.int .u32)] [] (λargs rows=>Q1y (argL .u32 args 0) (argI args 1)) (λX=> .bool X) (λX=>[])
theorem Qe6:Q05 Tryz.prog Zfj:=Q0z Q0j Q0k (.cons Qbl (.nil)) Tryz.func186 Tryz.call186 (λargs rows=>Qhb (argL .u32 args 0) (argI args 1)) [] [] 2 (λ_ _ _=>by kernel_rfl) (λ_ _=>rfl) (λ_ _=>Tree.free_ok (by kernel_rfl)) (λ_ X=>by kernel_rfl)
def Qdb(m:(List Int))(addr:Int)(size:Int)(v:Int):Tree (List Int):=
let E1:=Nat.beq 1 1&&Nat.blt 0 1&&decide (0<=wrap u32 (Int.tdiv addr 4)/\wrap u32 (Int.tdiv addr 4)<(m.length:Int));let E2:=Int.toNat (wrap u32 (Int.tdiv addr 4)); .br (size==4) (.cn E1 (.lf (List.set m E2 v))) (.cn E1 (let E3:=decide (0<=wrap u32 (8*Int.tmod addr 4)); .cn E3 (.cn E3 (.cn E1 (.lf (List.set m E2 (ior u32 (Qg1 u32 (m.getD E2 0) (ishl u32 255 (wrap u32 (8*Int.tmod addr 4)))) (ishl u32 (iand u32 v 255) (wrap u32 (8*Int.tmod addr 4))))))))))
def Q9n(m:(List Int))(addr:Int)(size:Int)(v:Int):(List Int):=(Qdb m addr size v).m
abbrev Qeb(m:(List Int))(addr:Int)(size:Int)(v:Int):Prop:=(Qdb m addr size v).p
def Zk2:Q0c:=mkP 234 [true,false,false,false] true [.one (.row 0), .one (.int .u32), .one (.int .i64), .one (.int .u32)] [.arr 23 1 (.ints .u32)] (λargs rows=>Qeb (rowL .u32 rows 0) (argI args 1) (argI args 2) (argI args 3)) (λargs rows=>Q9n (rowL .u32 rows 0) (argI args 1) (argI args 2) (argI args 3)) (λX=> .tup []) (λX=>[⟨false,23,1, .ints .u32 X⟩])
theorem Qz5:Q05 Tryz.prog Zk2:=Q0n Q0j Q0k (.nil) Tryz.func234 Tryz.call234 (λargs rows=>Qdb (rowL .u32 rows 0) (argI args 1) (argI args 2) (argI args 3)) [] [] 2 (λ_ _ _=>by kernel_rfl) (λ_ _=>rfl) (λ_ _ h=>h) (λ_ X=>by kernel_rfl)
def Qhw(m:(List Int))(frame:Int)(s:(List UInt8))(z:(Int)×(List Int)):Nat:=(128-z.1).toNat
def Q8q(m:(List Int))(frame:Int)(s:(List UInt8)):Tree (List Int):=
.lp inferInstance (Qhw m frame s (0,m)+1) ((True/\rE (frame:Int)/\rE (s:List UInt8)/\rE (0:Int)/\True)/\rE (m:List Int)/\True) (0,m) λ(v0:Int×List Int)=> .br (decide (v0.1<(s.length:Int))) (.br (decide (v0.1<128)) (.cn (decide (0<=v0.1/\v0.1<(s.length:Int))) (let E1:=wrap u32 (↑(UInt8.toNat (s.getD v0.1.toNat (0:UInt8))):Int);let E2:=wrap u32 (wrap i64 (wrap i64 (frame*128)+v0.1)); .an (Qeb v0.2 E2 1 E1) (.lv (Q9n v0.2 E2 1 E1) λ(x0:List Int)=> .nx ((True/\rE (frame:Int)/\rE (s:List UInt8)/\rE ((wrap i64 (v0.1+1)):Int)/\True)/\rE (x0:List Int)/\True) (Sum.inl (wrap i64 (v0.1+1),x0))))) (.lf (Sum.inr v0.2))) (.lf (Sum.inr v0.2))
def Qjh(m:(List Int))(frame:Int)(s:(List UInt8)):(List Int):=(Q8q m frame s).m
abbrev Qla(m:(List Int))(frame:Int)(s:(List UInt8)):Prop:=(Q8q m frame s).p
def Zcn:LInv:={
 α:=(Int)×(List Int)
 F:=λst a=>([(0, .all 0),(1,(lk st 1)),(2,(lk st 2)),(6, .int i64 a.1)],[⟨false,23,1, .ints u32 a.2⟩])
 a0:=λst=>((lk st 6).toInt,(Q45 st.rows 0))
 ex0:=λst=>[0]++[]
 next:=λst=>((lk st 6).toInt,(Q45 st.rows 0))
 ex:=λst=>[0]++[]}
def Z27:List (Nat×LInv):=[(1,Zcn)]
def Zf2:Q0c:=mkP 187 [true,false,false] true [.one (.row 0), .one (.int .i64), .one (.str)] [.arr 23 1 (.ints .u32)] (λargs rows=>Qla (rowL .u32 rows 0) (argI args 1) (argS args 2)) (λargs rows=>Qjh (rowL .u32 rows 0) (argI args 1) (argS args 2)) (λX=> .tup []) (λX=>[⟨false,23,1, .ints .u32 X⟩])
theorem Qvo:Q05 Tryz.prog Zf2:=Q0n Q0j Q0k (.cons Qz5 (.nil)) Tryz.func187 Tryz.call187 (λargs rows=>Q8q (rowL .u32 rows 0) (argI args 1) (argS args 2)) [] Z27 3 (λ_ _ _=>by kernel_rfl) (λ_ _=>rfl) (λ_ _ h=>h) (λ_ X=>by kernel_rfl)
def Q5u(d0:Q0e)(m:(List Int))(e:Q0f):Tree (Q0e×Bool×(List Int)):=
.br (d0.C1 !=1) (.lf (d0,false,m)) (.br (e.B5 !=4) (.lf (d0,false,m)) (.br (decide (e.N>1)) (.lf (d0,false,m)) (let E4:=({Blocks:=d0.Blocks,B9:=d0.B9,B4:=d0.B4,C1:=2,D8:=0,B7:=0,B3:=0,C3:=[]}:Q0e);let E5:=({Blocks:=d0.Blocks,B9:=d0.B9,B4:=d0.B4,C1:=3,D8:=0,B7:=0,B3:=0,C3:=[]}:Q0e);let T2:Tree ((Q0e×Bool×(List Int))):= .br (e.N==1) (.lf (E4,true,m)) (.lf (E5,true,m));let E6:=decide ((e.C8.length:Int)>(0:Int)); .br (e.N==1) (let T1:Tree ((Q0e×Bool×(List Int))):= .br (d0.D8==1) (.an (Qla m (wrap i64 d0.B3) e.C8) (.lv (Qjh m (wrap i64 d0.B3) e.C8) λ(x1:List Int)=> .br (e.N==1) (.lf (E4,true,x1)) (.lf (E5,true,x1)))) T2;let T3:Tree ((Q0e×Bool×(List Int))):= .br (!d0.D8==1) (.br E6 (.lf (d0,false,m)) T1) T1; .br (d0.D8==1) (.br ((e.C8.length:Int) !=(128:Int)) (.lf (d0,false,m)) (.lv (Q1y m d0.B3) λ(x0:Bool)=> .br (!x0) (.lf (d0,false,m)) T3)) T3) (.br E6 (.lf (d0,false,m)) T2))))
def Q75(d0:Q0e)(m:(List Int))(e:Q0f):(Q0e×Bool×(List Int)):=(Q5u d0 m e).m
abbrev Qhl(d0:Q0e)(m:(List Int))(e:Q0f):Prop:=(Q5u d0 m e).p
def Z6e:Q0c:=mkP 134 [false,true,false] true [.agg Q0e.sig, .one (.row 0), .agg Q0f.sig] [.arr 23 1 (.ints .u32)] (λargs rows=>Qhl (Q0e.of (args.getD 0 .dead).cells) (rowL .u32 rows 0) (Q0f.of (args.getD 2 .dead).cells)) (λargs rows=>Q75 (Q0e.of (args.getD 0 .dead).cells) (rowL .u32 rows 0) (Q0f.of (args.getD 2 .dead).cells)) (λX=> .tup [.agg (Q0e.cells (X.1)), .bool (X.2.1)]) (λX=>[⟨false,23,1, .ints .u32 (X.2.2)⟩])
theorem Qpj:Q05 Tryz.prog Z6e:=Q0n Q0j Q0k (.cons Qe6 (.cons Qvo (.nil))) Tryz.func134 Tryz.call134 (λargs rows=>Q5u (Q0e.of (args.getD 0 .dead).cells) (rowL .u32 rows 0) (Q0f.of (args.getD 2 .dead).cells)) [] [] 2 (λ_ _ _=>by kernel_rfl) (λ_ _=>rfl) (λ_ _ h=>h) (λ_ X=>by kernel_rfl)
def Q5y(n:Q0q)(m:(List Int))(frame:(List UInt8)):Tree (Q0q×Bool×(List Int)):=
.br (!n.C7) (.lf (n,false,m)) (.br (decide ((frame.length:Int)<(1:Int))) (.lf (n,false,m)) (.br (decide ((frame.length:Int)>(128:Int))) (.lf (n,false,m)) (.lv (Q1y m n.C0) λ(x0:Bool)=> .br (!x0) (.lf (n,false,m)) (.an (Qla m (wrap i64 n.C0) frame) (.lv (Qjh m (wrap i64 n.C0) frame) λ(x1:List Int)=> .lf ({B4:=n.B4,F0:=n.F0,C7:=false,C0:=0,B8:=true,F2:=wrap u32 (frame.length:Int)},true,x1))))))
def Q76(n:Q0q)(m:(List Int))(frame:(List UInt8)):(Q0q×Bool×(List Int)):=(Q5y n m frame).m
abbrev Qgn(n:Q0q)(m:(List Int))(frame:(List UInt8)):Prop:=(Q5y n m frame).p
def Z6o:Q0c:=mkP 135 [false,true,false] true [.agg Q0q.sig, .one (.row 0), .one (.str)] [.arr 23 1 (.ints .u32)] (λargs rows=>Qgn (Q0q.of (args.getD 0 .dead).cells) (rowL .u32 rows 0) (argS args 2)) (λargs rows=>Q76 (Q0q.of (args.getD 0 .dead).cells) (rowL .u32 rows 0) (argS args 2)) (λX=> .tup [.agg (Q0q.cells (X.1)), .bool (X.2.1)]) (λX=>[⟨false,23,1, .ints .u32 (X.2.2)⟩])
theorem Qpp:Q05 Tryz.prog Z6o:=Q0n Q0j Q0k (.cons Qe6 (.cons Qvo (.nil))) Tryz.func135 Tryz.call135 (λargs rows=>Q5y (Q0q.of (args.getD 0 .dead).cells) (rowL .u32 rows 0) (argS args 2)) [] [] 2 (λ_ _ _=>by kernel_rfl) (λ_ _=>rfl) (λ_ _ h=>h) (λ_ X=>by kernel_rfl)
def Q42(m:Q00)(e:Q0f):Tree (Bool×Q00):=
.br m.A7 (.lf (false,m)) (let T1:Tree ((Bool×Q00)):= .br (e.B5==4) (.an (Qhl m.B1 m.Mem e) (.lv (Q75 m.B1 m.Mem e) λ(x2:Q0e×Bool×List Int)=> .lf (x2.2.1,{B2:=m.B2,Mem:=x2.2.2,A3:=m.A3,B0:=m.B0,B1:=x2.1,C5:=m.C5,A2:=m.A2,A1:=m.A1,A4:=m.A4,A7:=m.A7}))) (let T3:Tree ((Bool×Q00)):= .br (e.B5==6) (.br (decide (e.C8=[])) (.lf (true,{B2:=m.B2,Mem:=m.Mem,A3:=m.A3,B0:=m.B0,B1:=m.B1,C5:=m.C5,A2:={D0:=e.N,C2:=m.A2.C2},A1:=m.A1,A4:=m.A4,A7:=m.A7})) (.lf (false,m))) (.lf (false,m)); .br (e.B5==5) (.br (e.N==0) (.an (Qgn m.C5 m.Mem e.C8) (.lv (Q76 m.C5 m.Mem e.C8) λ(x3:Q0q×Bool×List Int)=> .lf (x3.2.1,{B2:=m.B2,Mem:=x3.2.2,A3:=m.A3,B0:=m.B0,B1:=m.B1,C5:=x3.1,A2:=m.A2,A1:=m.A1,A4:=m.A4,A7:=m.A7}))) T3) T3);let T2:Tree ((Bool×Q00)):= .br (e.B5==3) (.br (decide (e.N<=255)) (.br (decide (e.C8=[])) (.an (Qkt m.A3 (wrap u8 e.N)) (.lv (Qjm m.A3 (wrap u8 e.N)) λ(x1:Q0b×Bool)=> .lf (x1.2,{B2:=m.B2,Mem:=m.Mem,A3:=x1.1,B0:=m.B0,B1:=m.B1,C5:=m.C5,A2:=m.A2,A1:=m.A1,A4:=m.A4,A7:=m.A7}))) T1) T1) T1; .br (e.B5==2) (.br (e.N==0) (.br (decide (e.C8=[])) (.lv (Q67 m.B0) λ(x0:Q0g×Bool)=> .lf (x0.2,{B2:=m.B2,Mem:=m.Mem,A3:=m.A3,B0:=x0.1,B1:=m.B1,C5:=m.C5,A2:=m.A2,A1:=m.A1,A4:=m.A4,A7:=m.A7})) T2) T2) T2)
def Q0o(m:Q00)(e:Q0f):(Bool×Q00):=(Q42 m e).m
abbrev Qp4(m:Q00)(e:Q0f):Prop:=(Q42 m e).p
def Zbh:Q0c:=mkP 68 [true,false] true [.ptr 0, .agg Q0f.sig] [.box 41 49 (Q00.sigW (.row 1)), .arr 23 1 (.ints .u32)] (λargs rows=>Qp4 (Q00.ofW (rows.getD 0 default).cs (rowL .u32 rows 1)) (Q0f.of (args.getD 1 .dead).cells)) (λargs rows=>Q0o (Q00.ofW (rows.getD 0 default).cs (rowL .u32 rows 1)) (Q0f.of (args.getD 1 .dead).cells)) (λX=> .bool (X.1)) (λX=>[⟨true,41,49, .gen [(Q00.cellsW (X.2) (.all 1))]⟩,⟨false,23,1, .ints .u32 (X.2).Mem⟩])
theorem Z7h:Q05 Tryz.prog Zbh:=Q0n Q0j Q0k (.cons Qwh (.cons Qvu (.cons Qpj (.cons Qpp (.nil))))) Tryz.func68 Tryz.call68 (λargs rows=>Q42 (Q00.ofW (rows.getD 0 default).cs (rowL .u32 rows 1)) (Q0f.of (args.getD 1 .dead).cells)) [.row 23 1 (.ints .u32)] [] 2 (λ_ _ _=>by kernel_rfl) (λ_ _=>rfl) (λ_ _ h=>h) (λ_ X=>by kernel_rfl)
def Q8a(m:Q01)(e:Q0f):Tree (Bool×Q01):=
.br m.A0.A7 (.lf (false,m)) (let T1:Tree ((Bool×Q01)):= .br (e.B5==4) (.an (Qhl m.A0.B1 m.A0.Mem e) (.lv (Q75 m.A0.B1 m.A0.Mem e) λ(x2:Q0e×Bool×List Int)=> .lf (x2.2.1,{A0:={B2:=m.A0.B2,Mem:=x2.2.2,A3:=m.A0.A3,B0:=m.A0.B0,B1:=x2.1,C5:=m.A0.C5,A2:=m.A0.A2,A1:=m.A0.A1,A4:=m.A0.A4,A7:=m.A0.A7},A9:=m.A9,C4:=m.C4,A6:=m.A6}))) (let T3:Tree ((Bool×Q01)):= .br (e.B5==6) (.br (decide (e.C8=[])) (.lf (true,{A0:={B2:=m.A0.B2,Mem:=m.A0.Mem,A3:=m.A0.A3,B0:=m.A0.B0,B1:=m.A0.B1,C5:=m.A0.C5,A2:={D0:=e.N,C2:=m.A0.A2.C2},A1:=m.A0.A1,A4:=m.A0.A4,A7:=m.A0.A7},A9:=m.A9,C4:=m.C4,A6:=m.A6})) (.lf (false,m))) (.lf (false,m)); .br (e.B5==5) (.br (e.N==0) (.an (Qgn m.A0.C5 m.A0.Mem e.C8) (.lv (Q76 m.A0.C5 m.A0.Mem e.C8) λ(x3:Q0q×Bool×List Int)=> .lf (x3.2.1,{A0:={B2:=m.A0.B2,Mem:=x3.2.2,A3:=m.A0.A3,B0:=m.A0.B0,B1:=m.A0.B1,C5:=x3.1,A2:=m.A0.A2,A1:=m.A0.A1,A4:=m.A0.A4,A7:=m.A0.A7},A9:=m.A9,C4:=m.C4,A6:=m.A6}))) T3) T3);let T2:Tree ((Bool×Q01)):= .br (e.B5==3) (.br (decide (e.N<=255)) (.br (decide (e.C8=[])) (.an (Qkt m.A0.A3 (wrap u8 e.N)) (.lv (Qjm m.A0.A3 (wrap u8 e.N)) λ(x1:Q0b×Bool)=> .lf (x1.2,{A0:={B2:=m.A0.B2,Mem:=m.A0.Mem,A3:=x1.1,B0:=m.A0.B0,B1:=m.A0.B1,C5:=m.A0.C5,A2:=m.A0.A2,A1:=m.A0.A1,A4:=m.A0.A4,A7:=m.A0.A7},A9:=m.A9,C4:=m.C4,A6:=m.A6}))) T1) T1) T1; .br (e.B5==2) (.br (e.N==0) (.br (decide (e.C8=[])) (.lv (Q67 m.A0.B0) λ(x0:Q0g×Bool)=> .lf (x0.2,{A0:={B2:=m.A0.B2,Mem:=m.A0.Mem,A3:=m.A0.A3,B0:=x0.1,B1:=m.A0.B1,C5:=m.A0.C5,A2:=m.A0.A2,A1:=m.A0.A1,A4:=m.A0.A4,A7:=m.A0.A7},A9:=m.A9,C4:=m.C4,A6:=m.A6})) T2) T2) T2)
def Qiy(m:Q01)(e:Q0f):(Bool×Q01):=(Q8a m e).m
abbrev Qm2(m:Q01)(e:Q0f):Prop:=(Q8a m e).p
def Z3r:Q0c:=mkP 68 [true,false] true [.ptr 0, .agg Q0f.sig] [.box 49 52 (Q01.sigW (.row 1) (.row 2) (.row 3)), .arr 23 1 (.ints .u32), .arr 72 4 (.recs .apiEntry), .arr 70 3 (.recs .apiEvent)] (λargs rows=>Qm2 (Q01.ofW (rows.getD 0 default).cs (rowL .u32 rows 1) (rowR .apiEntry rows 2) (rowR .apiEvent rows 3)) (Q0f.of (args.getD 1 .dead).cells)) (λargs rows=>Qiy (Q01.ofW (rows.getD 0 default).cs (rowL .u32 rows 1) (rowR .apiEntry rows 2) (rowR .apiEvent rows 3)) (Q0f.of (args.getD 1 .dead).cells)) (λX=> .bool (X.1)) (λX=>[⟨true,49,52, .gen [(Q01.cellsW (X.2) (.all 1) (.all 2) (.all 3))]⟩,⟨false,23,1, .ints .u32 (X.2).A0.Mem⟩,⟨false,72,4, .recs .apiEntry (X.2).C4⟩,⟨false,70,3, .recs .apiEvent (X.2).A6⟩])
theorem Z0v:Q05 Tryz.prog Z3r:=Q0n Q0j Q0k (.cons Qwh (.cons Qvu (.cons Qpj (.cons Qpp (.nil))))) Tryz.func68 Tryz.call68 (λargs rows=>Q8a (Q01.ofW (rows.getD 0 default).cs (rowL .u32 rows 1) (rowR .apiEntry rows 2) (rowR .apiEvent rows 3)) (Q0f.of (args.getD 1 .dead).cells)) [.row 23 1 (.ints .u32), .row 72 4 (.recs .apiEntry), .row 70 3 (.recs .apiEvent)] [] 2 (λ_ _ _=>by kernel_rfl) (λ_ _=>rfl) (λ_ _ h=>h) (λ_ X=>by kernel_rfl)
def Q6o(m:Q01)(e:Q0f):Tree (Bool×Q01):=
.an (Qm2 m e) (.lv (Qiy m e) λ(x0:Bool×Q01)=> .lf (x0.1,x0.2))
def Qfr(m:Q01)(e:Q0f):(Bool×Q01):=(Q6o m e).m
abbrev Qk4(m:Q01)(e:Q0f):Prop:=(Q6o m e).p
def Z18:Q0c:=mkP 233 [true,false] true [.ptr 0, .agg Q0f.sig] [.box 49 52 (Q01.sigW (.row 1) (.row 2) (.row 3)), .arr 23 1 (.ints .u32), .arr 72 4 (.recs .apiEntry), .arr 70 3 (.recs .apiEvent)] (λargs rows=>Qk4 (Q01.ofW (rows.getD 0 default).cs (rowL .u32 rows 1) (rowR .apiEntry rows 2) (rowR .apiEvent rows 3)) (Q0f.of (args.getD 1 .dead).cells)) (λargs rows=>Qfr (Q01.ofW (rows.getD 0 default).cs (rowL .u32 rows 1) (rowR .apiEntry rows 2) (rowR .apiEvent rows 3)) (Q0f.of (args.getD 1 .dead).cells)) (λX=> .bool (X.1)) (λX=>[⟨true,49,52, .gen [(Q01.cellsW (X.2) (.all 1) (.all 2) (.all 3))]⟩,⟨false,23,1, .ints .u32 (X.2).A0.Mem⟩,⟨false,72,4, .recs .apiEntry (X.2).C4⟩,⟨false,70,3, .recs .apiEvent (X.2).A6⟩])
theorem Qxp:Q05 Tryz.prog Z18:=Q0n Q0j Q0k (.cons Z0v (.nil)) Tryz.func233 Tryz.call233 (λargs rows=>Q6o (Q01.ofW (rows.getD 0 default).cs (rowL .u32 rows 1) (rowR .apiEntry rows 2) (rowR .apiEvent rows 3)) (Q0f.of (args.getD 1 .dead).cells)) [.row 23 1 (.ints .u32), .row 72 4 (.recs .apiEntry), .row 70 3 (.recs .apiEvent)] [] 2 (λ_ _ _=>by kernel_rfl) (λ_ _=>rfl) (λ_ _ h=>h) (λ_ X=>by kernel_rfl)
def Qa(r:Q01)(e:Q0f):Tree Q01:=
.an (Qk4 r e) (.lv (Qfr r e) λ(x0:Bool×Q01)=> .br x0.1 (.cn (decide (40*(x0.2.C4.length+1)<=140737488355328)) (.lf ({A0:=x0.2.A0,A9:=x0.2.A9,C4:=x0.2.C4++[{At:=x0.2.A0.A1,C6:=e}],A6:=x0.2.A6}))) (.lf x0.2))
def Qhj(r:Q01)(e:Q0f):Q01:=(Qa r e).m
abbrev Qhh(r:Q01)(e:Q0f):Prop:=(Qa r e).p
def Z90:Q0c:=mkKP 1 182 [true,false] [.ptr 0, .agg Q0f.sig] [.box 49 52 (Q01.sigW (.row 1) (.row 2) (.row 3)), .arr 23 1 (.ints .u32), .arr 72 4 (.recs .apiEntry), .arr 70 3 (.recs .apiEvent)] (λargs rows=>Qhh (Q01.ofW (rows.getD 0 default).cs (rowL .u32 rows 1) (rowR .apiEntry rows 2) (rowR .apiEvent rows 3)) (Q0f.of (args.getD 1 .dead).cells)) (λargs rows=>Qhj (Q01.ofW (rows.getD 0 default).cs (rowL .u32 rows 1) (rowR .apiEntry rows 2) (rowR .apiEvent rows 3)) (Q0f.of (args.getD 1 .dead).cells)) (λX=> .tup []) (λX=>[⟨true,49,52, .gen [(Q01.cellsW X (.all 1) (.all 2) (.all 3))]⟩,⟨false,23,1, .ints .u32 X.A0.Mem⟩,⟨false,72,4, .recs .apiEntry X.C4⟩,⟨false,70,3, .recs .apiEvent X.A6⟩])
theorem Z35:Q05 Tryz.prog Z90:=zy Q0j Q0k (.cons Qxp (.nil)) Tryz.func182 Tryz.call182 (λargs rows=>Qa (Q01.ofW (rows.getD 0 default).cs (rowL .u32 rows 1) (rowR .apiEntry rows 2) (rowR .apiEvent rows 3)) (Q0f.of (args.getD 1 .dead).cells)) [.row 23 1 (.ints .u32), .row 72 4 (.recs .apiEntry), .row 70 3 (.recs .apiEvent)] [] 2 (λ_ _ _=>by kernel_rfl) (λ_ _=>rfl) (λ_ _ h=>h)
def Qhe(is:Bool)(n:Int):Tree Int:=
.br is (.cn (decide (0<=wrap u64 n)) (.lf (ishl u32 1 (wrap u64 n)))) (.lf 0)
def Q99(is:Bool)(n:Int):Int:=(Qhe is n).m
abbrev Q9w(is:Bool)(n:Int):Prop:=(Qhe is n).p
def Zfk:Q0c:=mkP 97 [] true [.one (.bool), .one (.int .i64)] [] (λargs rows=>Q9w (argB args 0) (argI args 1)) (λargs rows=>Q99 (argB args 0) (argI args 1)) (λX=> .int .u32 X) (λX=>[])
theorem Zb4:Q05 Tryz.prog Zfk:=Q0n Q0j Q0k (.nil) Tryz.func97 Tryz.call97 (λargs rows=>Qhe (argB args 0) (argI args 1)) [] [] 2 (λ_ _ _=>by kernel_rfl) (λ_ _=>rfl) (λ_ _ h=>h) (λ_ X=>by kernel_rfl)
def Qh3(t:Q0g):Tree Bool:=
.lf t.D5
def Qa2(t:Q0g):Bool:=(Qh3 t).m
def Qqp:Q0c:=mkR 98 [] true [.agg Q0g.sig] [] (λargs rows=>Qa2 (Q0g.of (args.getD 0 .dead).cells)) (λX=> .bool X) (λX=>[])
theorem Qp0:Q05 Tryz.prog Qqp:=Q0z Q0j Q0k (.nil) Tryz.func98 Tryz.call98 (λargs rows=>Qh3 (Q0g.of (args.getD 0 .dead).cells)) [] [] 2 (λ_ _ _=>by kernel_rfl) (λ_ _=>rfl) (λ_ _=>Tree.free_ok (by kernel_rfl)) (λ_ X=>by kernel_rfl)
def Qep(c:Q0b):Tree Bool:=
.lf (decide ((c.D3.length:Int)>(0:Int)))
def Q58(c:Q0b):Bool:=(Qep c).m
def Qma:Q0c:=mkR 99 [] true [.agg Q0b.sig] [] (λargs rows=>Q58 (Q0b.of (args.getD 0 .dead).cells)) (λX=> .bool X) (λX=>[])
theorem Qm6:Q05 Tryz.prog Qma:=Q0z Q0j Q0k (.nil) Tryz.func99 Tryz.call99 (λargs rows=>Qep (Q0b.of (args.getD 0 .dead).cells)) [] [] 2 (λ_ _ _=>by kernel_rfl) (λ_ _=>rfl) (λ_ _=>Tree.free_ok (by kernel_rfl)) (λ_ X=>by kernel_rfl)
def Qit(d0:Q0e):Tree Bool:=
.br (d0.C1==2) (.lf true) (.lf (d0.C1==3))
def Qao(d0:Q0e):Bool:=(Qit d0).m
def Qs8:Q0c:=mkR 100 [] true [.agg Q0e.sig] [] (λargs rows=>Qao (Q0e.of (args.getD 0 .dead).cells)) (λX=> .bool X) (λX=>[])
theorem Qqf:Q05 Tryz.prog Qs8:=Q0z Q0j Q0k (.nil) Tryz.func100 Tryz.call100 (λargs rows=>Qit (Q0e.of (args.getD 0 .dead).cells)) [] [] 2 (λ_ _ _=>by kernel_rfl) (λ_ _=>rfl) (λ_ _=>Tree.free_ok (by kernel_rfl)) (λ_ X=>by kernel_rfl)
def Qk(n:Q0q):Tree Bool:=
.lf n.B8
def Qcd(n:Q0q):Bool:=(Qk n).m
def Qtr:Q0c:=mkR 101 [] true [.agg Q0q.sig] [] (λargs rows=>Qcd (Q0q.of (args.getD 0 .dead).cells)) (λX=> .bool X) (λX=>[])
theorem Qs6:Q05 Tryz.prog Qtr:=Q0z Q0j Q0k (.nil) Tryz.func101 Tryz.call101 (λargs rows=>Qk (Q0q.of (args.getD 0 .dead).cells)) [] [] 2 (λ_ _ _=>by kernel_rfl) (λ_ _=>rfl) (λ_ _=>Tree.free_ok (by kernel_rfl)) (λ_ X=>by kernel_rfl)
def Qn6(b:Q07)(z:(Int)×(Int)):Prop:=0<=z.2/\z.2<=32
def Qf(b:Q07)(z:(Int)×(Int)):Nat:=(32-z.2).toNat
def Qiu(b:Q07):Tree Int:=
.lp inferInstance (Qf b (0,0)+1) (((rE (0:Nat)/\rE (0:Nat))/\rE (0:Int)/\rE (0:Int)/\True)/\(rE b.D0/\rE b.C2/\True)/\True) (0,0) λ(v0:Int×Int)=> .br (decide (v0.2<32)) (.cn (decide (0<=wrap u64 v0.2)) (.nx (((rE (0:Nat)/\rE (0:Nat))/\rE ((wrap i64 (v0.1+wrap i64 (iand u32 (ishr u32 b.C2 (wrap u64 v0.2)) 1))):Int)/\rE ((wrap i64 (v0.2+1)):Int)/\True)/\(rE b.D0/\rE b.C2/\True)/\True) (Sum.inl (wrap i64 (v0.1+wrap i64 (iand u32 (ishr u32 b.C2 (wrap u64 v0.2)) 1)),wrap i64 (v0.2+1))))) (.lf (Sum.inr v0.1))
def Qd1(b:Q07):Int:=(Qiu b).m
theorem Z2c(b:Q07):(Qiu b).p:=by
 unfold Tree.p Qiu
 repeat'(first|refine w_lp (inv:=Qn6 b) (μ:=Qf b) ?_ (Nat.lt_succ_self _) (λ_ _=> ?_)|exact trivial|refine w_br (λ_=> ?_) (λ_=> ?_)|refine w_cn ?_ ?_|refine w_an ?_ ?_|refine w_lv (λ_ _=> ?_)|refine w_nx ?_|refine w_lf ?_|refine And.intro ?_ ?_)
 all_goals((try simp only[Qn6,Qf]at*);((subst_vars;first|trivial|assumption|omega|((simp(config:={decide:=true,failIfUnchanged:=false}) only[Bool.and_eq_true,Bool.or_eq_true,Bool.and_eq_false_iff,Bool.or_eq_false_iff,Bool.not_eq_true',Bool.not_eq_false',Bool.not_eq_true,Bool.not_eq_false,decide_eq_true_eq,decide_eq_false_iff_not,Q4i,Q2t,Q4e,Q2s,beq_iff_eq,beq_eq_false_iff_ne,bne_iff_ne,bne_eq_false_iff_eq,ne_eq,List.all_cons,List.all_nil,D.plain,List.length_cons,List.length_nil,List.length_append,List.length_set,List.length_replicate,IntKind.wrap_i64,IntKind.wrap_u64,IntKind.wrap_u32,IntKind.wrap_i32,IntKind.wrap_u8,true_and,and_true,or_false,false_or,or_true,true_or,not_true_eq_false,not_false_eq_true,Prod.fst,Prod.snd]at*);first|done|assumption|omega)|((simp(config:={decide:=true,failIfUnchanged:=false}) only[Bool.and_eq_true,Bool.or_eq_true,Bool.and_eq_false_iff,Bool.or_eq_false_iff,Bool.not_eq_true',Bool.not_eq_false',Bool.not_eq_true,Bool.not_eq_false,decide_eq_true_eq,decide_eq_false_iff_not,Q4i,Q2t,Q4e,Q2s,beq_iff_eq,beq_eq_false_iff_ne,bne_iff_ne,bne_eq_false_iff_eq,ne_eq,List.all_cons,List.all_nil,D.plain,List.length_cons,List.length_nil,List.length_append,List.length_set,List.length_replicate,IntKind.wrap_i64,IntKind.wrap_u64,IntKind.wrap_u32,IntKind.wrap_i32,IntKind.wrap_u8,true_and,and_true,or_false,false_or,or_true,true_or,not_true_eq_false,not_false_eq_true,Prod.fst,Prod.snd]at*);simp only[<-List.length_pos_iff]at*;omega)|(simp_all;done)|(have:= @Qfb;simp_all;try omega))))
def Z99:LInv:={
 α:=(Int)×(Int)
 F:=λst a=>([(1, .ptr 0 0 0),(3, .int i64 a.1),(4, .int i64 a.2)],[⟨true,38,2, .gen [[(cT st 1 0),(cT st 1 1)]]⟩])
 a0:=λst=>((lk st 3).toInt,(lk st 4).toInt)
 ex0:=λst=>[]++[(Q0r (lk st 1) (st.rows.length+0))]
 next:=λst=>((lk st 3).toInt,(lk st 4).toInt)
 ex:=λst=>[]++[(Q0r (lk st 1) (st.rows.length+0))]}
def Qzs:List (Nat×LInv):=[(3,Z99)]
def Zb9:Q0c:=mkR 153 [] true [.agg Q07.sig] [] (λargs rows=>Qd1 (Q07.of (args.getD 0 .dead).cells)) (λX=> .int .i64 X) (λX=>[])
theorem Qro:Q05 Tryz.prog Zb9:=Q0z Q0j Q0k (.nil) Tryz.func153 Tryz.call153 (λargs rows=>Qiu (Q07.of (args.getD 0 .dead).cells)) [] Qzs 3 (λ_ _ _=>by kernel_rfl) (λ_ _=>rfl) (λargs rows=>Z2c (Q07.of (args.getD 0 .dead).cells)) (λ_ X=>by kernel_rfl)
def Q9a(b:Q07):Tree Bool:=
.lv (Qd1 b) λ(x0:Int)=> .lf (wrap u64 x0 !=wrap u64 b.D0)
def Q3m(b:Q07):Bool:=(Q9a b).m
def Qmd:Q0c:=mkR 102 [] true [.agg Q07.sig] [] (λargs rows=>Q3m (Q07.of (args.getD 0 .dead).cells)) (λX=> .bool X) (λX=>[])
theorem Qm5:Q05 Tryz.prog Qmd:=Q0z Q0j Q0k (.cons Qro (.nil)) Tryz.func102 Tryz.call102 (λargs rows=>Q9a (Q07.of (args.getD 0 .dead).cells)) [] [] 2 (λ_ _ _=>by kernel_rfl) (λ_ _=>rfl) (λ_ _=>Tree.free_ok (by kernel_rfl)) (λ_ X=>by kernel_rfl)
def Qe4(m:Q00):Tree Int:=
.lv (Qa2 m.B0) λ(x0:Bool)=> .an (Q9w x0 0) (.lv (Q99 x0 0) λ(x1:Int)=> .lv (Q58 m.A3) λ(x2:Bool)=> .an (Q9w x2 1) (.lv (Q99 x2 1) λ(x3:Int)=> .lv (Qao m.B1) λ(x4:Bool)=> .an (Q9w x4 2) (.lv (Q99 x4 2) λ(x5:Int)=> .lv (Qcd m.C5) λ(x6:Bool)=> .an (Q9w x6 3) (.lv (Q99 x6 3) λ(x7:Int)=> .lv (Q3m m.A2) λ(x8:Bool)=> .an (Q9w x8 4) (.lv (Q99 x8 4) λ(x9:Int)=> .lf (ior u32 (ior u32 (ior u32 (ior u32 x1 x3) x5) x7) x9))))))
def Qgb(m:Q00):Int:=(Qe4 m).m
abbrev Qpi(m:Q00):Prop:=(Qe4 m).p
def Zdd:Q0c:=mkP 46 [] true [.agg Q00.sig] [] (λargs rows=>Qpi (Q00.of (args.getD 0 .dead).cells)) (λargs rows=>Qgb (Q00.of (args.getD 0 .dead).cells)) (λX=> .int .u32 X) (λX=>[])
theorem Z9e:Q05 Tryz.prog Zdd:=Q0n Q0j Q0k (.cons Zb4 (.cons Qp0 (.cons Qm6 (.cons Qqf (.cons Qs6 (.cons Qm5 (.nil))))))) Tryz.func46 Tryz.call46 (λargs rows=>Qe4 (Q00.of (args.getD 0 .dead).cells)) [] [] 2 (λ_ _ _=>by kernel_rfl) (λ_ _=>rfl) (λ_ _ h=>h) (λ_ X=>by kernel_rfl)
def Q84(m:Q00):Tree Int:=
.an (Qpi m) (.lv (Qgb m) λ(x0:Int)=> .lf (iand u32 x0 m.B2.B6.a7))
def Q2q(m:Q00):Int:=(Q84 m).m
abbrev Qf8(m:Q00):Prop:=(Q84 m).p
def Z2y:Q0c:=mkP 104 [] true [.agg Q00.sig] [] (λargs rows=>Qf8 (Q00.of (args.getD 0 .dead).cells)) (λargs rows=>Q2q (Q00.of (args.getD 0 .dead).cells)) (λX=> .int .u32 X) (λX=>[])
theorem Qnr:Q05 Tryz.prog Z2y:=Q0n Q0j Q0k (.cons Z9e (.nil)) Tryz.func104 Tryz.call104 (λargs rows=>Q84 (Q00.of (args.getD 0 .dead).cells)) [] [] 2 (λ_ _ _=>by kernel_rfl) (λ_ _=>rfl) (λ_ _ h=>h) (λ_ X=>by kernel_rfl)
def Qcu(m:Q00):Tree Bool:=
.br m.A4 (.an (Qf8 m) (.lv (Q2q m) λ(x0:Int)=> .lf (x0==0))) (.lf false)
def Qc8(m:Q00):Bool:=(Qcu m).m
abbrev Qkq(m:Q00):Prop:=(Qcu m).p
def Zg5:Q0c:=mkP 48 [] true [.agg Q00.sig] [] (λargs rows=>Qkq (Q00.of (args.getD 0 .dead).cells)) (λargs rows=>Qc8 (Q00.of (args.getD 0 .dead).cells)) (λX=> .bool X) (λX=>[])
theorem Qvq:Q05 Tryz.prog Zg5:=Q0n Q0j Q0k (.cons Qnr (.nil)) Tryz.func48 Tryz.call48 (λargs rows=>Qcu (Q00.of (args.getD 0 .dead).cells)) [] [] 2 (λ_ _ _=>by kernel_rfl) (λ_ _=>rfl) (λ_ _ h=>h) (λ_ X=>by kernel_rfl)
def Q71(m:Q00):Tree Bool:=
.lv (Q7b m) λ(x0:Bool)=> .br (!x0) (.lf true) (.br m.A7 (.lf true) (.an (Qkq m) (.lv (Qc8 m) λ(x1:Bool)=> .br x1 (.lf true) (.lf (decide (m.A1>=1152921504606846976))))))
def Q0y(m:Q00):Bool:=(Q71 m).m
abbrev Qdu(m:Q00):Prop:=(Q71 m).p
def Ze0:Q0c:=mkP 108 [] true [.agg Q00.sig] [] (λargs rows=>Qdu (Q00.of (args.getD 0 .dead).cells)) (λargs rows=>Q0y (Q00.of (args.getD 0 .dead).cells)) (λX=> .bool X) (λX=>[])
theorem Qri:Q05 Tryz.prog Ze0:=Q0n Q0j Q0k (.cons Qqd (.cons Qvq (.nil))) Tryz.func108 Tryz.call108 (λargs rows=>Q71 (Q00.of (args.getD 0 .dead).cells)) [] [] 2 (λ_ _ _=>by kernel_rfl) (λ_ _=>rfl) (λ_ _ h=>h) (λ_ X=>by kernel_rfl)
end
end Go.Proofs.YtjaifpiopmhmlaaGreat

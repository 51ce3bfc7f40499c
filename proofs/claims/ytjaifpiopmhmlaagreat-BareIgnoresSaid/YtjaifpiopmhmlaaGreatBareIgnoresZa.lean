/-
  Functions of the program: models, and that its calls come to them (by a program: gen3.py).
-/
import Derived.Test.YtjaifpiopmhmlaaGreatBareIgnoresBase
import Derived.Test.YtjaifpiopmhmlaaGreatBareIgnoresYe
set_option maxRecDepth 100000
set_option linter.all false
namespace Go.Proofs.YtjaifpiopmhmlaaGreat
open Go Go.GD Go.IntKind
noncomputable section
def Qdg(m:(List Int)):Tree (List Int):=
.cn (Nat.blt (0:Nat) (1:Nat)&&Nat.beq (1:Nat) (1:Nat)&&List.all [D.int u32 (0:Int)] D.plain&&decide ((0:Int)<=(m.length:Int)/\(m.length:Int)<=(m.length:Int)/\(m.length:Int)<=(9223372036854775807:Int)/\(↑(4:Nat):Int)*(m.length:Int)<=(140737488355328:Int))) (let E1:=List.length (List.replicate (Int.toNat (m.length:Int)) (0:Int)); .lf (List.take (Min.min (m.length) E1) m++List.drop (Min.min (m.length) E1) (List.replicate (Int.toNat (m.length:Int)) (0:Int))))
def Qr3(m:(List Int)):(List Int):=(Qdg m).m
abbrev Qr5(m:(List Int)):Prop:=(Qdg m).p
def Ze7:Q0c:=mkP 114 [] true [.one (.ints .u32)] [] (λargs rows=>Qr5 (argL .u32 args 0)) (λargs rows=>Qr3 (argL .u32 args 0)) (λX=> .all 0) (λX=>[⟨false,23,1, .ints .u32 X⟩])
theorem Zaf:Q05 Tryz.prog Ze7:=Q0n Q0j Q0k (.nil) Tryz.func114 Tryz.call114 (λargs rows=>Qdg (argL .u32 args 0)) [.row 23 1 (.ints .u32)] [] 2 (λ_ _ _=>by kernel_rfl) (λ_ _=>rfl) (λ_ _ h=>h) (λ_ X=>by kernel_rfl)
def Qbe(m:Q00):Tree Q00:=
.an (Qr5 m.Mem) (.lv (Qr3 m.Mem) λ(x0:List Int)=> .lf ({B2:=m.B2,Mem:=x0,A3:=m.A3,B0:=m.B0,B1:=m.B1,C5:=m.C5,A2:=m.A2,A1:=m.A1,A4:=m.A4,A7:=m.A7}))
def Qkr(m:Q00):Q00:=(Qbe m).m
abbrev Qes(m:Q00):Prop:=(Qbe m).p
def Zlf:Q0c:=mkP 53 [] true [.agg Q00.sig] [] (λargs rows=>Qes (Q00.of (args.getD 0 .dead).cells)) (λargs rows=>Qkr (Q00.of (args.getD 0 .dead).cells)) (λX=> .agg (Q00.cellsW X (.all 0))) (λX=>[⟨false,23,1, .ints .u32 X.Mem⟩])
theorem Qq0:Q05 Tryz.prog Zlf:=Q0n Q0j Q0k (.cons Zaf (.nil)) Tryz.func53 Tryz.call53 (λargs rows=>Qbe (Q00.of (args.getD 0 .dead).cells)) [.row 23 1 (.ints .u32)] [] 2 (λ_ _ _=>by kernel_rfl) (λ_ _=>rfl) (λ_ _ h=>h) (λ_ X=>by kernel_rfl)
def Qpw(n:Int)(k:Int)(z:(Int)×(List Int)):Prop:=0<=z.1/\(z.2.length:Int)=z.1/\(z.1<=k\/z.1=0)
def Qbs(n:Int)(k:Int)(z:(Int)×(List Int)):Nat:=(k-z.1).toNat
def Qdp(n:Int)(k:Int):Tree (List UInt8):=
.lp inferInstance (Qbs n k (0,[])+1) ((rE (n:Int)/\rE (k:Int)/\True/\rE (0:Int)/\True)/\rE ([]:List Int)/\True) (0,[]) λ(v0:Int×List Int)=> .br (decide (v0.1<k)) (.lv (Q2x n (wrap i64 (Int.tdiv v0.1 9))) λ(x0:Int)=> .cn (decide (1*(v0.2.length+1)<=140737488355328)) (.nx ((rE (n:Int)/\rE (k:Int)/\True/\rE ((wrap i64 (v0.1+1)):Int)/\True)/\rE ((v0.2++[wrap u8 x0]):List Int)/\True) (Sum.inl (wrap i64 (v0.1+1),v0.2++[wrap u8 x0])))) (.lf (Sum.inr (bytesOf v0.2)))
def Qt9(n:Int)(k:Int):(List UInt8):=(Qdp n k).m
def Q9k(n:Int)(k:Int):Prop:=
k<=1000000000000
theorem Z8w(n:Int)(k:Int)(hw:Q9k n k):(Qdp n k).p:=by
 simp only[Q9k]at hw
 unfold Tree.p Qdp
 repeat'(first|refine w_lp (inv:=Qpw n k) (μ:=Qbs n k) ?_ (Nat.lt_succ_self _) (λ_ _=> ?_)|exact trivial|refine w_br (λ_=> ?_) (λ_=> ?_)|refine w_cn ?_ ?_|refine w_an ?_ ?_|refine w_lv (λ_ _=> ?_)|refine w_nx ?_|refine w_lf ?_|refine And.intro ?_ ?_)
 all_goals((try simp only[Qpw,Qbs]at*);((subst_vars;first|trivial|assumption|omega|((simp(config:={decide:=true,failIfUnchanged:=false}) only[Bool.and_eq_true,Bool.or_eq_true,Bool.and_eq_false_iff,Bool.or_eq_false_iff,Bool.not_eq_true',Bool.not_eq_false',Bool.not_eq_true,Bool.not_eq_false,decide_eq_true_eq,decide_eq_false_iff_not,Q4j,Q2t,Q4f,Q2u,beq_iff_eq,beq_eq_false_iff_ne,bne_iff_ne,bne_eq_false_iff_eq,ne_eq,List.all_cons,List.all_nil,D.plain,List.length_cons,List.length_nil,List.length_append,List.length_set,List.length_replicate,IntKind.wrap_i64,IntKind.wrap_u64,IntKind.wrap_u32,IntKind.wrap_i32,IntKind.wrap_u8,true_and,and_true,or_false,false_or,or_true,true_or,not_true_eq_false,not_false_eq_true,Prod.fst,Prod.snd]at*);first|done|assumption|omega)|((simp(config:={decide:=true,failIfUnchanged:=false}) only[Bool.and_eq_true,Bool.or_eq_true,Bool.and_eq_false_iff,Bool.or_eq_false_iff,Bool.not_eq_true',Bool.not_eq_false',Bool.not_eq_true,Bool.not_eq_false,decide_eq_true_eq,decide_eq_false_iff_not,Q4j,Q2t,Q4f,Q2u,beq_iff_eq,beq_eq_false_iff_ne,bne_iff_ne,bne_eq_false_iff_eq,ne_eq,List.all_cons,List.all_nil,D.plain,List.length_cons,List.length_nil,List.length_append,List.length_set,List.length_replicate,IntKind.wrap_i64,IntKind.wrap_u64,IntKind.wrap_u32,IntKind.wrap_i32,IntKind.wrap_u8,true_and,and_true,or_false,false_or,or_true,true_or,not_true_eq_false,not_false_eq_true,Prod.fst,Prod.snd]at*);simp only[<-List.length_pos_iff]at*;omega)|(simp_all;done)|(have:= @Qfc;simp_all;try omega))))
def Zae:LInv:={
 α:=(Int)×(List Int)
 F:=λst a=>([(0,(lk st 0)),(1,(lk st 1)),(5, .all 0),(6, .int i64 a.1)],[⟨false,5,1, .ints u8 a.2⟩])
 a0:=λst=>((lk st 6).toInt,(Q4e st.rows (rN st 5)))
 ex0:=λst=>[]++[(Q0r (lk st 5) (st.rows.length+0))]
 next:=λst=>((lk st 6).toInt,(Q4e st.rows (rN st 5)))
 ex:=λst=>[]++[(Q0r (lk st 5) (st.rows.length+0))]}
def Z2o:List (Nat×LInv):=[(3,Zae)]
def Zh4:Q0c:=mkP 65 [] true [.one (.int .i64), .one (.int .i64)] [] (λargs rows=>Q9k (argI args 0) (argI args 1)) (λargs rows=>Qt9 (argI args 0) (argI args 1)) (λX=> .str X) (λX=>[])
theorem Zbc:Q05 Tryz.prog Zh4:=Q0n Q0j Q0k (.cons Ql6 (.nil)) Tryz.func65 Tryz.call65 (λargs rows=>Qdp (argI args 0) (argI args 1)) [] Z2o 3 (λ_ _ _=>by kernel_rfl) (λ_ _=>rfl) (λargs rows h=>Z8w (argI args 0) (argI args 1) h) (λ_ X=>by kernel_rfl)
def Qd9(r:Q01):Tree Q01:=
.an (Qes r.A0) (.lv (Qkr r.A0) λ(x0:Q00)=> .cn (decide (40*(0+r.C0.length)<=140737488355328)) (.cn (decide (32*(0+r.A6.length)<=140737488355328)) (.lf ({A0:=x0,A9:=r.A9,C0:=r.C0,A6:=r.A6}))))
def Qmp(r:Q01):Q01:=(Qd9 r).m
abbrev Ql0(r:Q01):Prop:=(Qd9 r).p
def Zgf:Q0c:=mkP 180 [] true [.agg Q01.sig] [] (λargs rows=>Ql0 (Q01.of (args.getD 0 .dead).cells)) (λargs rows=>Qmp (Q01.of (args.getD 0 .dead).cells)) (λX=> .agg (Q01.cellsW X (.all 0) (.all 1) (.all 2))) (λX=>[⟨false,23,1, .ints .u32 X.A0.Mem⟩,⟨false,72,4, .recs .apiEntry X.C0⟩,⟨false,70,3, .recs .apiEvent X.A6⟩])
theorem Qvl:Q05 Tryz.prog Zgf:=Q0n Q0j Q0k (.cons Qq0 (.nil)) Tryz.func180 Tryz.call180 (λargs rows=>Qd9 (Q01.of (args.getD 0 .dead).cells)) [.row 23 1 (.ints .u32), .row 72 4 (.recs .apiEntry), .row 70 3 (.recs .apiEvent)] [] 2 (λ_ _ _=>by kernel_rfl) (λ_ _=>rfl) (λ_ _ h=>h) (λ_ X=>by kernel_rfl)
def Qsl(e:Q0d):Tree Bool:=
.br (e.B5==1) (.lf (decide (e.C8=[]))) (.br (e.B5==6) (.lf (decide (e.C8=[]))) (.br (e.B5==2) (.br (e.N==0) (.lf (decide (e.C8=[]))) (.lf false)) (.br (e.B5==3) (.br (decide (e.N<=255)) (.lf (decide (e.C8=[]))) (.lf false)) (.br (e.B5==4) (.br (decide (e.N<=1)) (.br (decide (e.C8=[])) (.lf true) (.br (e.N==1) (.lf ((e.C8.length:Int)==(128:Int))) (.lf false))) (.lf false)) (.br (e.B5==5) (.br (e.N==0) (.br (decide ((e.C8.length:Int)>=(1:Int))) (.lf (decide ((e.C8.length:Int)<=(128:Int)))) (.lf false)) (.lf false)) (.lf false))))))
def Q2o(e:Q0d):Bool:=(Qsl e).m
def Z80:Q0c:=mkR 181 [] true [.agg Q0d.sig] [] (λargs rows=>Q2o (Q0d.of (args.getD 0 .dead).cells)) (λX=> .bool X) (λX=>[])
theorem Z2g:Q05 Tryz.prog Z80:=Q0z Q0j Q0k (.nil) Tryz.func181 Tryz.call181 (λargs rows=>Qsl (Q0d.of (args.getD 0 .dead).cells)) [] [] 2 (λ_ _ _=>by kernel_rfl) (λ_ _=>rfl) (λ_ _=>Tree.free_ok (by kernel_rfl)) (λ_ X=>by kernel_rfl)
def Q8c(r:Q01)(e:Q0d):Tree (Q01×Bool):=
.an (Ql0 r) (.lv (Qmp r) λ(x0:Q01)=> .lv (Q2o e) λ(x1:Bool)=> .br (!x1) (.lf (x0,false)) (.br (e.B5==1) (.lf (x0,false)) (.br (decide ((x0.A6.length:Int)>=(16:Int))) (.lf (x0,false)) (.cn (decide (32*(x0.A6.length+1)<=140737488355328)) (.lf ({A0:=x0.A0,A9:=x0.A9,C0:=x0.C0,A6:=x0.A6++[e]},true))))))
def Q2h(r:Q01)(e:Q0d):(Q01×Bool):=(Q8c r e).m
abbrev Qlz(r:Q01)(e:Q0d):Prop:=(Q8c r e).p
def Z30:Q0c:=mkP 128 [] true [.agg Q01.sig, .agg Q0d.sig] [] (λargs rows=>Qlz (Q01.of (args.getD 0 .dead).cells) (Q0d.of (args.getD 1 .dead).cells)) (λargs rows=>Q2h (Q01.of (args.getD 0 .dead).cells) (Q0d.of (args.getD 1 .dead).cells)) (λX=> .tup [.agg (Q01.cellsW (X.1) (.all 0) (.all 1) (.all 2)), .bool (X.2)]) (λX=>[⟨false,23,1, .ints .u32 (X.1).A0.Mem⟩,⟨false,72,4, .recs .apiEntry (X.1).C0⟩,⟨false,70,3, .recs .apiEvent (X.1).A6⟩])
theorem Qzb:Q05 Tryz.prog Z30:=Q0n Q0j Q0k (.cons Qvl (.cons Z2g (.nil))) Tryz.func128 Tryz.call128 (λargs rows=>Q8c (Q01.of (args.getD 0 .dead).cells) (Q0d.of (args.getD 1 .dead).cells)) [.row 23 1 (.ints .u32), .row 72 4 (.recs .apiEntry), .row 70 3 (.recs .apiEvent)] [] 2 (λ_ _ _=>by kernel_rfl) (λ_ _=>rfl) (λ_ _ h=>h) (λ_ X=>by kernel_rfl)
def Q9d(n:Int):Tree Q0d:=
.lv (Q2x n 2) λ(x0:Int)=> .br (Int.tmod x0 (7:Int)==(0:Int)) (.lf ({B5:=2,N:=0,C8:=[]})) (.br (Int.tmod x0 (7:Int)==(1:Int)) (.lf ({B5:=3,N:=wrap u32 (iand i64 (ishr i64 x0 8) 255),C8:=[]})) (.br (Int.tmod x0 (7:Int)==(2:Int)) (.lf ({B5:=3,N:=wrap u32 (iand i64 (ishr i64 x0 8) 255),C8:=[]})) (.br (Int.tmod x0 (7:Int)==(3:Int)) (.lf ({B5:=4,N:=1,C8:=[]})) (.br (Int.tmod x0 (7:Int)==(4:Int)) (.an (Q9k x0 128) (.lv (Qt9 x0 128) λ(x1:List UInt8)=> .lf ({B5:=4,N:=1,C8:=x1}))) (.br (Int.tmod x0 (7:Int)==(5:Int)) (let E1:=wrap i64 (1+Int.tmod (ishr i64 x0 8) 40); .an (Q9k x0 E1) (.lv (Qt9 x0 E1) λ(x2:List UInt8)=> .lf ({B5:=5,N:=0,C8:=x2}))) (.br (Int.tmod (ishr i64 x0 8) (4:Int)==(0:Int)) (.lf ({B5:=4,N:=0,C8:=[]})) (.lf ({B5:=6,N:=wrap u32 (Int.tmod (ishr i64 x0 8) 3),C8:=[]}))))))))
def Q47(n:Int):Q0d:=(Q9d n).m
abbrev Qpm(n:Int):Prop:=(Q9d n).p
def Zcr:Q0c:=mkP 62 [] true [.one (.int .i64)] [] (λargs rows=>Qpm (argI args 0)) (λargs rows=>Q47 (argI args 0)) (λX=> .agg (Q0d.cells X)) (λX=>[])
theorem Z99:Q05 Tryz.prog Zcr:=Q0n Q0j Q0k (.cons Ql6 (.cons Zbc (.nil))) Tryz.func62 Tryz.call62 (λargs rows=>Q9d (argI args 0)) [] [] 2 (λ_ _ _=>by kernel_rfl) (λ_ _=>rfl) (λ_ _ h=>h) (λ_ X=>by kernel_rfl)
def Qn0(m:(List Int)):Tree Int:=
.br (Int.tmod (m.length:Int) (32:Int) !=(0:Int)) (.lf 0) (.br (decide ((m.length:Int)>(1024:Int))) (.lf 0) (.lf (wrap i64 (Int.tdiv (m.length:Int) 32))))
def Q3p(m:(List Int)):Int:=(Qn0 m).m
def Za8:Q0c:=mkR 86 [] true [.one (.ints .u32)] [] (λargs rows=>Q3p (argL .u32 args 0)) (λX=> .int .i64 X) (λX=>[])
theorem Qc:Q05 Tryz.prog Za8:=Q0z Q0j Q0k (.nil) Tryz.func86 Tryz.call86 (λargs rows=>Qn0 (argL .u32 args 0)) [] [] 2 (λ_ _ _=>by kernel_rfl) (λ_ _=>rfl) (λ_ _=>Tree.free_ok (by kernel_rfl)) (λ_ X=>by kernel_rfl)
def Qkb(c:Q0b):Tree Bool:=
.lf (decide ((c.D3.length:Int)<=(16:Int)))
def Qi0(c:Q0b):Bool:=(Qkb c).m
def Qve:Q0c:=mkR 87 [] true [.agg Q0b.sig] [] (λargs rows=>Qi0 (Q0b.of (args.getD 0 .dead).cells)) (λX=> .bool X) (λX=>[])
theorem Qrv:Q05 Tryz.prog Qve:=Q0z Q0j Q0k (.nil) Tryz.func87 Tryz.call87 (λargs rows=>Qkb (Q0b.of (args.getD 0 .dead).cells)) [] [] 2 (λ_ _ _=>by kernel_rfl) (λ_ _=>rfl) (λ_ _=>Tree.free_ok (by kernel_rfl)) (λ_ X=>by kernel_rfl)
def Qi6(t:Q0g):Tree Bool:=
.br t.D2 (.br t.D5 (.lf false) (.br t.D2 (.lf (t.C9 !=0)) (.br t.D5 (.lf true) (.lf (t.C9==0))))) (.br t.D2 (.lf (t.C9 !=0)) (.br t.D5 (.lf true) (.lf (t.C9==0))))
def Qch(t:Q0g):Bool:=(Qi6 t).m
def Qz7:Q0c:=mkR 88 [] true [.agg Q0g.sig] [] (λargs rows=>Qch (Q0g.of (args.getD 0 .dead).cells)) (λX=> .bool X) (λX=>[])
theorem Qx0:Q05 Tryz.prog Qz7:=Q0z Q0j Q0k (.nil) Tryz.func88 Tryz.call88 (λargs rows=>Qi6 (Q0g.of (args.getD 0 .dead).cells)) [] [] 2 (λ_ _ _=>by kernel_rfl) (λ_ _=>rfl) (λ_ _=>Tree.free_ok (by kernel_rfl)) (λ_ X=>by kernel_rfl)
def Qj8(d0:Q0f)(pages:Int):Tree Bool:=
.br (decide (d0.Blocks>64)) (.lf false) (.br (decide (d0.C2<0)) (.lf false) (.br (decide (d0.C2>3)) (.lf false) (.br (d0.C2 !=1) (.br (d0.D8==0) (.br (d0.B7==0) (.br (d0.B3==0) (.lf (decide (d0.C4=[]))) (.lf false)) (.lf false)) (.lf false)) (.br (decide (d0.B7>=d0.Blocks)) (.lf false) (.br (decide (wrap i64 d0.B3>=pages)) (.lf false) (.br (d0.D8==1) (.br (decide (d0.C4=[])) (.lf true) (.br (d0.D8==2) (.lf ((d0.C4.length:Int)==(128:Int))) (.lf false))) (.br (d0.D8==2) (.lf ((d0.C4.length:Int)==(128:Int))) (.lf false))))))))
def Qeo(d0:Q0f)(pages:Int):Bool:=(Qj8 d0 pages).m
def Z2y:Q0c:=mkR 89 [] true [.agg Q0f.sig, .one (.int .i64)] [] (λargs rows=>Qeo (Q0f.of (args.getD 0 .dead).cells) (argI args 1)) (λX=> .bool X) (λX=>[])
theorem Z09:Q05 Tryz.prog Z2y:=Q0z Q0j Q0k (.nil) Tryz.func89 Tryz.call89 (λargs rows=>Qj8 (Q0f.of (args.getD 0 .dead).cells) (argI args 1)) [] [] 2 (λ_ _ _=>by kernel_rfl) (λ_ _=>rfl) (λ_ _=>Tree.free_ok (by kernel_rfl)) (λ_ X=>by kernel_rfl)
def Ql7(n:Q0q)(pages:Int):Tree Bool:=
let T1:Tree (Bool):= .br n.B8 (.br (decide (n.F2>=1)) (.lf (decide (n.F2<=128))) (.lf false)) (.lf (n.F2==0)); .br n.C7 (.br n.B8 (.lf false) (.br (decide (wrap i64 n.C1>=pages)) (.lf false) (.br (!n.C7) (.br (n.C1 !=0) (.lf false) T1) T1))) (.br (!n.C7) (.br (n.C1 !=0) (.lf false) T1) T1)
def Qh8(n:Q0q)(pages:Int):Bool:=(Ql7 n pages).m
def Z9j:Q0c:=mkR 90 [] true [.agg Q0q.sig, .one (.int .i64)] [] (λargs rows=>Qh8 (Q0q.of (args.getD 0 .dead).cells) (argI args 1)) (λX=> .bool X) (λX=>[])
theorem Z4:Q05 Tryz.prog Z9j:=Q0z Q0j Q0k (.nil) Tryz.func90 Tryz.call90 (λargs rows=>Ql7 (Q0q.of (args.getD 0 .dead).cells) (argI args 1)) [] [] 2 (λ_ _ _=>by kernel_rfl) (λ_ _=>rfl) (λ_ _=>Tree.free_ok (by kernel_rfl)) (λ_ X=>by kernel_rfl)
def Qfm(b:Q07)(pages:Int)(z:(Int)):Prop:=0<=z/\z<=32
def Q67(b:Q07)(pages:Int)(z:(Int)):Nat:=(32-z).toNat
def Q54(b:Q07)(pages:Int):Tree Bool:=
.lp inferInstance (Q67 b pages 0+1) ((rE (pages:Int)/\(rE (0:Nat)/\rE (0:Nat))/\rE (0:Int)/\True)/\(rE b.D0/\rE b.C3/\True)/\True) 0 λ(v0:Int)=> .br (decide (v0<32)) (.cn (decide (0<=wrap u64 v0)) (let T1:Tree ((Int)⊕(Bool)):= .nx ((rE (pages:Int)/\(rE (0:Nat)/\rE (0:Nat))/\rE ((wrap i64 (v0+1)):Int)/\True)/\(rE b.D0/\rE b.C3/\True)/\True) (Sum.inl (wrap i64 (v0+1))); .br (iand u32 (ishr u32 b.C3 (wrap u64 v0)) (1:Int)==(1:Int)) (.br (decide (v0>=pages)) (.lf (Sum.inr false)) T1) T1)) (.lf (Sum.inr true))
def Q93(b:Q07)(pages:Int):Bool:=(Q54 b pages).m
theorem Qq1(b:Q07)(pages:Int):(Q54 b pages).p:=by
 unfold Tree.p Q54
 repeat'(first|refine w_lp (inv:=Qfm b pages) (μ:=Q67 b pages) ?_ (Nat.lt_succ_self _) (λ_ _=> ?_)|exact trivial|refine w_br (λ_=> ?_) (λ_=> ?_)|refine w_cn ?_ ?_|refine w_an ?_ ?_|refine w_lv (λ_ _=> ?_)|refine w_nx ?_|refine w_lf ?_|refine And.intro ?_ ?_)
 all_goals((try simp only[Qfm,Q67]at*);((subst_vars;first|trivial|assumption|omega|((simp(config:={decide:=true,failIfUnchanged:=false}) only[Bool.and_eq_true,Bool.or_eq_true,Bool.and_eq_false_iff,Bool.or_eq_false_iff,Bool.not_eq_true',Bool.not_eq_false',Bool.not_eq_true,Bool.not_eq_false,decide_eq_true_eq,decide_eq_false_iff_not,Q4j,Q2t,Q4f,Q2u,beq_iff_eq,beq_eq_false_iff_ne,bne_iff_ne,bne_eq_false_iff_eq,ne_eq,List.all_cons,List.all_nil,D.plain,List.length_cons,List.length_nil,List.length_append,List.length_set,List.length_replicate,IntKind.wrap_i64,IntKind.wrap_u64,IntKind.wrap_u32,IntKind.wrap_i32,IntKind.wrap_u8,true_and,and_true,or_false,false_or,or_true,true_or,not_true_eq_false,not_false_eq_true,Prod.fst,Prod.snd]at*);first|done|assumption|omega)|((simp(config:={decide:=true,failIfUnchanged:=false}) only[Bool.and_eq_true,Bool.or_eq_true,Bool.and_eq_false_iff,Bool.or_eq_false_iff,Bool.not_eq_true',Bool.not_eq_false',Bool.not_eq_true,Bool.not_eq_false,decide_eq_true_eq,decide_eq_false_iff_not,Q4j,Q2t,Q4f,Q2u,beq_iff_eq,beq_eq_false_iff_ne,bne_iff_ne,bne_eq_false_iff_eq,ne_eq,List.all_cons,List.all_nil,D.plain,List.length_cons,List.length_nil,List.length_append,List.length_set,List.length_replicate,IntKind.wrap_i64,IntKind.wrap_u64,IntKind.wrap_u32,IntKind.wrap_i32,IntKind.wrap_u8,true_and,and_true,or_false,false_or,or_true,true_or,not_true_eq_false,not_false_eq_true,Prod.fst,Prod.snd]at*);simp only[<-List.length_pos_iff]at*;omega)|(simp_all;done)|(have:= @Qfc;simp_all;try omega))))
def Qrr:LInv:={
 α:=(Int)
 F:=λst a=>([(1,(lk st 1)),(2, .ptr 0 0 0),(5, .int i64 a)],[⟨true,38,2, .gen [[(cT st 2 0),(cT st 2 1)]]⟩])
 a0:=λst=>(lk st 5).toInt
 ex0:=λst=>[]++[(Q0r (lk st 2) (st.rows.length+0))]
 next:=λst=>(lk st 5).toInt
 ex:=λst=>[]++[(Q0r (lk st 2) (st.rows.length+0))]}
def Qox:List (Nat×LInv):=[(2,Qrr)]
def Qtu:Q0c:=mkR 91 [] true [.agg Q07.sig, .one (.int .i64)] [] (λargs rows=>Q93 (Q07.of (args.getD 0 .dead).cells) (argI args 1)) (λX=> .bool X) (λX=>[])
theorem Qr8:Q05 Tryz.prog Qtu:=Q0z Q0j Q0k (.nil) Tryz.func91 Tryz.call91 (λargs rows=>Q54 (Q07.of (args.getD 0 .dead).cells) (argI args 1)) [] Qox 3 (λ_ _ _=>by kernel_rfl) (λ_ _=>rfl) (λargs rows=>Qq1 (Q07.of (args.getD 0 .dead).cells) (argI args 1)) (λ_ X=>by kernel_rfl)
def Qti(m:Q00):Tree Bool:=
.lv (Q3p m.Mem) λ(x0:Int)=> .br (decide (x0<1)) (.lf false) (.br (m.B2.X.a0 !=0) (.lf false) (.br (decide (m.B2.B6.a0>31)) (.lf false) (.br (decide (m.B2.B6.a7>31)) (.lf false) (.br (decide (m.B2.B6.a6>255)) (.lf false) (.br (Int.tmod m.B2.B6.a1 (4:Int) !=(0:Int)) (.lf false) (.lv (Qi0 m.A3) λ(x1:Bool)=> .br (!x1) (.lf false) (.lv (Qch m.B0) λ(x2:Bool)=> .br (!x2) (.lf false) (.lv (Qeo m.B1 x0) λ(x3:Bool)=> .br (!x3) (.lf false) (.lv (Qh8 m.C5 x0) λ(x4:Bool)=> .br (!x4) (.lf false) (.lv (Q93 m.A2 x0) λ(x5:Bool)=> .br (!x5) (.lf false) (.br (decide (m.A1<=1152921504606846976)) (.br m.A4 (.lf (!m.A7)) (.lf true)) (.lf false))))))))))))
def Q7f(m:Q00):Bool:=(Qti m).m
def Zjx:Q0c:=mkR 44 [] true [.agg Q00.sig] [] (λargs rows=>Q7f (Q00.of (args.getD 0 .dead).cells)) (λX=> .bool X) (λX=>[])
theorem Qqs:Q05 Tryz.prog Zjx:=Q0z Q0j Q0k (.cons Qc (.cons Qrv (.cons Qx0 (.cons Z09 (.cons Z4 (.cons Qr8 (.nil))))))) Tryz.func44 Tryz.call44 (λargs rows=>Qti (Q00.of (args.getD 0 .dead).cells)) [] [] 2 (λ_ _ _=>by kernel_rfl) (λ_ _=>rfl) (λ_ _=>Tree.free_ok (by kernel_rfl)) (λ_ X=>by kernel_rfl)
def Q8y(t:Q0g):Tree (Q0g×Bool):=
.br (!t.D2) (.lf (t,false)) (.lf ({D2:=false,C9:=t.C9,D5:=true},true))
def Q5x(t:Q0g):(Q0g×Bool):=(Q8y t).m
def Zgh:Q0c:=mkR 132 [] true [.agg Q0g.sig] [] (λargs rows=>Q5x (Q0g.of (args.getD 0 .dead).cells)) (λX=> .tup [.agg (Q0g.cells (X.1)), .bool (X.2)]) (λX=>[])
theorem Qw8:Q05 Tryz.prog Zgh:=Q0z Q0j Q0k (.nil) Tryz.func132 Tryz.call132 (λargs rows=>Q8y (Q0g.of (args.getD 0 .dead).cells)) [] [] 2 (λ_ _ _=>by kernel_rfl) (λ_ _=>rfl) (λ_ _=>Tree.free_ok (by kernel_rfl)) (λ_ X=>by kernel_rfl)
def Qax(c:Q0b)(b:Int):Tree (Q0b×Bool):=
.br (decide ((c.D3.length:Int)>=(16:Int))) (.lf (c,false)) (.cn (decide (c.D3.length+1<=maxLen)) (.lf ({D3:=c.D3++[(λ(n:Int)=>UInt8.ofNat n.toNat) b]},true)))
def Qk1(c:Q0b)(b:Int):(Q0b×Bool):=(Qax c b).m
abbrev Qlj(c:Q0b)(b:Int):Prop:=(Qax c b).p
def Zep:Q0c:=mkP 133 [] true [.agg Q0b.sig, .one (.int .u8)] [] (λargs rows=>Qlj (Q0b.of (args.getD 0 .dead).cells) (argI args 1)) (λargs rows=>Qk1 (Q0b.of (args.getD 0 .dead).cells) (argI args 1)) (λX=> .tup [.agg (Q0b.cells (X.1)), .bool (X.2)]) (λX=>[])
theorem Qw1:Q05 Tryz.prog Zep:=Q0n Q0j Q0k (.nil) Tryz.func133 Tryz.call133 (λargs rows=>Qax (Q0b.of (args.getD 0 .dead).cells) (argI args 1)) [] [] 2 (λ_ _ _=>by kernel_rfl) (λ_ _=>rfl) (λ_ _ h=>h) (λ_ X=>by kernel_rfl)
def Qho(m:(List Int))(frame:Int):Tree Bool:=
.lv (Q3p m) λ(x0:Int)=> .lf (decide (wrap u64 frame<wrap u64 x0))
def Q1z(m:(List Int))(frame:Int):Bool:=(Qho m frame).m
def Zgb:Q0c:=mkR 186 [] true [.one (.ints .u32), .one (.int .u32)] [] (λargs rows=>Q1z (argL .u32 args 0) (argI args 1)) (λX=> .bool X) (λX=>[])
theorem Qed:Q05 Tryz.prog Zgb:=Q0z Q0j Q0k (.cons Qc (.nil)) Tryz.func186 Tryz.call186 (λargs rows=>Qho (argL .u32 args 0) (argI args 1)) [] [] 2 (λ_ _ _=>by kernel_rfl) (λ_ _=>rfl) (λ_ _=>Tree.free_ok (by kernel_rfl)) (λ_ X=>by kernel_rfl)
def Qcx(m:(List Int))(addr:Int)(size:Int)(v:Int):Tree (List Int):=
let E1:=Nat.beq 1 1&&Nat.blt 0 1&&decide (0<=wrap u32 (Int.tdiv addr 4)/\wrap u32 (Int.tdiv addr 4)<(m.length:Int));let E2:=Int.toNat (wrap u32 (Int.tdiv addr 4)); .br (size==4) (.cn E1 (.lf (List.set m E2 v))) (.cn E1 (let E3:=decide (0<=wrap u32 (8*Int.tmod addr 4)); .cn E3 (.cn E3 (.cn E1 (.lf (List.set m E2 (ior u32 (Qft u32 (m.getD E2 0) (ishl u32 255 (wrap u32 (8*Int.tmod addr 4)))) (ishl u32 (iand u32 v 255) (wrap u32 (8*Int.tmod addr 4))))))))))
def Q9z(m:(List Int))(addr:Int)(size:Int)(v:Int):(List Int):=(Qcx m addr size v).m
abbrev Qec(m:(List Int))(addr:Int)(size:Int)(v:Int):Prop:=(Qcx m addr size v).p
def Zjo:Q0c:=mkP 234 [true,false,false,false] true [.one (.row 0), .one (.int .u32), .one (.int .i64), .one (.int .u32)] [.arr 23 1 (.ints .u32)] (λargs rows=>Qec (rowL .u32 rows 0) (argI args 1) (argI args 2) (argI args 3)) (λargs rows=>Q9z (rowL .u32 rows 0) (argI args 1) (argI args 2) (argI args 3)) (λX=> .tup []) (λX=>[⟨false,23,1, .ints .u32 X⟩])
theorem Z0r:Q05 Tryz.prog Zjo:=Q0n Q0j Q0k (.nil) Tryz.func234 Tryz.call234 (λargs rows=>Qcx (rowL .u32 rows 0) (argI args 1) (argI args 2) (argI args 3)) [] [] 2 (λ_ _ _=>by kernel_rfl) (λ_ _=>rfl) (λ_ _ h=>h) (λ_ X=>by kernel_rfl)
def Qic(m:(List Int))(frame:Int)(s:(List UInt8))(z:(Int)×(List Int)):Nat:=(128-z.1).toNat
def Q8r(m:(List Int))(frame:Int)(s:(List UInt8)):Tree (List Int):=
.lp inferInstance (Qic m frame s (0,m)+1) ((True/\rE (frame:Int)/\rE (s:List UInt8)/\rE (0:Int)/\True)/\rE (m:List Int)/\True) (0,m) λ(v0:Int×List Int)=> .br (decide (v0.1<(s.length:Int))) (.br (decide (v0.1<128)) (.cn (decide (0<=v0.1/\v0.1<(s.length:Int))) (let E1:=wrap u32 (↑(UInt8.toNat (s.getD v0.1.toNat (0:UInt8))):Int);let E2:=wrap u32 (wrap i64 (wrap i64 (frame*128)+v0.1)); .an (Qec v0.2 E2 1 E1) (.lv (Q9z v0.2 E2 1 E1) λ(x0:List Int)=> .nx ((True/\rE (frame:Int)/\rE (s:List UInt8)/\rE ((wrap i64 (v0.1+1)):Int)/\True)/\rE (x0:List Int)/\True) (Sum.inl (wrap i64 (v0.1+1),x0))))) (.lf (Sum.inr v0.2))) (.lf (Sum.inr v0.2))
def Qjx(m:(List Int))(frame:Int)(s:(List UInt8)):(List Int):=(Q8r m frame s).m
abbrev Qkt(m:(List Int))(frame:Int)(s:(List UInt8)):Prop:=(Q8r m frame s).p
def Zbp:LInv:={
 α:=(Int)×(List Int)
 F:=λst a=>([(0, .all 0),(1,(lk st 1)),(2,(lk st 2)),(6, .int i64 a.1)],[⟨false,23,1, .ints u32 a.2⟩])
 a0:=λst=>((lk st 6).toInt,(Q4e st.rows 0))
 ex0:=λst=>[0]++[]
 next:=λst=>((lk st 6).toInt,(Q4e st.rows 0))
 ex:=λst=>[0]++[]}
def Z40:List (Nat×LInv):=[(1,Zbp)]
def Zgj:Q0c:=mkP 187 [true,false,false] true [.one (.row 0), .one (.int .i64), .one (.str)] [.arr 23 1 (.ints .u32)] (λargs rows=>Qkt (rowL .u32 rows 0) (argI args 1) (argS args 2)) (λargs rows=>Qjx (rowL .u32 rows 0) (argI args 1) (argS args 2)) (λX=> .tup []) (λX=>[⟨false,23,1, .ints .u32 X⟩])
theorem Qvq:Q05 Tryz.prog Zgj:=Q0n Q0j Q0k (.cons Z0r (.nil)) Tryz.func187 Tryz.call187 (λargs rows=>Q8r (rowL .u32 rows 0) (argI args 1) (argS args 2)) [] Z40 3 (λ_ _ _=>by kernel_rfl) (λ_ _=>rfl) (λ_ _ h=>h) (λ_ X=>by kernel_rfl)
def Q6a(d0:Q0f)(m:(List Int))(e:Q0d):Tree (Q0f×Bool×(List Int)):=
.br (d0.C2 !=1) (.lf (d0,false,m)) (.br (e.B5 !=4) (.lf (d0,false,m)) (.br (decide (e.N>1)) (.lf (d0,false,m)) (let E4:=({Blocks:=d0.Blocks,B9:=d0.B9,B4:=d0.B4,C2:=2,D8:=0,B7:=0,B3:=0,C4:=[]}:Q0f);let E5:=({Blocks:=d0.Blocks,B9:=d0.B9,B4:=d0.B4,C2:=3,D8:=0,B7:=0,B3:=0,C4:=[]}:Q0f);let T2:Tree ((Q0f×Bool×(List Int))):= .br (e.N==1) (.lf (E4,true,m)) (.lf (E5,true,m));let E6:=decide ((e.C8.length:Int)>(0:Int)); .br (e.N==1) (let T1:Tree ((Q0f×Bool×(List Int))):= .br (d0.D8==1) (.an (Qkt m (wrap i64 d0.B3) e.C8) (.lv (Qjx m (wrap i64 d0.B3) e.C8) λ(x1:List Int)=> .br (e.N==1) (.lf (E4,true,x1)) (.lf (E5,true,x1)))) T2;let T3:Tree ((Q0f×Bool×(List Int))):= .br (!d0.D8==1) (.br E6 (.lf (d0,false,m)) T1) T1; .br (d0.D8==1) (.br ((e.C8.length:Int) !=(128:Int)) (.lf (d0,false,m)) (.lv (Q1z m d0.B3) λ(x0:Bool)=> .br (!x0) (.lf (d0,false,m)) T3)) T3) (.br E6 (.lf (d0,false,m)) T2))))
def Q7j(d0:Q0f)(m:(List Int))(e:Q0d):(Q0f×Bool×(List Int)):=(Q6a d0 m e).m
abbrev Qib(d0:Q0f)(m:(List Int))(e:Q0d):Prop:=(Q6a d0 m e).p
def Z6y:Q0c:=mkP 134 [false,true,false] true [.agg Q0f.sig, .one (.row 0), .agg Q0d.sig] [.arr 23 1 (.ints .u32)] (λargs rows=>Qib (Q0f.of (args.getD 0 .dead).cells) (rowL .u32 rows 0) (Q0d.of (args.getD 2 .dead).cells)) (λargs rows=>Q7j (Q0f.of (args.getD 0 .dead).cells) (rowL .u32 rows 0) (Q0d.of (args.getD 2 .dead).cells)) (λX=> .tup [.agg (Q0f.cells (X.1)), .bool (X.2.1)]) (λX=>[⟨false,23,1, .ints .u32 (X.2.2)⟩])
theorem Qpf:Q05 Tryz.prog Z6y:=Q0n Q0j Q0k (.cons Qed (.cons Qvq (.nil))) Tryz.func134 Tryz.call134 (λargs rows=>Q6a (Q0f.of (args.getD 0 .dead).cells) (rowL .u32 rows 0) (Q0d.of (args.getD 2 .dead).cells)) [] [] 2 (λ_ _ _=>by kernel_rfl) (λ_ _=>rfl) (λ_ _ h=>h) (λ_ X=>by kernel_rfl)
def Q68(n:Q0q)(m:(List Int))(frame:(List UInt8)):Tree (Q0q×Bool×(List Int)):=
.br (!n.C7) (.lf (n,false,m)) (.br (decide ((frame.length:Int)<(1:Int))) (.lf (n,false,m)) (.br (decide ((frame.length:Int)>(128:Int))) (.lf (n,false,m)) (.lv (Q1z m n.C1) λ(x0:Bool)=> .br (!x0) (.lf (n,false,m)) (.an (Qkt m (wrap i64 n.C1) frame) (.lv (Qjx m (wrap i64 n.C1) frame) λ(x1:List Int)=> .lf ({B4:=n.B4,F0:=n.F0,C7:=false,C1:=0,B8:=true,F2:=wrap u32 (frame.length:Int)},true,x1))))))
def Q7q(n:Q0q)(m:(List Int))(frame:(List UInt8)):(Q0q×Bool×(List Int)):=(Q68 n m frame).m
abbrev Qhy(n:Q0q)(m:(List Int))(frame:(List UInt8)):Prop:=(Q68 n m frame).p
def Z6f:Q0c:=mkP 135 [false,true,false] true [.agg Q0q.sig, .one (.row 0), .one (.str)] [.arr 23 1 (.ints .u32)] (λargs rows=>Qhy (Q0q.of (args.getD 0 .dead).cells) (rowL .u32 rows 0) (argS args 2)) (λargs rows=>Q7q (Q0q.of (args.getD 0 .dead).cells) (rowL .u32 rows 0) (argS args 2)) (λX=> .tup [.agg (Q0q.cells (X.1)), .bool (X.2.1)]) (λX=>[⟨false,23,1, .ints .u32 (X.2.2)⟩])
theorem Qpn:Q05 Tryz.prog Z6f:=Q0n Q0j Q0k (.cons Qed (.cons Qvq (.nil))) Tryz.func135 Tryz.call135 (λargs rows=>Q68 (Q0q.of (args.getD 0 .dead).cells) (rowL .u32 rows 0) (argS args 2)) [] [] 2 (λ_ _ _=>by kernel_rfl) (λ_ _=>rfl) (λ_ _ h=>h) (λ_ X=>by kernel_rfl)
def Q43(m:Q00)(e:Q0d):Tree (Bool×Q00):=
.br m.A7 (.lf (false,m)) (let T1:Tree ((Bool×Q00)):= .br (e.B5==4) (.an (Qib m.B1 m.Mem e) (.lv (Q7j m.B1 m.Mem e) λ(x2:Q0f×Bool×List Int)=> .lf (x2.2.1,{B2:=m.B2,Mem:=x2.2.2,A3:=m.A3,B0:=m.B0,B1:=x2.1,C5:=m.C5,A2:=m.A2,A1:=m.A1,A4:=m.A4,A7:=m.A7}))) (let T3:Tree ((Bool×Q00)):= .br (e.B5==6) (.br (decide (e.C8=[])) (.lf (true,{B2:=m.B2,Mem:=m.Mem,A3:=m.A3,B0:=m.B0,B1:=m.B1,C5:=m.C5,A2:={D0:=e.N,C3:=m.A2.C3},A1:=m.A1,A4:=m.A4,A7:=m.A7})) (.lf (false,m))) (.lf (false,m)); .br (e.B5==5) (.br (e.N==0) (.an (Qhy m.C5 m.Mem e.C8) (.lv (Q7q m.C5 m.Mem e.C8) λ(x3:Q0q×Bool×List Int)=> .lf (x3.2.1,{B2:=m.B2,Mem:=x3.2.2,A3:=m.A3,B0:=m.B0,B1:=m.B1,C5:=x3.1,A2:=m.A2,A1:=m.A1,A4:=m.A4,A7:=m.A7}))) T3) T3);let T2:Tree ((Bool×Q00)):= .br (e.B5==3) (.br (decide (e.N<=255)) (.br (decide (e.C8=[])) (.an (Qlj m.A3 (wrap u8 e.N)) (.lv (Qk1 m.A3 (wrap u8 e.N)) λ(x1:Q0b×Bool)=> .lf (x1.2,{B2:=m.B2,Mem:=m.Mem,A3:=x1.1,B0:=m.B0,B1:=m.B1,C5:=m.C5,A2:=m.A2,A1:=m.A1,A4:=m.A4,A7:=m.A7}))) T1) T1) T1; .br (e.B5==2) (.br (e.N==0) (.br (decide (e.C8=[])) (.lv (Q5x m.B0) λ(x0:Q0g×Bool)=> .lf (x0.2,{B2:=m.B2,Mem:=m.Mem,A3:=m.A3,B0:=x0.1,B1:=m.B1,C5:=m.C5,A2:=m.A2,A1:=m.A1,A4:=m.A4,A7:=m.A7})) T2) T2) T2)
def Q0o(m:Q00)(e:Q0d):(Bool×Q00):=(Q43 m e).m
abbrev Qpt(m:Q00)(e:Q0d):Prop:=(Q43 m e).p
def Zce:Q0c:=mkP 68 [true,false] true [.ptr 0, .agg Q0d.sig] [.box 41 49 (Q00.sigW (.row 1)), .arr 23 1 (.ints .u32)] (λargs rows=>Qpt (Q00.ofW (rows.getD 0 default).cs (rowL .u32 rows 1)) (Q0d.of (args.getD 1 .dead).cells)) (λargs rows=>Q0o (Q00.ofW (rows.getD 0 default).cs (rowL .u32 rows 1)) (Q0d.of (args.getD 1 .dead).cells)) (λX=> .bool (X.1)) (λX=>[⟨true,41,49, .gen [(Q00.cellsW (X.2) (.all 1))]⟩,⟨false,23,1, .ints .u32 (X.2).Mem⟩])
theorem Z6r:Q05 Tryz.prog Zce:=Q0n Q0j Q0k (.cons Qw8 (.cons Qw1 (.cons Qpf (.cons Qpn (.nil))))) Tryz.func68 Tryz.call68 (λargs rows=>Q43 (Q00.ofW (rows.getD 0 default).cs (rowL .u32 rows 1)) (Q0d.of (args.getD 1 .dead).cells)) [.row 23 1 (.ints .u32)] [] 2 (λ_ _ _=>by kernel_rfl) (λ_ _=>rfl) (λ_ _ h=>h) (λ_ X=>by kernel_rfl)
def Q8b(m:Q01)(e:Q0d):Tree (Bool×Q01):=
.br m.A0.A7 (.lf (false,m)) (let T1:Tree ((Bool×Q01)):= .br (e.B5==4) (.an (Qib m.A0.B1 m.A0.Mem e) (.lv (Q7j m.A0.B1 m.A0.Mem e) λ(x2:Q0f×Bool×List Int)=> .lf (x2.2.1,{A0:={B2:=m.A0.B2,Mem:=x2.2.2,A3:=m.A0.A3,B0:=m.A0.B0,B1:=x2.1,C5:=m.A0.C5,A2:=m.A0.A2,A1:=m.A0.A1,A4:=m.A0.A4,A7:=m.A0.A7},A9:=m.A9,C0:=m.C0,A6:=m.A6}))) (let T3:Tree ((Bool×Q01)):= .br (e.B5==6) (.br (decide (e.C8=[])) (.lf (true,{A0:={B2:=m.A0.B2,Mem:=m.A0.Mem,A3:=m.A0.A3,B0:=m.A0.B0,B1:=m.A0.B1,C5:=m.A0.C5,A2:={D0:=e.N,C3:=m.A0.A2.C3},A1:=m.A0.A1,A4:=m.A0.A4,A7:=m.A0.A7},A9:=m.A9,C0:=m.C0,A6:=m.A6})) (.lf (false,m))) (.lf (false,m)); .br (e.B5==5) (.br (e.N==0) (.an (Qhy m.A0.C5 m.A0.Mem e.C8) (.lv (Q7q m.A0.C5 m.A0.Mem e.C8) λ(x3:Q0q×Bool×List Int)=> .lf (x3.2.1,{A0:={B2:=m.A0.B2,Mem:=x3.2.2,A3:=m.A0.A3,B0:=m.A0.B0,B1:=m.A0.B1,C5:=x3.1,A2:=m.A0.A2,A1:=m.A0.A1,A4:=m.A0.A4,A7:=m.A0.A7},A9:=m.A9,C0:=m.C0,A6:=m.A6}))) T3) T3);let T2:Tree ((Bool×Q01)):= .br (e.B5==3) (.br (decide (e.N<=255)) (.br (decide (e.C8=[])) (.an (Qlj m.A0.A3 (wrap u8 e.N)) (.lv (Qk1 m.A0.A3 (wrap u8 e.N)) λ(x1:Q0b×Bool)=> .lf (x1.2,{A0:={B2:=m.A0.B2,Mem:=m.A0.Mem,A3:=x1.1,B0:=m.A0.B0,B1:=m.A0.B1,C5:=m.A0.C5,A2:=m.A0.A2,A1:=m.A0.A1,A4:=m.A0.A4,A7:=m.A0.A7},A9:=m.A9,C0:=m.C0,A6:=m.A6}))) T1) T1) T1; .br (e.B5==2) (.br (e.N==0) (.br (decide (e.C8=[])) (.lv (Q5x m.A0.B0) λ(x0:Q0g×Bool)=> .lf (x0.2,{A0:={B2:=m.A0.B2,Mem:=m.A0.Mem,A3:=m.A0.A3,B0:=x0.1,B1:=m.A0.B1,C5:=m.A0.C5,A2:=m.A0.A2,A1:=m.A0.A1,A4:=m.A0.A4,A7:=m.A0.A7},A9:=m.A9,C0:=m.C0,A6:=m.A6})) T2) T2) T2)
def Qir(m:Q01)(e:Q0d):(Bool×Q01):=(Q8b m e).m
abbrev Qly(m:Q01)(e:Q0d):Prop:=(Q8b m e).p
def Z2r:Q0c:=mkP 68 [true,false] true [.ptr 0, .agg Q0d.sig] [.box 49 52 (Q01.sigW (.row 1) (.row 2) (.row 3)), .arr 23 1 (.ints .u32), .arr 72 4 (.recs .apiEntry), .arr 70 3 (.recs .apiEvent)] (λargs rows=>Qly (Q01.ofW (rows.getD 0 default).cs (rowL .u32 rows 1) (rowR .apiEntry rows 2) (rowR .apiEvent rows 3)) (Q0d.of (args.getD 1 .dead).cells)) (λargs rows=>Qir (Q01.ofW (rows.getD 0 default).cs (rowL .u32 rows 1) (rowR .apiEntry rows 2) (rowR .apiEvent rows 3)) (Q0d.of (args.getD 1 .dead).cells)) (λX=> .bool (X.1)) (λX=>[⟨true,49,52, .gen [(Q01.cellsW (X.2) (.all 1) (.all 2) (.all 3))]⟩,⟨false,23,1, .ints .u32 (X.2).A0.Mem⟩,⟨false,72,4, .recs .apiEntry (X.2).C0⟩,⟨false,70,3, .recs .apiEvent (X.2).A6⟩])
theorem Z1m:Q05 Tryz.prog Z2r:=Q0n Q0j Q0k (.cons Qw8 (.cons Qw1 (.cons Qpf (.cons Qpn (.nil))))) Tryz.func68 Tryz.call68 (λargs rows=>Q8b (Q01.ofW (rows.getD 0 default).cs (rowL .u32 rows 1) (rowR .apiEntry rows 2) (rowR .apiEvent rows 3)) (Q0d.of (args.getD 1 .dead).cells)) [.row 23 1 (.ints .u32), .row 72 4 (.recs .apiEntry), .row 70 3 (.recs .apiEvent)] [] 2 (λ_ _ _=>by kernel_rfl) (λ_ _=>rfl) (λ_ _ h=>h) (λ_ X=>by kernel_rfl)
def Q6p(m:Q01)(e:Q0d):Tree (Bool×Q01):=
.an (Qly m e) (.lv (Qir m e) λ(x0:Bool×Q01)=> .lf (x0.1,x0.2))
def Qg9(m:Q01)(e:Q0d):(Bool×Q01):=(Q6p m e).m
abbrev Qkd(m:Q01)(e:Q0d):Prop:=(Q6p m e).p
def Qzt:Q0c:=mkP 233 [true,false] true [.ptr 0, .agg Q0d.sig] [.box 49 52 (Q01.sigW (.row 1) (.row 2) (.row 3)), .arr 23 1 (.ints .u32), .arr 72 4 (.recs .apiEntry), .arr 70 3 (.recs .apiEvent)] (λargs rows=>Qkd (Q01.ofW (rows.getD 0 default).cs (rowL .u32 rows 1) (rowR .apiEntry rows 2) (rowR .apiEvent rows 3)) (Q0d.of (args.getD 1 .dead).cells)) (λargs rows=>Qg9 (Q01.ofW (rows.getD 0 default).cs (rowL .u32 rows 1) (rowR .apiEntry rows 2) (rowR .apiEvent rows 3)) (Q0d.of (args.getD 1 .dead).cells)) (λX=> .bool (X.1)) (λX=>[⟨true,49,52, .gen [(Q01.cellsW (X.2) (.all 1) (.all 2) (.all 3))]⟩,⟨false,23,1, .ints .u32 (X.2).A0.Mem⟩,⟨false,72,4, .recs .apiEntry (X.2).C0⟩,⟨false,70,3, .recs .apiEvent (X.2).A6⟩])
theorem Qxb:Q05 Tryz.prog Qzt:=Q0n Q0j Q0k (.cons Z1m (.nil)) Tryz.func233 Tryz.call233 (λargs rows=>Q6p (Q01.ofW (rows.getD 0 default).cs (rowL .u32 rows 1) (rowR .apiEntry rows 2) (rowR .apiEvent rows 3)) (Q0d.of (args.getD 1 .dead).cells)) [.row 23 1 (.ints .u32), .row 72 4 (.recs .apiEntry), .row 70 3 (.recs .apiEvent)] [] 2 (λ_ _ _=>by kernel_rfl) (λ_ _=>rfl) (λ_ _ h=>h) (λ_ X=>by kernel_rfl)
def Qa1(r:Q01)(e:Q0d):Tree Q01:=
.an (Qkd r e) (.lv (Qg9 r e) λ(x0:Bool×Q01)=> .br x0.1 (.cn (decide (40*(x0.2.C0.length+1)<=140737488355328)) (.lf ({A0:=x0.2.A0,A9:=x0.2.A9,C0:=x0.2.C0++[{At:=x0.2.A0.A1,C6:=e}],A6:=x0.2.A6}))) (.lf x0.2))
def Qia(r:Q01)(e:Q0d):Q01:=(Qa1 r e).m
abbrev Qi8(r:Q01)(e:Q0d):Prop:=(Qa1 r e).p
def Z75:Q0c:=mkKP 1 182 [true,false] [.ptr 0, .agg Q0d.sig] [.box 49 52 (Q01.sigW (.row 1) (.row 2) (.row 3)), .arr 23 1 (.ints .u32), .arr 72 4 (.recs .apiEntry), .arr 70 3 (.recs .apiEvent)] (λargs rows=>Qi8 (Q01.ofW (rows.getD 0 default).cs (rowL .u32 rows 1) (rowR .apiEntry rows 2) (rowR .apiEvent rows 3)) (Q0d.of (args.getD 1 .dead).cells)) (λargs rows=>Qia (Q01.ofW (rows.getD 0 default).cs (rowL .u32 rows 1) (rowR .apiEntry rows 2) (rowR .apiEvent rows 3)) (Q0d.of (args.getD 1 .dead).cells)) (λX=> .tup []) (λX=>[⟨true,49,52, .gen [(Q01.cellsW X (.all 1) (.all 2) (.all 3))]⟩,⟨false,23,1, .ints .u32 X.A0.Mem⟩,⟨false,72,4, .recs .apiEntry X.C0⟩,⟨false,70,3, .recs .apiEvent X.A6⟩])
theorem Z3s:Q05 Tryz.prog Z75:=qz Q0j Q0k (.cons Qxb (.nil)) Tryz.func182 Tryz.call182 (λargs rows=>Qa1 (Q01.ofW (rows.getD 0 default).cs (rowL .u32 rows 1) (rowR .apiEntry rows 2) (rowR .apiEvent rows 3)) (Q0d.of (args.getD 1 .dead).cells)) [.row 23 1 (.ints .u32), .row 72 4 (.recs .apiEntry), .row 70 3 (.recs .apiEvent)] [] 2 (λ_ _ _=>by kernel_rfl) (λ_ _=>rfl) (λ_ _ h=>h)
def Qi7(is:Bool)(n:Int):Tree Int:=
.br is (.cn (decide (0<=wrap u64 n)) (.lf (ishl u32 1 (wrap u64 n)))) (.lf 0)
def Q8n(is:Bool)(n:Int):Int:=(Qi7 is n).m
abbrev Qa0(is:Bool)(n:Int):Prop:=(Qi7 is n).p
def Ze9:Q0c:=mkP 97 [] true [.one (.bool), .one (.int .i64)] [] (λargs rows=>Qa0 (argB args 0) (argI args 1)) (λargs rows=>Q8n (argB args 0) (argI args 1)) (λX=> .int .u32 X) (λX=>[])
theorem Zc7:Q05 Tryz.prog Ze9:=Q0n Q0j Q0k (.nil) Tryz.func97 Tryz.call97 (λargs rows=>Qi7 (argB args 0) (argI args 1)) [] [] 2 (λ_ _ _=>by kernel_rfl) (λ_ _=>rfl) (λ_ _ h=>h) (λ_ X=>by kernel_rfl)
def Qhf(t:Q0g):Tree Bool:=
.lf t.D5
def Q9u(t:Q0g):Bool:=(Qhf t).m
def Qq3:Q0c:=mkR 98 [] true [.agg Q0g.sig] [] (λargs rows=>Q9u (Q0g.of (args.getD 0 .dead).cells)) (λX=> .bool X) (λX=>[])
theorem Qot:Q05 Tryz.prog Qq3:=Q0z Q0j Q0k (.nil) Tryz.func98 Tryz.call98 (λargs rows=>Qhf (Q0g.of (args.getD 0 .dead).cells)) [] [] 2 (λ_ _ _=>by kernel_rfl) (λ_ _=>rfl) (λ_ _=>Tree.free_ok (by kernel_rfl)) (λ_ X=>by kernel_rfl)
def Qeb(c:Q0b):Tree Bool:=
.lf (decide ((c.D3.length:Int)>(0:Int)))
def Q5d(c:Q0b):Bool:=(Qeb c).m
def Qn1:Q0c:=mkR 99 [] true [.agg Q0b.sig] [] (λargs rows=>Q5d (Q0b.of (args.getD 0 .dead).cells)) (λX=> .bool X) (λX=>[])
theorem Qm8:Q05 Tryz.prog Qn1:=Q0z Q0j Q0k (.nil) Tryz.func99 Tryz.call99 (λargs rows=>Qeb (Q0b.of (args.getD 0 .dead).cells)) [] [] 2 (λ_ _ _=>by kernel_rfl) (λ_ _=>rfl) (λ_ _=>Tree.free_ok (by kernel_rfl)) (λ_ X=>by kernel_rfl)
def Qil(d0:Q0f):Tree Bool:=
.br (d0.C2==2) (.lf true) (.lf (d0.C2==3))
def Qap(d0:Q0f):Bool:=(Qil d0).m
def Qsh:Q0c:=mkR 100 [] true [.agg Q0f.sig] [] (λargs rows=>Qap (Q0f.of (args.getD 0 .dead).cells)) (λX=> .bool X) (λX=>[])
theorem Qqf:Q05 Tryz.prog Qsh:=Q0z Q0j Q0k (.nil) Tryz.func100 Tryz.call100 (λargs rows=>Qil (Q0f.of (args.getD 0 .dead).cells)) [] [] 2 (λ_ _ _=>by kernel_rfl) (λ_ _=>rfl) (λ_ _=>Tree.free_ok (by kernel_rfl)) (λ_ X=>by kernel_rfl)
def Qk2(n:Q0q):Tree Bool:=
.lf n.B8
def Qce(n:Q0q):Bool:=(Qk2 n).m
def Qtz:Q0c:=mkR 101 [] true [.agg Q0q.sig] [] (λargs rows=>Qce (Q0q.of (args.getD 0 .dead).cells)) (λX=> .bool X) (λX=>[])
theorem Qrn:Q05 Tryz.prog Qtz:=Q0z Q0j Q0k (.nil) Tryz.func101 Tryz.call101 (λargs rows=>Qk2 (Q0q.of (args.getD 0 .dead).cells)) [] [] 2 (λ_ _ _=>by kernel_rfl) (λ_ _=>rfl) (λ_ _=>Tree.free_ok (by kernel_rfl)) (λ_ X=>by kernel_rfl)
def Qn5(b:Q07)(z:(Int)×(Int)):Prop:=0<=z.2/\z.2<=32
def Qf6(b:Q07)(z:(Int)×(Int)):Nat:=(32-z.2).toNat
def Qiq(b:Q07):Tree Int:=
.lp inferInstance (Qf6 b (0,0)+1) (((rE (0:Nat)/\rE (0:Nat))/\rE (0:Int)/\rE (0:Int)/\True)/\(rE b.D0/\rE b.C3/\True)/\True) (0,0) λ(v0:Int×Int)=> .br (decide (v0.2<32)) (.cn (decide (0<=wrap u64 v0.2)) (.nx (((rE (0:Nat)/\rE (0:Nat))/\rE ((wrap i64 (v0.1+wrap i64 (iand u32 (ishr u32 b.C3 (wrap u64 v0.2)) 1))):Int)/\rE ((wrap i64 (v0.2+1)):Int)/\True)/\(rE b.D0/\rE b.C3/\True)/\True) (Sum.inl (wrap i64 (v0.1+wrap i64 (iand u32 (ishr u32 b.C3 (wrap u64 v0.2)) 1)),wrap i64 (v0.2+1))))) (.lf (Sum.inr v0.1))
def Qdk(b:Q07):Int:=(Qiq b).m
theorem Z35(b:Q07):(Qiq b).p:=by
 unfold Tree.p Qiq
 repeat'(first|refine w_lp (inv:=Qn5 b) (μ:=Qf6 b) ?_ (Nat.lt_succ_self _) (λ_ _=> ?_)|exact trivial|refine w_br (λ_=> ?_) (λ_=> ?_)|refine w_cn ?_ ?_|refine w_an ?_ ?_|refine w_lv (λ_ _=> ?_)|refine w_nx ?_|refine w_lf ?_|refine And.intro ?_ ?_)
 all_goals((try simp only[Qn5,Qf6]at*);((subst_vars;first|trivial|assumption|omega|((simp(config:={decide:=true,failIfUnchanged:=false}) only[Bool.and_eq_true,Bool.or_eq_true,Bool.and_eq_false_iff,Bool.or_eq_false_iff,Bool.not_eq_true',Bool.not_eq_false',Bool.not_eq_true,Bool.not_eq_false,decide_eq_true_eq,decide_eq_false_iff_not,Q4j,Q2t,Q4f,Q2u,beq_iff_eq,beq_eq_false_iff_ne,bne_iff_ne,bne_eq_false_iff_eq,ne_eq,List.all_cons,List.all_nil,D.plain,List.length_cons,List.length_nil,List.length_append,List.length_set,List.length_replicate,IntKind.wrap_i64,IntKind.wrap_u64,IntKind.wrap_u32,IntKind.wrap_i32,IntKind.wrap_u8,true_and,and_true,or_false,false_or,or_true,true_or,not_true_eq_false,not_false_eq_true,Prod.fst,Prod.snd]at*);first|done|assumption|omega)|((simp(config:={decide:=true,failIfUnchanged:=false}) only[Bool.and_eq_true,Bool.or_eq_true,Bool.and_eq_false_iff,Bool.or_eq_false_iff,Bool.not_eq_true',Bool.not_eq_false',Bool.not_eq_true,Bool.not_eq_false,decide_eq_true_eq,decide_eq_false_iff_not,Q4j,Q2t,Q4f,Q2u,beq_iff_eq,beq_eq_false_iff_ne,bne_iff_ne,bne_eq_false_iff_eq,ne_eq,List.all_cons,List.all_nil,D.plain,List.length_cons,List.length_nil,List.length_append,List.length_set,List.length_replicate,IntKind.wrap_i64,IntKind.wrap_u64,IntKind.wrap_u32,IntKind.wrap_i32,IntKind.wrap_u8,true_and,and_true,or_false,false_or,or_true,true_or,not_true_eq_false,not_false_eq_true,Prod.fst,Prod.snd]at*);simp only[<-List.length_pos_iff]at*;omega)|(simp_all;done)|(have:= @Qfc;simp_all;try omega))))
def Z8s:LInv:={
 α:=(Int)×(Int)
 F:=λst a=>([(1, .ptr 0 0 0),(3, .int i64 a.1),(4, .int i64 a.2)],[⟨true,38,2, .gen [[(cT st 1 0),(cT st 1 1)]]⟩])
 a0:=λst=>((lk st 3).toInt,(lk st 4).toInt)
 ex0:=λst=>[]++[(Q0r (lk st 1) (st.rows.length+0))]
 next:=λst=>((lk st 3).toInt,(lk st 4).toInt)
 ex:=λst=>[]++[(Q0r (lk st 1) (st.rows.length+0))]}
def Z1z:List (Nat×LInv):=[(3,Z8s)]
def Z9s:Q0c:=mkR 153 [] true [.agg Q07.sig] [] (λargs rows=>Qdk (Q07.of (args.getD 0 .dead).cells)) (λX=> .int .i64 X) (λX=>[])
theorem Qri:Q05 Tryz.prog Z9s:=Q0z Q0j Q0k (.nil) Tryz.func153 Tryz.call153 (λargs rows=>Qiq (Q07.of (args.getD 0 .dead).cells)) [] Z1z 3 (λ_ _ _=>by kernel_rfl) (λ_ _=>rfl) (λargs rows=>Z35 (Q07.of (args.getD 0 .dead).cells)) (λ_ X=>by kernel_rfl)
def Q97(b:Q07):Tree Bool:=
.lv (Qdk b) λ(x0:Int)=> .lf (wrap u64 x0 !=wrap u64 b.D0)
def Q3g(b:Q07):Bool:=(Q97 b).m
def Qnv:Q0c:=mkR 102 [] true [.agg Q07.sig] [] (λargs rows=>Q3g (Q07.of (args.getD 0 .dead).cells)) (λX=> .bool X) (λX=>[])
theorem Qm7:Q05 Tryz.prog Qnv:=Q0z Q0j Q0k (.cons Qri (.nil)) Tryz.func102 Tryz.call102 (λargs rows=>Q97 (Q07.of (args.getD 0 .dead).cells)) [] [] 2 (λ_ _ _=>by kernel_rfl) (λ_ _=>rfl) (λ_ _=>Tree.free_ok (by kernel_rfl)) (λ_ X=>by kernel_rfl)
def Qep(m:Q00):Tree Int:=
.lv (Q9u m.B0) λ(x0:Bool)=> .an (Qa0 x0 0) (.lv (Q8n x0 0) λ(x1:Int)=> .lv (Q5d m.A3) λ(x2:Bool)=> .an (Qa0 x2 1) (.lv (Q8n x2 1) λ(x3:Int)=> .lv (Qap m.B1) λ(x4:Bool)=> .an (Qa0 x4 2) (.lv (Q8n x4 2) λ(x5:Int)=> .lv (Qce m.C5) λ(x6:Bool)=> .an (Qa0 x6 3) (.lv (Q8n x6 3) λ(x7:Int)=> .lv (Q3g m.A2) λ(x8:Bool)=> .an (Qa0 x8 4) (.lv (Q8n x8 4) λ(x9:Int)=> .lf (ior u32 (ior u32 (ior u32 (ior u32 x1 x3) x5) x7) x9))))))
def Qgg(m:Q00):Int:=(Qep m).m
abbrev Qpd(m:Q00):Prop:=(Qep m).p
def Zdl:Q0c:=mkP 46 [] true [.agg Q00.sig] [] (λargs rows=>Qpd (Q00.of (args.getD 0 .dead).cells)) (λargs rows=>Qgg (Q00.of (args.getD 0 .dead).cells)) (λX=> .int .u32 X) (λX=>[])
theorem Z6u:Q05 Tryz.prog Zdl:=Q0n Q0j Q0k (.cons Zc7 (.cons Qot (.cons Qm8 (.cons Qqf (.cons Qrn (.cons Qm7 (.nil))))))) Tryz.func46 Tryz.call46 (λargs rows=>Qep (Q00.of (args.getD 0 .dead).cells)) [] [] 2 (λ_ _ _=>by kernel_rfl) (λ_ _=>rfl) (λ_ _ h=>h) (λ_ X=>by kernel_rfl)
def Q87(m:Q00):Tree Int:=
.an (Qpd m) (.lv (Qgg m) λ(x0:Int)=> .lf (iand u32 x0 m.B2.B6.a7))
def Q2s(m:Q00):Int:=(Q87 m).m
abbrev Qff(m:Q00):Prop:=(Q87 m).p
def Z3e:Q0c:=mkP 104 [] true [.agg Q00.sig] [] (λargs rows=>Qff (Q00.of (args.getD 0 .dead).cells)) (λargs rows=>Q2s (Q00.of (args.getD 0 .dead).cells)) (λX=> .int .u32 X) (λX=>[])
theorem Qna:Q05 Tryz.prog Z3e:=Q0n Q0j Q0k (.cons Z6u (.nil)) Tryz.func104 Tryz.call104 (λargs rows=>Q87 (Q00.of (args.getD 0 .dead).cells)) [] [] 2 (λ_ _ _=>by kernel_rfl) (λ_ _=>rfl) (λ_ _ h=>h) (λ_ X=>by kernel_rfl)
def Qd7(m:Q00):Tree Bool:=
.br m.A4 (.an (Qff m) (.lv (Q2s m) λ(x0:Int)=> .lf (x0==0))) (.lf false)
def Qbt(m:Q00):Bool:=(Qd7 m).m
abbrev Ql1(m:Q00):Prop:=(Qd7 m).p
def Zff:Q0c:=mkP 48 [] true [.agg Q00.sig] [] (λargs rows=>Ql1 (Q00.of (args.getD 0 .dead).cells)) (λargs rows=>Qbt (Q00.of (args.getD 0 .dead).cells)) (λX=> .bool X) (λX=>[])
theorem Qwa:Q05 Tryz.prog Zff:=Q0n Q0j Q0k (.cons Qna (.nil)) Tryz.func48 Tryz.call48 (λargs rows=>Qd7 (Q00.of (args.getD 0 .dead).cells)) [] [] 2 (λ_ _ _=>by kernel_rfl) (λ_ _=>rfl) (λ_ _ h=>h) (λ_ X=>by kernel_rfl)
def Q73(m:Q00):Tree Bool:=
.lv (Q7f m) λ(x0:Bool)=> .br (!x0) (.lf true) (.br m.A7 (.lf true) (.an (Ql1 m) (.lv (Qbt m) λ(x1:Bool)=> .br x1 (.lf true) (.lf (decide (m.A1>=1152921504606846976))))))
def Q0y(m:Q00):Bool:=(Q73 m).m
abbrev Qdx(m:Q00):Prop:=(Q73 m).p
def Zdu:Q0c:=mkP 108 [] true [.agg Q00.sig] [] (λargs rows=>Qdx (Q00.of (args.getD 0 .dead).cells)) (λargs rows=>Q0y (Q00.of (args.getD 0 .dead).cells)) (λX=> .bool X) (λX=>[])
theorem Qr9:Q05 Tryz.prog Zdu:=Q0n Q0j Q0k (.cons Qqs (.cons Qwa (.nil))) Tryz.func108 Tryz.call108 (λargs rows=>Q73 (Q00.of (args.getD 0 .dead).cells)) [] [] 2 (λ_ _ _=>by kernel_rfl) (λ_ _=>rfl) (λ_ _ h=>h) (λ_ X=>by kernel_rfl)
end
end Go.Proofs.YtjaifpiopmhmlaaGreat

/-
  Functions of the program: models, and that its calls come to them (by a program: gen3.py).
-/
import Derived.Test.YtpcbkbalabgnlaaGreatRecordPiecesBase
import Derived.Test.YtpcbkbalabgnlaaGreatRecordPiecesYe
set_option linter.unusedVariables false
set_option linter.unusedSimpArgs false
namespace Go.Proofs.YtpcbkbalabgnlaaGreat
open Go Go.GD Go.IntKind
set_option maxRecDepth 100000
noncomputable section
def Qem(m:(List Int)):Tree (List Int):=
.cn (Nat.blt (0:Nat) (1:Nat)&&Nat.beq (1:Nat) (1:Nat)&&List.all [D.int u32 (0:Int)] D.plain&&decide ((0:Int)≤(m.length:Int)∧(m.length:Int)≤(m.length:Int)∧(m.length:Int)≤(9223372036854775807:Int)∧(↑(4:Nat):Int)*(m.length:Int)≤(140737488355328:Int))) (let E1:=List.length (List.replicate (Int.toNat (m.length:Int)) (0:Int)); .lf (List.take (Min.min (m.length) E1) m++List.drop (Min.min (m.length) E1) (List.replicate (Int.toNat (m.length:Int)) (0:Int))))
def Qs0(m:(List Int)):(List Int):=(Qem m).m
abbrev Qrd(m:(List Int)):Prop:=(Qem m).p
def Zfy:Q0c:=mkP 83 [] true [.one (.ints .u32)] [] (λargs rows=>Qrd (argL .u32 args 0)) (λargs rows=>Qs0 (argL .u32 args 0)) (λX=> .all 0) (λX=>[⟨false,23,1, .ints .u32 X⟩])
theorem Zbi:Q05 Tryz.prog Zfy:=Q0k Q0i Q0j (.nil) Tryz.func83 Tryz.call83 (λargs rows=>Qem (argL .u32 args 0)) [.row 23 1 (.ints .u32)] [] 2 (λ_ _ _=>by kernel_rfl) (λ_ _=>rfl) (λ_ _ h=>h) (λ_ X=>by kernel_rfl)
def Qck(m:Q00):Tree Q00:=
.an (Qrd m.Mem) (.lv (Qs0 m.Mem) λ(x0:List Int)=> .lf ({B2:=m.B2,Mem:=x0,A3:=m.A3,B0:=m.B0,B1:=m.B1,C5:=m.C5,A1:=m.A1,A4:=m.A4,A6:=m.A6,A7:=m.A7}))
def Qlw(m:Q00):Q00:=(Qck m).m
abbrev Qfw(m:Q00):Prop:=(Qck m).p
def Zkr:Q0c:=mkP 43 [] true [.agg Q00.sig] [] (λargs rows=>Qfw (Q00.of (args.getD 0 .dead).cells)) (λargs rows=>Qlw (Q00.of (args.getD 0 .dead).cells)) (λX=> .agg (Q00.cellsW X (.all 0))) (λX=>[⟨false,23,1, .ints .u32 X.Mem⟩])
theorem Qq5:Q05 Tryz.prog Zkr:=Q0k Q0i Q0j (.cons Zbi (.nil)) Tryz.func43 Tryz.call43 (λargs rows=>Qck (Q00.of (args.getD 0 .dead).cells)) [.row 23 1 (.ints .u32)] [] 2 (λ_ _ _=>by kernel_rfl) (λ_ _=>rfl) (λ_ _ h=>h) (λ_ X=>by kernel_rfl)
def Qpc(n:Int)(k:Int)(z:(Int)×(List Int)):Prop:=0≤z.1∧(z.2.length:Int)=z.1∧(z.1≤k∨z.1=0)
def Qib(n:Int)(k:Int)(z:(Int)×(List Int)):Nat:=(k-z.1).toNat
def Ql6(n:Int)(k:Int):Tree (List UInt8):=
.lp inferInstance (Qib n k (0,[])+1) ((rE (n:Int)∧rE (k:Int)∧True∧rE (0:Int)∧True)∧rE ([]:List Int)∧True) (0,[]) λ(v0:Int×List Int)=> .br (decide (v0.1<k)) (.lv (Qbw n (wrap i64 (Int.tdiv v0.1 9))) λ(x0:Int)=> .cn (decide (1*(v0.2.length+1)≤140737488355328)) (.nx ((rE (n:Int)∧rE (k:Int)∧True∧rE ((wrap i64 (v0.1+1)):Int)∧True)∧rE ((v0.2++[wrap u8 x0]):List Int)∧True) (Sum.inl (wrap i64 (v0.1+1),v0.2++[wrap u8 x0])))) (.lf (Sum.inr (bytesOf v0.2)))
def Z0e(n:Int)(k:Int):(List UInt8):=(Ql6 n k).m
def Qaj(n:Int)(k:Int):Prop:=
k≤1000000000000
theorem Z6q(n:Int)(k:Int)(hw:Qaj n k):(Ql6 n k).p:=by
 simp only[Qaj]at hw
 unfold Tree.p Ql6
 repeat'(first|refine w_lp (inv:=Qpc n k) (μ:=Qib n k) ?_ (Nat.lt_succ_self _) (λ_ _=> ?_)|exact trivial|refine w_br (λ_=> ?_) (λ_=> ?_)|refine w_cn ?_ ?_|refine w_an ?_ ?_|refine w_lv (λ_ _=> ?_)|refine w_nx ?_|refine w_lf ?_|refine And.intro ?_ ?_)
 all_goals((try simp only[Qpc,Qib]at*);((subst_vars;first|trivial|assumption|omega|((simp(config:={decide:=true,failIfUnchanged:=false}) only[Bool.and_eq_true,Bool.or_eq_true,Bool.and_eq_false_iff,Bool.or_eq_false_iff,Bool.not_eq_true',Bool.not_eq_false',Bool.not_eq_true,Bool.not_eq_false,decide_eq_true_eq,decide_eq_false_iff_not,Q6b,Q4,Q67,Q40,beq_iff_eq,beq_eq_false_iff_ne,bne_iff_ne,bne_eq_false_iff_eq,ne_eq,List.all_cons,List.all_nil,D.plain,List.length_cons,List.length_nil,List.length_append,List.length_set,List.length_replicate,IntKind.wrap_i64,IntKind.wrap_u64,IntKind.wrap_u32,IntKind.wrap_i32,IntKind.wrap_u8,true_and,and_true,or_false,false_or,or_true,true_or,not_true_eq_false,not_false_eq_true,Prod.fst,Prod.snd]at*);first|done|assumption|omega)|((simp(config:={decide:=true,failIfUnchanged:=false}) only[Bool.and_eq_true,Bool.or_eq_true,Bool.and_eq_false_iff,Bool.or_eq_false_iff,Bool.not_eq_true',Bool.not_eq_false',Bool.not_eq_true,Bool.not_eq_false,decide_eq_true_eq,decide_eq_false_iff_not,Q6b,Q4,Q67,Q40,beq_iff_eq,beq_eq_false_iff_ne,bne_iff_ne,bne_eq_false_iff_eq,ne_eq,List.all_cons,List.all_nil,D.plain,List.length_cons,List.length_nil,List.length_append,List.length_set,List.length_replicate,IntKind.wrap_i64,IntKind.wrap_u64,IntKind.wrap_u32,IntKind.wrap_i32,IntKind.wrap_u8,true_and,and_true,or_false,false_or,or_true,true_or,not_true_eq_false,not_false_eq_true,Prod.fst,Prod.snd]at*);simp only[←List.length_pos_iff]at*;omega)|(simp_all;done)|(have:= @Qhy;simp_all;try omega))))
def Za2:LInv:={
 α:=(Int)×(List Int)
 F:=λst a=>([(0,(lk st 0)),(1,(lk st 1)),(5, .all 0),(6, .int i64 a.1)],[⟨false,5,1, .ints u8 a.2⟩])
 a0:=λst=>((lk st 6).toInt,(Q5m st.rows (rN st 5)))
 ex0:=λst=>[]++[(Q0o (lk st 5) (st.rows.length+0))]
 next:=λst=>((lk st 6).toInt,(Q5m st.rows (rN st 5)))
 ex:=λst=>[]++[(Q0o (lk st 5) (st.rows.length+0))]}
def Z24:List (Nat×LInv):=[(3,Za2)]
def Zg3:Q0c:=mkP 46 [] true [.one (.int .i64), .one (.int .i64)] [] (λargs rows=>Qaj (argI args 0) (argI args 1)) (λargs rows=>Z0e (argI args 0) (argI args 1)) (λX=> .str X) (λX=>[])
theorem Zc1:Q05 Tryz.prog Zg3:=Q0k Q0i Q0j (.cons Qlv (.nil)) Tryz.func46 Tryz.call46 (λargs rows=>Ql6 (argI args 0) (argI args 1)) [] Z24 3 (λ_ _ _=>by kernel_rfl) (λ_ _=>rfl) (λargs rows h=>Z6q (argI args 0) (argI args 1) h) (λ_ X=>by kernel_rfl)
def Qev(r:Q01):Tree Q01:=
.an (Qfw r.A0) (.lv (Qlw r.A0) λ(x0:Q00)=> .cn (decide (40*(0+r.C3.length)≤140737488355328)) (.cn (decide (32*(0+r.A2.length)≤140737488355328)) (.lf ({A0:=x0,A9:=r.A9,C3:=r.C3,A2:=r.A2}))))
def Qml(r:Q01):Q01:=(Qev r).m
abbrev Qlk(r:Q01):Prop:=(Qev r).p
def Zga:Q0c:=mkP 50 [] true [.agg Q01.sig] [] (λargs rows=>Qlk (Q01.of (args.getD 0 .dead).cells)) (λargs rows=>Qml (Q01.of (args.getD 0 .dead).cells)) (λX=> .agg (Q01.cellsW X (.all 0) (.all 1) (.all 2))) (λX=>[⟨false,23,1, .ints .u32 X.A0.Mem⟩,⟨false,73,4, .recs .apiEntry X.C3⟩,⟨false,47,3, .recs .apiEvent X.A2⟩])
theorem Qw4:Q05 Tryz.prog Zga:=Q0k Q0i Q0j (.cons Qq5 (.nil)) Tryz.func50 Tryz.call50 (λargs rows=>Qev (Q01.of (args.getD 0 .dead).cells)) [.row 23 1 (.ints .u32), .row 73 4 (.recs .apiEntry), .row 47 3 (.recs .apiEvent)] [] 2 (λ_ _ _=>by kernel_rfl) (λ_ _=>rfl) (λ_ _ h=>h) (λ_ X=>by kernel_rfl)
def Qse(e:Q08):Tree Bool:=
.br (e.B7==1) (.lf (decide (e.C7=[]))) (.br (e.B7==6) (.lf (decide (e.C7=[]))) (.br (e.B7==2) (.br (e.N==0) (.lf (decide (e.C7=[]))) (.lf false)) (.br (e.B7==3) (.br (decide (e.N≤255)) (.lf (decide (e.C7=[]))) (.lf false)) (.br (e.B7==4) (.br (decide (e.N≤1)) (.br (decide (e.C7=[])) (.lf true) (.br (e.N==1) (.lf ((e.C7.length:Int)==(128:Int))) (.lf false))) (.lf false)) (.br (e.B7==5) (.br (e.N==0) (.br (decide ((e.C7.length:Int)≥(1:Int))) (.lf (decide ((e.C7.length:Int)≤(128:Int)))) (.lf false)) (.lf false)) (.lf false))))))
def Qi4(e:Q08):Bool:=(Qse e).m
def Z6b:Q0c:=mkR 34 [] true [.agg Q08.sig] [] (λargs rows=>Qi4 (Q08.of (args.getD 0 .dead).cells)) (λX=> .bool X) (λX=>[])
theorem Z3t:Q05 Tryz.prog Z6b:=Q0x Q0i Q0j (.nil) Tryz.func34 Tryz.call34 (λargs rows=>Qse (Q08.of (args.getD 0 .dead).cells)) [] [] 2 (λ_ _ _=>by kernel_rfl) (λ_ _=>rfl) (λ_ _=>Tree.free_ok (by kernel_rfl)) (λ_ X=>by kernel_rfl)
def Q96(r:Q01)(e:Q08):Tree (Q01×Bool):=
.an (Qlk r) (.lv (Qml r) λ(x0:Q01)=> .lv (Qi4 e) λ(x1:Bool)=> .br (!x1) (.lf (x0,false)) (.br (e.B7==1) (.lf (x0,false)) (.br (decide ((x0.A2.length:Int)≥(16:Int))) (.lf (x0,false)) (.cn (decide (32*(x0.A2.length+1)≤140737488355328)) (.lf ({A0:=x0.A0,A9:=x0.A9,C3:=x0.C3,A2:=x0.A2++[e]},true))))))
def Q71(r:Q01)(e:Q08):(Q01×Bool):=(Q96 r e).m
abbrev Qm8(r:Q01)(e:Q08):Prop:=(Q96 r e).p
def Z2w:Q0c:=mkP 19 [] true [.agg Q01.sig, .agg Q08.sig] [] (λargs rows=>Qm8 (Q01.of (args.getD 0 .dead).cells) (Q08.of (args.getD 1 .dead).cells)) (λargs rows=>Q71 (Q01.of (args.getD 0 .dead).cells) (Q08.of (args.getD 1 .dead).cells)) (λX=> .tup [.agg (Q01.cellsW (X.1) (.all 0) (.all 1) (.all 2)), .bool (X.2)]) (λX=>[⟨false,23,1, .ints .u32 (X.1).A0.Mem⟩,⟨false,73,4, .recs .apiEntry (X.1).C3⟩,⟨false,47,3, .recs .apiEvent (X.1).A2⟩])
theorem Z07:Q05 Tryz.prog Z2w:=Q0k Q0i Q0j (.cons Qw4 (.cons Z3t (.nil))) Tryz.func19 Tryz.call19 (λargs rows=>Q96 (Q01.of (args.getD 0 .dead).cells) (Q08.of (args.getD 1 .dead).cells)) [.row 23 1 (.ints .u32), .row 73 4 (.recs .apiEntry), .row 47 3 (.recs .apiEvent)] [] 2 (λ_ _ _=>by kernel_rfl) (λ_ _=>rfl) (λ_ _ h=>h) (λ_ X=>by kernel_rfl)
def Qfe(n:Int):Tree Q08:=
.lv (Qbw n 2) λ(x0:Int)=> .br (Int.tmod x0 (7:Int)==(0:Int)) (.lf ({B7:=2,N:=0,C7:=[]})) (.br (Int.tmod x0 (7:Int)==(1:Int)) (.lf ({B7:=3,N:=wrap u32 (iand i64 (ishr i64 x0 8) 255),C7:=[]})) (.br (Int.tmod x0 (7:Int)==(2:Int)) (.lf ({B7:=3,N:=wrap u32 (iand i64 (ishr i64 x0 8) 255),C7:=[]})) (.br (Int.tmod x0 (7:Int)==(3:Int)) (.lf ({B7:=4,N:=1,C7:=[]})) (.br (Int.tmod x0 (7:Int)==(4:Int)) (.an (Qaj x0 128) (.lv (Z0e x0 128) λ(x1:List UInt8)=> .lf ({B7:=4,N:=1,C7:=x1}))) (.br (Int.tmod x0 (7:Int)==(5:Int)) (let E1:=wrap i64 (1+Int.tmod (ishr i64 x0 8) 40); .an (Qaj x0 E1) (.lv (Z0e x0 E1) λ(x2:List UInt8)=> .lf ({B7:=5,N:=0,C7:=x2}))) (.br (Int.tmod (ishr i64 x0 8) (4:Int)==(0:Int)) (.lf ({B7:=4,N:=0,C7:=[]})) (.lf ({B7:=6,N:=wrap u32 (Int.tmod (ishr i64 x0 8) 3),C7:=[]}))))))))
def Qk(n:Int):Q08:=(Qfe n).m
abbrev Qpf(n:Int):Prop:=(Qfe n).p
def Zc0:Q0c:=mkP 17 [] true [.one (.int .i64)] [] (λargs rows=>Qpf (argI args 0)) (λargs rows=>Qk (argI args 0)) (λX=> .agg (Q08.cells X)) (λX=>[])
theorem Z7k:Q05 Tryz.prog Zc0:=Q0k Q0i Q0j (.cons Qlv (.cons Zc1 (.nil))) Tryz.func17 Tryz.call17 (λargs rows=>Qfe (argI args 0)) [] [] 2 (λ_ _ _=>by kernel_rfl) (λ_ _=>rfl) (λ_ _ h=>h) (λ_ X=>by kernel_rfl)
def Qnc(m:(List Int)):Tree Int:=
.br (Int.tmod (m.length:Int) (32:Int) !=(0:Int)) (.lf 0) (.br (decide ((m.length:Int)>(1024:Int))) (.lf 0) (.lf (wrap i64 (Int.tdiv (m.length:Int) 32))))
def Q48(m:(List Int)):Int:=(Qnc m).m
def Zcj:Q0c:=mkR 65 [] true [.one (.ints .u32)] [] (λargs rows=>Q48 (argL .u32 args 0)) (λX=> .int .i64 X) (λX=>[])
theorem Qd8:Q05 Tryz.prog Zcj:=Q0x Q0i Q0j (.nil) Tryz.func65 Tryz.call65 (λargs rows=>Qnc (argL .u32 args 0)) [] [] 2 (λ_ _ _=>by kernel_rfl) (λ_ _=>rfl) (λ_ _=>Tree.free_ok (by kernel_rfl)) (λ_ X=>by kernel_rfl)
def Qkt(c:Q0b):Tree Bool:=
.lf (decide ((c.D1.length:Int)≤(16:Int)))
def Qj0(c:Q0b):Bool:=(Qkt c).m
def Qub:Q0c:=mkR 66 [] true [.agg Q0b.sig] [] (λargs rows=>Qj0 (Q0b.of (args.getD 0 .dead).cells)) (λX=> .bool X) (λX=>[])
theorem Qtb:Q05 Tryz.prog Qub:=Q0x Q0i Q0j (.nil) Tryz.func66 Tryz.call66 (λargs rows=>Qkt (Q0b.of (args.getD 0 .dead).cells)) [] [] 2 (λ_ _ _=>by kernel_rfl) (λ_ _=>rfl) (λ_ _=>Tree.free_ok (by kernel_rfl)) (λ_ X=>by kernel_rfl)
def Qix(t:Q0f):Tree Bool:=
.br t.D3 (.br t.D5 (.lf false) (.br t.D3 (.lf (t.C8 !=0)) (.br t.D5 (.lf true) (.lf (t.C8==0))))) (.br t.D3 (.lf (t.C8 !=0)) (.br t.D5 (.lf true) (.lf (t.C8==0))))
def Qcv(t:Q0f):Bool:=(Qix t).m
def Z0o:Q0c:=mkR 67 [] true [.agg Q0f.sig] [] (λargs rows=>Qcv (Q0f.of (args.getD 0 .dead).cells)) (λX=> .bool X) (λX=>[])
theorem Qx6:Q05 Tryz.prog Z0o:=Q0x Q0i Q0j (.nil) Tryz.func67 Tryz.call67 (λargs rows=>Qix (Q0f.of (args.getD 0 .dead).cells)) [] [] 2 (λ_ _ _=>by kernel_rfl) (λ_ _=>rfl) (λ_ _=>Tree.free_ok (by kernel_rfl)) (λ_ X=>by kernel_rfl)
def Qjn(d0:Q0e)(pages:Int):Tree Bool:=
.br (decide (d0.Blocks>64)) (.lf false) (.br (decide (d0.C1<0)) (.lf false) (.br (decide (d0.C1>3)) (.lf false) (.br (d0.C1 !=1) (.br (d0.D7==0) (.br (d0.B6==0) (.br (d0.B3==0) (.lf (decide (d0.C4=[]))) (.lf false)) (.lf false)) (.lf false)) (.br (decide (d0.B6≥d0.Blocks)) (.lf false) (.br (decide (wrap i64 d0.B3≥pages)) (.lf false) (.br (d0.D7==1) (.br (decide (d0.C4=[])) (.lf true) (.br (d0.D7==2) (.lf ((d0.C4.length:Int)==(128:Int))) (.lf false))) (.br (d0.D7==2) (.lf ((d0.C4.length:Int)==(128:Int))) (.lf false))))))))
def Qff(d0:Q0e)(pages:Int):Bool:=(Qjn d0 pages).m
def Z36:Q0c:=mkR 68 [] true [.agg Q0e.sig, .one (.int .i64)] [] (λargs rows=>Qff (Q0e.of (args.getD 0 .dead).cells) (argI args 1)) (λX=> .bool X) (λX=>[])
theorem Z1l:Q05 Tryz.prog Z36:=Q0x Q0i Q0j (.nil) Tryz.func68 Tryz.call68 (λargs rows=>Qjn (Q0e.of (args.getD 0 .dead).cells) (argI args 1)) [] [] 2 (λ_ _ _=>by kernel_rfl) (λ_ _=>rfl) (λ_ _=>Tree.free_ok (by kernel_rfl)) (λ_ X=>by kernel_rfl)
def Qle(n:Q0n)(pages:Int):Tree Bool:=
let T1:Tree (Bool):= .br n.B8 (.br (decide (n.F1≥1)) (.lf (decide (n.F1≤128))) (.lf false)) (.lf (n.F1==0)); .br n.C6 (.br n.B8 (.lf false) (.br (decide (wrap i64 n.C0≥pages)) (.lf false) (.br (!n.C6) (.br (n.C0 !=0) (.lf false) T1) T1))) (.br (!n.C6) (.br (n.C0 !=0) (.lf false) T1) T1)
def Qil(n:Q0n)(pages:Int):Bool:=(Qle n pages).m
def Z8p:Q0c:=mkR 69 [] true [.agg Q0n.sig, .one (.int .i64)] [] (λargs rows=>Qil (Q0n.of (args.getD 0 .dead).cells) (argI args 1)) (λX=> .bool X) (λX=>[])
theorem Z4:Q05 Tryz.prog Z8p:=Q0x Q0i Q0j (.nil) Tryz.func69 Tryz.call69 (λargs rows=>Qle (Q0n.of (args.getD 0 .dead).cells) (argI args 1)) [] [] 2 (λ_ _ _=>by kernel_rfl) (λ_ _=>rfl) (λ_ _=>Tree.free_ok (by kernel_rfl)) (λ_ X=>by kernel_rfl)
def Qgl(b:Q06)(pages:Int)(z:(Int)):Prop:=0≤z∧z≤32
def Q6x(b:Q06)(pages:Int)(z:(Int)):Nat:=(32-z).toNat
def Q5s(b:Q06)(pages:Int):Tree Bool:=
.lp inferInstance (Q6x b pages 0+1) ((rE (pages:Int)∧(rE (0:Nat)∧rE (0:Nat))∧rE (0:Int)∧True)∧(rE b.C9∧rE b.C2∧True)∧True) 0 λ(v0:Int)=> .br (decide (v0<32)) (.cn (decide (0≤wrap u64 v0)) (let T1:Tree ((Int)⊕(Bool)):= .nx ((rE (pages:Int)∧(rE (0:Nat)∧rE (0:Nat))∧rE ((wrap i64 (v0+1)):Int)∧True)∧(rE b.C9∧rE b.C2∧True)∧True) (Sum.inl (wrap i64 (v0+1))); .br (iand u32 (ishr u32 b.C2 (wrap u64 v0)) (1:Int)==(1:Int)) (.br (decide (v0≥pages)) (.lf (Sum.inr false)) T1) T1)) (.lf (Sum.inr true))
def Qa2(b:Q06)(pages:Int):Bool:=(Q5s b pages).m
theorem Qq9(b:Q06)(pages:Int):(Q5s b pages).p:=by
 unfold Tree.p Q5s
 repeat'(first|refine w_lp (inv:=Qgl b pages) (μ:=Q6x b pages) ?_ (Nat.lt_succ_self _) (λ_ _=> ?_)|exact trivial|refine w_br (λ_=> ?_) (λ_=> ?_)|refine w_cn ?_ ?_|refine w_an ?_ ?_|refine w_lv (λ_ _=> ?_)|refine w_nx ?_|refine w_lf ?_|refine And.intro ?_ ?_)
 all_goals((try simp only[Qgl,Q6x]at*);((subst_vars;first|trivial|assumption|omega|((simp(config:={decide:=true,failIfUnchanged:=false}) only[Bool.and_eq_true,Bool.or_eq_true,Bool.and_eq_false_iff,Bool.or_eq_false_iff,Bool.not_eq_true',Bool.not_eq_false',Bool.not_eq_true,Bool.not_eq_false,decide_eq_true_eq,decide_eq_false_iff_not,Q6b,Q4,Q67,Q40,beq_iff_eq,beq_eq_false_iff_ne,bne_iff_ne,bne_eq_false_iff_eq,ne_eq,List.all_cons,List.all_nil,D.plain,List.length_cons,List.length_nil,List.length_append,List.length_set,List.length_replicate,IntKind.wrap_i64,IntKind.wrap_u64,IntKind.wrap_u32,IntKind.wrap_i32,IntKind.wrap_u8,true_and,and_true,or_false,false_or,or_true,true_or,not_true_eq_false,not_false_eq_true,Prod.fst,Prod.snd]at*);first|done|assumption|omega)|((simp(config:={decide:=true,failIfUnchanged:=false}) only[Bool.and_eq_true,Bool.or_eq_true,Bool.and_eq_false_iff,Bool.or_eq_false_iff,Bool.not_eq_true',Bool.not_eq_false',Bool.not_eq_true,Bool.not_eq_false,decide_eq_true_eq,decide_eq_false_iff_not,Q6b,Q4,Q67,Q40,beq_iff_eq,beq_eq_false_iff_ne,bne_iff_ne,bne_eq_false_iff_eq,ne_eq,List.all_cons,List.all_nil,D.plain,List.length_cons,List.length_nil,List.length_append,List.length_set,List.length_replicate,IntKind.wrap_i64,IntKind.wrap_u64,IntKind.wrap_u32,IntKind.wrap_i32,IntKind.wrap_u8,true_and,and_true,or_false,false_or,or_true,true_or,not_true_eq_false,not_false_eq_true,Prod.fst,Prod.snd]at*);simp only[←List.length_pos_iff]at*;omega)|(simp_all;done)|(have:= @Qhy;simp_all;try omega))))
def Qtd:LInv:={
 α:=(Int)
 F:=λst a=>([(1,(lk st 1)),(2, .ptr 0 0 0),(5, .int i64 a)],[⟨true,38,2, .gen [[(cT st 2 0),(cT st 2 1)]]⟩])
 a0:=λst=>(lk st 5).toInt
 ex0:=λst=>[]++[(Q0o (lk st 2) (st.rows.length+0))]
 next:=λst=>(lk st 5).toInt
 ex:=λst=>[]++[(Q0o (lk st 2) (st.rows.length+0))]}
def Qp7:List (Nat×LInv):=[(2,Qtd)]
def Qva:Q0c:=mkR 70 [] true [.agg Q06.sig, .one (.int .i64)] [] (λargs rows=>Qa2 (Q06.of (args.getD 0 .dead).cells) (argI args 1)) (λX=> .bool X) (λX=>[])
theorem Qsw:Q05 Tryz.prog Qva:=Q0x Q0i Q0j (.nil) Tryz.func70 Tryz.call70 (λargs rows=>Q5s (Q06.of (args.getD 0 .dead).cells) (argI args 1)) [] Qp7 3 (λ_ _ _=>by kernel_rfl) (λ_ _=>rfl) (λargs rows=>Qq9 (Q06.of (args.getD 0 .dead).cells) (argI args 1)) (λ_ X=>by kernel_rfl)
def Qv6(m:Q00):Tree Bool:=
.lv (Q48 m.Mem) λ(x0:Int)=> .br (decide (x0<1)) (.lf false) (.br (m.B2.X.a0 !=0) (.lf false) (.br (decide (m.B2.B5.a0>31)) (.lf false) (.br (decide (m.B2.B5.a7>31)) (.lf false) (.br (decide (m.B2.B5.a6>255)) (.lf false) (.br (Int.tmod m.B2.B5.a1 (4:Int) !=(0:Int)) (.lf false) (.lv (Qj0 m.A3) λ(x1:Bool)=> .br (!x1) (.lf false) (.lv (Qcv m.B0) λ(x2:Bool)=> .br (!x2) (.lf false) (.lv (Qff m.B1 x0) λ(x3:Bool)=> .br (!x3) (.lf false) (.lv (Qil m.C5 x0) λ(x4:Bool)=> .br (!x4) (.lf false) (.lv (Qa2 m.A1 x0) λ(x5:Bool)=> .br (!x5) (.lf false) (.br (decide (m.A4≤1152921504606846976)) (.br m.A6 (.lf (!m.A7)) (.lf true)) (.lf false))))))))))))
def Q7p(m:Q00):Bool:=(Qv6 m).m
def Zko:Q0c:=mkR 32 [] true [.agg Q00.sig] [] (λargs rows=>Q7p (Q00.of (args.getD 0 .dead).cells)) (λX=> .bool X) (λX=>[])
theorem Qqw:Q05 Tryz.prog Zko:=Q0x Q0i Q0j (.cons Qd8 (.cons Qtb (.cons Qx6 (.cons Z1l (.cons Z4 (.cons Qsw (.nil))))))) Tryz.func32 Tryz.call32 (λargs rows=>Qv6 (Q00.of (args.getD 0 .dead).cells)) [] [] 2 (λ_ _ _=>by kernel_rfl) (λ_ _=>rfl) (λ_ _=>Tree.free_ok (by kernel_rfl)) (λ_ X=>by kernel_rfl)
def Qeg(t:Q0f):Tree (Q0f×Bool):=
.br (!t.D3) (.lf (t,false)) (.lf ({D3:=false,C8:=t.C8,D5:=true},true))
def Qbu(t:Q0f):(Q0f×Bool):=(Qeg t).m
def Zeh:Q0c:=mkR 107 [] true [.agg Q0f.sig] [] (λargs rows=>Qbu (Q0f.of (args.getD 0 .dead).cells)) (λX=> .tup [.agg (Q0f.cells (X.1)), .bool (X.2)]) (λX=>[])
theorem Qwh:Q05 Tryz.prog Zeh:=Q0x Q0i Q0j (.nil) Tryz.func107 Tryz.call107 (λargs rows=>Qeg (Q0f.of (args.getD 0 .dead).cells)) [] [] 2 (λ_ _ _=>by kernel_rfl) (λ_ _=>rfl) (λ_ _=>Tree.free_ok (by kernel_rfl)) (λ_ X=>by kernel_rfl)
def Qcb(c:Q0b)(b:Int):Tree (Q0b×Bool):=
.br (decide ((c.D1.length:Int)≥(16:Int))) (.lf (c,false)) (.cn (decide (c.D1.length+1≤maxLen)) (.lf ({D1:=c.D1++[(λ(n:Int)=>UInt8.ofNat n.toNat) b]},true)))
def Qk5(c:Q0b)(b:Int):(Q0b×Bool):=(Qcb c b).m
abbrev Qlf(c:Q0b)(b:Int):Prop:=(Qcb c b).p
def Zgf:Q0c:=mkP 108 [] true [.agg Q0b.sig, .one (.int .u8)] [] (λargs rows=>Qlf (Q0b.of (args.getD 0 .dead).cells) (argI args 1)) (λargs rows=>Qk5 (Q0b.of (args.getD 0 .dead).cells) (argI args 1)) (λX=> .tup [.agg (Q0b.cells (X.1)), .bool (X.2)]) (λX=>[])
theorem Qw2:Q05 Tryz.prog Zgf:=Q0k Q0i Q0j (.nil) Tryz.func108 Tryz.call108 (λargs rows=>Qcb (Q0b.of (args.getD 0 .dead).cells) (argI args 1)) [] [] 2 (λ_ _ _=>by kernel_rfl) (λ_ _=>rfl) (λ_ _ h=>h) (λ_ X=>by kernel_rfl)
def Qit(m:(List Int))(frame:Int):Tree Bool:=
.lv (Q48 m) λ(x0:Int)=> .lf (decide (wrap u64 frame<wrap u64 x0))
def Q24(m:(List Int))(frame:Int):Bool:=(Qit m frame).m
def Zgp:Q0c:=mkR 162 [] true [.one (.ints .u32), .one (.int .u32)] [] (λargs rows=>Q24 (argL .u32 args 0) (argI args 1)) (λX=> .bool X) (λX=>[])
theorem Qf5:Q05 Tryz.prog Zgp:=Q0x Q0i Q0j (.cons Qd8 (.nil)) Tryz.func162 Tryz.call162 (λargs rows=>Qit (argL .u32 args 0) (argI args 1)) [] [] 2 (λ_ _ _=>by kernel_rfl) (λ_ _=>rfl) (λ_ _=>Tree.free_ok (by kernel_rfl)) (λ_ X=>by kernel_rfl)
def Qeq(m:(List Int))(addr:Int)(size:Int)(v:Int):Tree (List Int):=
let E1:=Nat.beq 1 1&&Nat.blt 0 1&&decide (0≤wrap u32 (Int.tdiv addr 4)∧wrap u32 (Int.tdiv addr 4)<(m.length:Int));let E2:=Int.toNat (wrap u32 (Int.tdiv addr 4)); .br (size==4) (.cn E1 (.lf (List.set m E2 v))) (.cn E1 (let E3:=decide (0≤wrap u32 (8*Int.tmod addr 4)); .cn E3 (.cn E3 (.cn E1 (.lf (List.set m E2 (ior u32 (Qgn u32 (m.getD E2 0) (ishl u32 255 (wrap u32 (8*Int.tmod addr 4)))) (ishl u32 (iand u32 v 255) (wrap u32 (8*Int.tmod addr 4))))))))))
def Qag(m:(List Int))(addr:Int)(size:Int)(v:Int):(List Int):=(Qeq m addr size v).m
abbrev Qft(m:(List Int))(addr:Int)(size:Int)(v:Int):Prop:=(Qeq m addr size v).p
def Zk3:Q0c:=mkP 207 [true,false,false,false] true [.one (.row 0), .one (.int .u32), .one (.int .i64), .one (.int .u32)] [.arr 23 1 (.ints .u32)] (λargs rows=>Qft (rowL .u32 rows 0) (argI args 1) (argI args 2) (argI args 3)) (λargs rows=>Qag (rowL .u32 rows 0) (argI args 1) (argI args 2) (argI args 3)) (λX=> .tup []) (λX=>[⟨false,23,1, .ints .u32 X⟩])
theorem Qzn:Q05 Tryz.prog Zk3:=Q0k Q0i Q0j (.nil) Tryz.func207 Tryz.call207 (λargs rows=>Qeq (rowL .u32 rows 0) (argI args 1) (argI args 2) (argI args 3)) [] [] 2 (λ_ _ _=>by kernel_rfl) (λ_ _=>rfl) (λ_ _ h=>h) (λ_ X=>by kernel_rfl)
def Qj2(m:(List Int))(frame:Int)(s:(List UInt8))(z:(Int)×(List Int)):Nat:=(128-z.1).toNat
def Q9q(m:(List Int))(frame:Int)(s:(List UInt8)):Tree (List Int):=
.lp inferInstance (Qj2 m frame s (0,m)+1) ((True∧rE (frame:Int)∧rE (s:List UInt8)∧rE (0:Int)∧True)∧rE (m:List Int)∧True) (0,m) λ(v0:Int×List Int)=> .br (decide (v0.1<(s.length:Int))) (.br (decide (v0.1<128)) (.cn (decide (0≤v0.1∧v0.1<(s.length:Int))) (let E1:=wrap u32 (↑(UInt8.toNat (s.getD v0.1.toNat (0:UInt8))):Int);let E2:=wrap u32 (wrap i64 (wrap i64 (frame*128)+v0.1)); .an (Qft v0.2 E2 1 E1) (.lv (Qag v0.2 E2 1 E1) λ(x0:List Int)=> .nx ((True∧rE (frame:Int)∧rE (s:List UInt8)∧rE ((wrap i64 (v0.1+1)):Int)∧True)∧rE (x0:List Int)∧True) (Sum.inl (wrap i64 (v0.1+1),x0))))) (.lf (Sum.inr v0.2))) (.lf (Sum.inr v0.2))
def Qkr(m:(List Int))(frame:Int)(s:(List UInt8)):(List Int):=(Q9q m frame s).m
abbrev Qln(m:(List Int))(frame:Int)(s:(List UInt8)):Prop:=(Q9q m frame s).p
def Zbb:LInv:={
 α:=(Int)×(List Int)
 F:=λst a=>([(0, .all 0),(1,(lk st 1)),(2,(lk st 2)),(6, .int i64 a.1)],[⟨false,23,1, .ints u32 a.2⟩])
 a0:=λst=>((lk st 6).toInt,(Q5m st.rows 0))
 ex0:=λst=>[0]++[]
 next:=λst=>((lk st 6).toInt,(Q5m st.rows 0))
 ex:=λst=>[0]++[]}
def Z2h:List (Nat×LInv):=[(1,Zbb)]
def Zfh:Q0c:=mkP 163 [true,false,false] true [.one (.row 0), .one (.int .i64), .one (.str)] [.arr 23 1 (.ints .u32)] (λargs rows=>Qln (rowL .u32 rows 0) (argI args 1) (argS args 2)) (λargs rows=>Qkr (rowL .u32 rows 0) (argI args 1) (argS args 2)) (λX=> .tup []) (λX=>[⟨false,23,1, .ints .u32 X⟩])
theorem Qvs:Q05 Tryz.prog Zfh:=Q0k Q0i Q0j (.cons Qzn (.nil)) Tryz.func163 Tryz.call163 (λargs rows=>Q9q (rowL .u32 rows 0) (argI args 1) (argS args 2)) [] Z2h 3 (λ_ _ _=>by kernel_rfl) (λ_ _=>rfl) (λ_ _ h=>h) (λ_ X=>by kernel_rfl)
def Q76(d0:Q0e)(m:(List Int))(e:Q08):Tree (Q0e×Bool×(List Int)):=
.br (d0.C1 !=1) (.lf (d0,false,m)) (.br (e.B7 !=4) (.lf (d0,false,m)) (.br (decide (e.N>1)) (.lf (d0,false,m)) (let E4:=({Blocks:=d0.Blocks,B9:=d0.B9,B4:=d0.B4,C1:=2,D7:=0,B6:=0,B3:=0,C4:=[]}:Q0e);let E5:=({Blocks:=d0.Blocks,B9:=d0.B9,B4:=d0.B4,C1:=3,D7:=0,B6:=0,B3:=0,C4:=[]}:Q0e);let T2:Tree ((Q0e×Bool×(List Int))):= .br (e.N==1) (.lf (E4,true,m)) (.lf (E5,true,m));let E6:=decide ((e.C7.length:Int)>(0:Int)); .br (e.N==1) (let T1:Tree ((Q0e×Bool×(List Int))):= .br (d0.D7==1) (.an (Qln m (wrap i64 d0.B3) e.C7) (.lv (Qkr m (wrap i64 d0.B3) e.C7) λ(x1:List Int)=> .br (e.N==1) (.lf (E4,true,x1)) (.lf (E5,true,x1)))) T2;let T3:Tree ((Q0e×Bool×(List Int))):= .br (!d0.D7==1) (.br E6 (.lf (d0,false,m)) T1) T1; .br (d0.D7==1) (.br ((e.C7.length:Int) !=(128:Int)) (.lf (d0,false,m)) (.lv (Q24 m d0.B3) λ(x0:Bool)=> .br (!x0) (.lf (d0,false,m)) T3)) T3) (.br E6 (.lf (d0,false,m)) T2))))
def Q8f(d0:Q0e)(m:(List Int))(e:Q08):(Q0e×Bool×(List Int)):=(Q76 d0 m e).m
abbrev Qhd(d0:Q0e)(m:(List Int))(e:Q08):Prop:=(Q76 d0 m e).p
def Z93:Q0c:=mkP 109 [false,true,false] true [.agg Q0e.sig, .one (.row 0), .agg Q08.sig] [.arr 23 1 (.ints .u32)] (λargs rows=>Qhd (Q0e.of (args.getD 0 .dead).cells) (rowL .u32 rows 0) (Q08.of (args.getD 2 .dead).cells)) (λargs rows=>Q8f (Q0e.of (args.getD 0 .dead).cells) (rowL .u32 rows 0) (Q08.of (args.getD 2 .dead).cells)) (λX=> .tup [.agg (Q0e.cells (X.1)), .bool (X.2.1)]) (λX=>[⟨false,23,1, .ints .u32 (X.2.2)⟩])
theorem Qpx:Q05 Tryz.prog Z93:=Q0k Q0i Q0j (.cons Qf5 (.cons Qvs (.nil))) Tryz.func109 Tryz.call109 (λargs rows=>Q76 (Q0e.of (args.getD 0 .dead).cells) (rowL .u32 rows 0) (Q08.of (args.getD 2 .dead).cells)) [] [] 2 (λ_ _ _=>by kernel_rfl) (λ_ _=>rfl) (λ_ _ h=>h) (λ_ X=>by kernel_rfl)
def Q75(n:Q0n)(m:(List Int))(frame:(List UInt8)):Tree (Q0n×Bool×(List Int)):=
.br (!n.C6) (.lf (n,false,m)) (.br (decide ((frame.length:Int)<(1:Int))) (.lf (n,false,m)) (.br (decide ((frame.length:Int)>(128:Int))) (.lf (n,false,m)) (.lv (Q24 m n.C0) λ(x0:Bool)=> .br (!x0) (.lf (n,false,m)) (.an (Qln m (wrap i64 n.C0) frame) (.lv (Qkr m (wrap i64 n.C0) frame) λ(x1:List Int)=> .lf ({B4:=n.B4,E0:=n.E0,C6:=false,C0:=0,B8:=true,F1:=wrap u32 (frame.length:Int)},true,x1))))))
def Q8e(n:Q0n)(m:(List Int))(frame:(List UInt8)):(Q0n×Bool×(List Int)):=(Q75 n m frame).m
abbrev Qhb(n:Q0n)(m:(List Int))(frame:(List UInt8)):Prop:=(Q75 n m frame).p
def Z7p:Q0c:=mkP 110 [false,true,false] true [.agg Q0n.sig, .one (.row 0), .one (.str)] [.arr 23 1 (.ints .u32)] (λargs rows=>Qhb (Q0n.of (args.getD 0 .dead).cells) (rowL .u32 rows 0) (argS args 2)) (λargs rows=>Q8e (Q0n.of (args.getD 0 .dead).cells) (rowL .u32 rows 0) (argS args 2)) (λX=> .tup [.agg (Q0n.cells (X.1)), .bool (X.2.1)]) (λX=>[⟨false,23,1, .ints .u32 (X.2.2)⟩])
theorem Qpa:Q05 Tryz.prog Z7p:=Q0k Q0i Q0j (.cons Qf5 (.cons Qvs (.nil))) Tryz.func110 Tryz.call110 (λargs rows=>Q75 (Q0n.of (args.getD 0 .dead).cells) (rowL .u32 rows 0) (argS args 2)) [] [] 2 (λ_ _ _=>by kernel_rfl) (λ_ _=>rfl) (λ_ _ h=>h) (λ_ X=>by kernel_rfl)
def Q6s(m:Q00)(e:Q08):Tree (Bool×Q00):=
.br m.A7 (.lf (false,m)) (let T1:Tree ((Bool×Q00)):= .br (e.B7==4) (.an (Qhd m.B1 m.Mem e) (.lv (Q8f m.B1 m.Mem e) λ(x2:Q0e×Bool×List Int)=> .lf (x2.2.1,{B2:=m.B2,Mem:=x2.2.2,A3:=m.A3,B0:=m.B0,B1:=x2.1,C5:=m.C5,A1:=m.A1,A4:=m.A4,A6:=m.A6,A7:=m.A7}))) (let T3:Tree ((Bool×Q00)):= .br (e.B7==6) (.br (decide (e.C7=[])) (.lf (true,{B2:=m.B2,Mem:=m.Mem,A3:=m.A3,B0:=m.B0,B1:=m.B1,C5:=m.C5,A1:={C9:=e.N,C2:=m.A1.C2},A4:=m.A4,A6:=m.A6,A7:=m.A7})) (.lf (false,m))) (.lf (false,m)); .br (e.B7==5) (.br (e.N==0) (.an (Qhb m.C5 m.Mem e.C7) (.lv (Q8e m.C5 m.Mem e.C7) λ(x3:Q0n×Bool×List Int)=> .lf (x3.2.1,{B2:=m.B2,Mem:=x3.2.2,A3:=m.A3,B0:=m.B0,B1:=m.B1,C5:=x3.1,A1:=m.A1,A4:=m.A4,A6:=m.A6,A7:=m.A7}))) T3) T3);let T2:Tree ((Bool×Q00)):= .br (e.B7==3) (.br (decide (e.N≤255)) (.br (decide (e.C7=[])) (.an (Qlf m.A3 (wrap u8 e.N)) (.lv (Qk5 m.A3 (wrap u8 e.N)) λ(x1:Q0b×Bool)=> .lf (x1.2,{B2:=m.B2,Mem:=m.Mem,A3:=x1.1,B0:=m.B0,B1:=m.B1,C5:=m.C5,A1:=m.A1,A4:=m.A4,A6:=m.A6,A7:=m.A7}))) T1) T1) T1; .br (e.B7==2) (.br (e.N==0) (.br (decide (e.C7=[])) (.lv (Qbu m.B0) λ(x0:Q0f×Bool)=> .lf (x0.2,{B2:=m.B2,Mem:=m.Mem,A3:=m.A3,B0:=x0.1,B1:=m.B1,C5:=m.C5,A1:=m.A1,A4:=m.A4,A6:=m.A6,A7:=m.A7})) T2) T2) T2)
def Q13(m:Q00)(e:Q08):(Bool×Q00):=(Q6s m e).m
abbrev Qpj(m:Q00)(e:Q08):Prop:=(Q6s m e).p
def Zbg:Q0c:=mkP 73 [true,false] true [.ptr 0, .agg Q08.sig] [.box 41 49 (Q00.sigW (.row 1)), .arr 23 1 (.ints .u32)] (λargs rows=>Qpj (Q00.ofW (rows.getD 0 default).cs (rowL .u32 rows 1)) (Q08.of (args.getD 1 .dead).cells)) (λargs rows=>Q13 (Q00.ofW (rows.getD 0 default).cs (rowL .u32 rows 1)) (Q08.of (args.getD 1 .dead).cells)) (λX=> .bool (X.1)) (λX=>[⟨true,41,49, .gen [(Q00.cellsW (X.2) (.all 1))]⟩,⟨false,23,1, .ints .u32 (X.2).Mem⟩])
theorem Z6z:Q05 Tryz.prog Zbg:=Q0k Q0i Q0j (.cons Qwh (.cons Qw2 (.cons Qpx (.cons Qpa (.nil))))) Tryz.func73 Tryz.call73 (λargs rows=>Q6s (Q00.ofW (rows.getD 0 default).cs (rowL .u32 rows 1)) (Q08.of (args.getD 1 .dead).cells)) [.row 23 1 (.ints .u32)] [] 2 (λ_ _ _=>by kernel_rfl) (λ_ _=>rfl) (λ_ _ h=>h) (λ_ X=>by kernel_rfl)
def Q93(m:Q01)(e:Q08):Tree (Bool×Q01):=
.br m.A0.A7 (.lf (false,m)) (let T1:Tree ((Bool×Q01)):= .br (e.B7==4) (.an (Qhd m.A0.B1 m.A0.Mem e) (.lv (Q8f m.A0.B1 m.A0.Mem e) λ(x2:Q0e×Bool×List Int)=> .lf (x2.2.1,{A0:={B2:=m.A0.B2,Mem:=x2.2.2,A3:=m.A0.A3,B0:=m.A0.B0,B1:=x2.1,C5:=m.A0.C5,A1:=m.A0.A1,A4:=m.A0.A4,A6:=m.A0.A6,A7:=m.A0.A7},A9:=m.A9,C3:=m.C3,A2:=m.A2}))) (let T3:Tree ((Bool×Q01)):= .br (e.B7==6) (.br (decide (e.C7=[])) (.lf (true,{A0:={B2:=m.A0.B2,Mem:=m.A0.Mem,A3:=m.A0.A3,B0:=m.A0.B0,B1:=m.A0.B1,C5:=m.A0.C5,A1:={C9:=e.N,C2:=m.A0.A1.C2},A4:=m.A0.A4,A6:=m.A0.A6,A7:=m.A0.A7},A9:=m.A9,C3:=m.C3,A2:=m.A2})) (.lf (false,m))) (.lf (false,m)); .br (e.B7==5) (.br (e.N==0) (.an (Qhb m.A0.C5 m.A0.Mem e.C7) (.lv (Q8e m.A0.C5 m.A0.Mem e.C7) λ(x3:Q0n×Bool×List Int)=> .lf (x3.2.1,{A0:={B2:=m.A0.B2,Mem:=x3.2.2,A3:=m.A0.A3,B0:=m.A0.B0,B1:=m.A0.B1,C5:=x3.1,A1:=m.A0.A1,A4:=m.A0.A4,A6:=m.A0.A6,A7:=m.A0.A7},A9:=m.A9,C3:=m.C3,A2:=m.A2}))) T3) T3);let T2:Tree ((Bool×Q01)):= .br (e.B7==3) (.br (decide (e.N≤255)) (.br (decide (e.C7=[])) (.an (Qlf m.A0.A3 (wrap u8 e.N)) (.lv (Qk5 m.A0.A3 (wrap u8 e.N)) λ(x1:Q0b×Bool)=> .lf (x1.2,{A0:={B2:=m.A0.B2,Mem:=m.A0.Mem,A3:=x1.1,B0:=m.A0.B0,B1:=m.A0.B1,C5:=m.A0.C5,A1:=m.A0.A1,A4:=m.A0.A4,A6:=m.A0.A6,A7:=m.A0.A7},A9:=m.A9,C3:=m.C3,A2:=m.A2}))) T1) T1) T1; .br (e.B7==2) (.br (e.N==0) (.br (decide (e.C7=[])) (.lv (Qbu m.A0.B0) λ(x0:Q0f×Bool)=> .lf (x0.2,{A0:={B2:=m.A0.B2,Mem:=m.A0.Mem,A3:=m.A0.A3,B0:=x0.1,B1:=m.A0.B1,C5:=m.A0.C5,A1:=m.A0.A1,A4:=m.A0.A4,A6:=m.A0.A6,A7:=m.A0.A7},A9:=m.A9,C3:=m.C3,A2:=m.A2})) T2) T2) T2)
def Qjk(m:Q01)(e:Q08):(Bool×Q01):=(Q93 m e).m
abbrev Qmb(m:Q01)(e:Q08):Prop:=(Q93 m e).p
def Z3k:Q0c:=mkP 73 [true,false] true [.ptr 0, .agg Q08.sig] [.box 45 52 (Q01.sigW (.row 1) (.row 2) (.row 3)), .arr 23 1 (.ints .u32), .arr 73 4 (.recs .apiEntry), .arr 47 3 (.recs .apiEvent)] (λargs rows=>Qmb (Q01.ofW (rows.getD 0 default).cs (rowL .u32 rows 1) (rowR .apiEntry rows 2) (rowR .apiEvent rows 3)) (Q08.of (args.getD 1 .dead).cells)) (λargs rows=>Qjk (Q01.ofW (rows.getD 0 default).cs (rowL .u32 rows 1) (rowR .apiEntry rows 2) (rowR .apiEvent rows 3)) (Q08.of (args.getD 1 .dead).cells)) (λX=> .bool (X.1)) (λX=>[⟨true,45,52, .gen [(Q01.cellsW (X.2) (.all 1) (.all 2) (.all 3))]⟩,⟨false,23,1, .ints .u32 (X.2).A0.Mem⟩,⟨false,73,4, .recs .apiEntry (X.2).C3⟩,⟨false,47,3, .recs .apiEvent (X.2).A2⟩])
theorem Z1j:Q05 Tryz.prog Z3k:=Q0k Q0i Q0j (.cons Qwh (.cons Qw2 (.cons Qpx (.cons Qpa (.nil))))) Tryz.func73 Tryz.call73 (λargs rows=>Q93 (Q01.ofW (rows.getD 0 default).cs (rowL .u32 rows 1) (rowR .apiEntry rows 2) (rowR .apiEvent rows 3)) (Q08.of (args.getD 1 .dead).cells)) [.row 23 1 (.ints .u32), .row 73 4 (.recs .apiEntry), .row 47 3 (.recs .apiEvent)] [] 2 (λ_ _ _=>by kernel_rfl) (λ_ _=>rfl) (λ_ _ h=>h) (λ_ X=>by kernel_rfl)
def Q84(m:Q01)(e:Q08):Tree (Bool×Q01):=
.an (Qmb m e) (.lv (Qjk m e) λ(x0:Bool×Q01)=> .lf (x0.1,x0.2))
def Qh1(m:Q01)(e:Q08):(Bool×Q01):=(Q84 m e).m
abbrev Qkz(m:Q01)(e:Q08):Prop:=(Q84 m e).p
def Z1u:Q0c:=mkP 101 [true,false] true [.ptr 0, .agg Q08.sig] [.box 45 52 (Q01.sigW (.row 1) (.row 2) (.row 3)), .arr 23 1 (.ints .u32), .arr 73 4 (.recs .apiEntry), .arr 47 3 (.recs .apiEvent)] (λargs rows=>Qkz (Q01.ofW (rows.getD 0 default).cs (rowL .u32 rows 1) (rowR .apiEntry rows 2) (rowR .apiEvent rows 3)) (Q08.of (args.getD 1 .dead).cells)) (λargs rows=>Qh1 (Q01.ofW (rows.getD 0 default).cs (rowL .u32 rows 1) (rowR .apiEntry rows 2) (rowR .apiEvent rows 3)) (Q08.of (args.getD 1 .dead).cells)) (λX=> .bool (X.1)) (λX=>[⟨true,45,52, .gen [(Q01.cellsW (X.2) (.all 1) (.all 2) (.all 3))]⟩,⟨false,23,1, .ints .u32 (X.2).A0.Mem⟩,⟨false,73,4, .recs .apiEntry (X.2).C3⟩,⟨false,47,3, .recs .apiEvent (X.2).A2⟩])
theorem Qx3:Q05 Tryz.prog Z1u:=Q0k Q0i Q0j (.cons Z1j (.nil)) Tryz.func101 Tryz.call101 (λargs rows=>Q84 (Q01.ofW (rows.getD 0 default).cs (rowL .u32 rows 1) (rowR .apiEntry rows 2) (rowR .apiEvent rows 3)) (Q08.of (args.getD 1 .dead).cells)) [.row 23 1 (.ints .u32), .row 73 4 (.recs .apiEntry), .row 47 3 (.recs .apiEvent)] [] 2 (λ_ _ _=>by kernel_rfl) (λ_ _=>rfl) (λ_ _ h=>h) (λ_ X=>by kernel_rfl)
def Qas(r:Q01)(e:Q08):Tree Q01:=
.an (Qkz r e) (.lv (Qh1 r e) λ(x0:Bool×Q01)=> .br x0.1 (.cn (decide (40*(x0.2.C3.length+1)≤140737488355328)) (.lf ({A0:=x0.2.A0,A9:=x0.2.A9,C3:=x0.2.C3++[{At:=x0.2.A0.A4,D8:=e}],A2:=x0.2.A2}))) (.lf x0.2))
def Qj1(r:Q01)(e:Q08):Q01:=(Qas r e).m
abbrev Qiy(r:Q01)(e:Q08):Prop:=(Qas r e).p
def Z72:Q0c:=mkKP 1 59 [true,false] [.ptr 0, .agg Q08.sig] [.box 45 52 (Q01.sigW (.row 1) (.row 2) (.row 3)), .arr 23 1 (.ints .u32), .arr 73 4 (.recs .apiEntry), .arr 47 3 (.recs .apiEvent)] (λargs rows=>Qiy (Q01.ofW (rows.getD 0 default).cs (rowL .u32 rows 1) (rowR .apiEntry rows 2) (rowR .apiEvent rows 3)) (Q08.of (args.getD 1 .dead).cells)) (λargs rows=>Qj1 (Q01.ofW (rows.getD 0 default).cs (rowL .u32 rows 1) (rowR .apiEntry rows 2) (rowR .apiEvent rows 3)) (Q08.of (args.getD 1 .dead).cells)) (λX=> .tup []) (λX=>[⟨true,45,52, .gen [(Q01.cellsW X (.all 1) (.all 2) (.all 3))]⟩,⟨false,23,1, .ints .u32 X.A0.Mem⟩,⟨false,73,4, .recs .apiEntry X.C3⟩,⟨false,47,3, .recs .apiEvent X.A2⟩])
theorem Z3r:Q05 Tryz.prog Z72:=Z8t Q0i Q0j (.cons Qx3 (.nil)) Tryz.func59 Tryz.call59 (λargs rows=>Qas (Q01.ofW (rows.getD 0 default).cs (rowL .u32 rows 1) (rowR .apiEntry rows 2) (rowR .apiEvent rows 3)) (Q08.of (args.getD 1 .dead).cells)) [.row 23 1 (.ints .u32), .row 73 4 (.recs .apiEntry), .row 47 3 (.recs .apiEvent)] [] 2 (λ_ _ _=>by kernel_rfl) (λ_ _=>rfl) (λ_ _ h=>h)
def Qif(is:Bool)(n:Int):Tree Int:=
.br is (.cn (decide (0≤wrap u64 n)) (.lf (ishl u32 1 (wrap u64 n)))) (.lf 0)
def Q9t(is:Bool)(n:Int):Int:=(Qif is n).m
abbrev Qau(is:Bool)(n:Int):Prop:=(Qif is n).p
def Zh0:Q0c:=mkP 219 [] true [.one (.bool), .one (.int .i64)] [] (λargs rows=>Qau (argB args 0) (argI args 1)) (λargs rows=>Q9t (argB args 0) (argI args 1)) (λX=> .int .u32 X) (λX=>[])
theorem Zdg:Q05 Tryz.prog Zh0:=Q0k Q0i Q0j (.nil) Tryz.func219 Tryz.call219 (λargs rows=>Qif (argB args 0) (argI args 1)) [] [] 2 (λ_ _ _=>by kernel_rfl) (λ_ _=>rfl) (λ_ _ h=>h) (λ_ X=>by kernel_rfl)
def Qi5(t:Q0f):Tree Bool:=
.lf t.D5
def Qan(t:Q0f):Bool:=(Qi5 t).m
def Qr4:Q0c:=mkR 220 [] true [.agg Q0f.sig] [] (λargs rows=>Qan (Q0f.of (args.getD 0 .dead).cells)) (λX=> .bool X) (λX=>[])
theorem Qp2:Q05 Tryz.prog Qr4:=Q0x Q0i Q0j (.nil) Tryz.func220 Tryz.call220 (λargs rows=>Qi5 (Q0f.of (args.getD 0 .dead).cells)) [] [] 2 (λ_ _ _=>by kernel_rfl) (λ_ _=>rfl) (λ_ _=>Tree.free_ok (by kernel_rfl)) (λ_ X=>by kernel_rfl)
def Qfl(c:Q0b):Tree Bool:=
.lf (decide ((c.D1.length:Int)>(0:Int)))
def Q63(c:Q0b):Bool:=(Qfl c).m
def Qnh:Q0c:=mkR 221 [] true [.agg Q0b.sig] [] (λargs rows=>Q63 (Q0b.of (args.getD 0 .dead).cells)) (λX=> .bool X) (λX=>[])
theorem Qmj:Q05 Tryz.prog Qnh:=Q0x Q0i Q0j (.nil) Tryz.func221 Tryz.call221 (λargs rows=>Qfl (Q0b.of (args.getD 0 .dead).cells)) [] [] 2 (λ_ _ _=>by kernel_rfl) (λ_ _=>rfl) (λ_ _=>Tree.free_ok (by kernel_rfl)) (λ_ X=>by kernel_rfl)
def Qjh(d0:Q0e):Tree Bool:=
.br (d0.C1==2) (.lf true) (.lf (d0.C1==3))
def Qbx(d0:Q0e):Bool:=(Qjh d0).m
def Qsj:Q0c:=mkR 222 [] true [.agg Q0e.sig] [] (λargs rows=>Qbx (Q0e.of (args.getD 0 .dead).cells)) (λX=> .bool X) (λX=>[])
theorem Qqm:Q05 Tryz.prog Qsj:=Q0x Q0i Q0j (.nil) Tryz.func222 Tryz.call222 (λargs rows=>Qjh (Q0e.of (args.getD 0 .dead).cells)) [] [] 2 (λ_ _ _=>by kernel_rfl) (λ_ _=>rfl) (λ_ _=>Tree.free_ok (by kernel_rfl)) (λ_ X=>by kernel_rfl)
def Qk7(n:Q0n):Tree Bool:=
.lf n.B8
def Qdu(n:Q0n):Bool:=(Qk7 n).m
def Qtk:Q0c:=mkR 223 [] true [.agg Q0n.sig] [] (λargs rows=>Qdu (Q0n.of (args.getD 0 .dead).cells)) (λX=> .bool X) (λX=>[])
theorem Qs:Q05 Tryz.prog Qtk:=Q0x Q0i Q0j (.nil) Tryz.func223 Tryz.call223 (λargs rows=>Qk7 (Q0n.of (args.getD 0 .dead).cells)) [] [] 2 (λ_ _ _=>by kernel_rfl) (λ_ _=>rfl) (λ_ _=>Tree.free_ok (by kernel_rfl)) (λ_ X=>by kernel_rfl)
def Qmw(b:Q06)(z:(Int)×(Int)):Prop:=0≤z.2∧z.2≤32
def Qgh(b:Q06)(z:(Int)×(Int)):Nat:=(32-z.2).toNat
def Qj6(b:Q06):Tree Int:=
.lp inferInstance (Qgh b (0,0)+1) (((rE (0:Nat)∧rE (0:Nat))∧rE (0:Int)∧rE (0:Int)∧True)∧(rE b.C9∧rE b.C2∧True)∧True) (0,0) λ(v0:Int×Int)=> .br (decide (v0.2<32)) (.cn (decide (0≤wrap u64 v0.2)) (.nx (((rE (0:Nat)∧rE (0:Nat))∧rE ((wrap i64 (v0.1+wrap i64 (iand u32 (ishr u32 b.C2 (wrap u64 v0.2)) 1))):Int)∧rE ((wrap i64 (v0.2+1)):Int)∧True)∧(rE b.C9∧rE b.C2∧True)∧True) (Sum.inl (wrap i64 (v0.1+wrap i64 (iand u32 (ishr u32 b.C2 (wrap u64 v0.2)) 1)),wrap i64 (v0.2+1))))) (.lf (Sum.inr v0.1))
def Qep(b:Q06):Int:=(Qj6 b).m
theorem Z2z(b:Q06):(Qj6 b).p:=by
 unfold Tree.p Qj6
 repeat'(first|refine w_lp (inv:=Qmw b) (μ:=Qgh b) ?_ (Nat.lt_succ_self _) (λ_ _=> ?_)|exact trivial|refine w_br (λ_=> ?_) (λ_=> ?_)|refine w_cn ?_ ?_|refine w_an ?_ ?_|refine w_lv (λ_ _=> ?_)|refine w_nx ?_|refine w_lf ?_|refine And.intro ?_ ?_)
 all_goals((try simp only[Qmw,Qgh]at*);((subst_vars;first|trivial|assumption|omega|((simp(config:={decide:=true,failIfUnchanged:=false}) only[Bool.and_eq_true,Bool.or_eq_true,Bool.and_eq_false_iff,Bool.or_eq_false_iff,Bool.not_eq_true',Bool.not_eq_false',Bool.not_eq_true,Bool.not_eq_false,decide_eq_true_eq,decide_eq_false_iff_not,Q6b,Q4,Q67,Q40,beq_iff_eq,beq_eq_false_iff_ne,bne_iff_ne,bne_eq_false_iff_eq,ne_eq,List.all_cons,List.all_nil,D.plain,List.length_cons,List.length_nil,List.length_append,List.length_set,List.length_replicate,IntKind.wrap_i64,IntKind.wrap_u64,IntKind.wrap_u32,IntKind.wrap_i32,IntKind.wrap_u8,true_and,and_true,or_false,false_or,or_true,true_or,not_true_eq_false,not_false_eq_true,Prod.fst,Prod.snd]at*);first|done|assumption|omega)|((simp(config:={decide:=true,failIfUnchanged:=false}) only[Bool.and_eq_true,Bool.or_eq_true,Bool.and_eq_false_iff,Bool.or_eq_false_iff,Bool.not_eq_true',Bool.not_eq_false',Bool.not_eq_true,Bool.not_eq_false,decide_eq_true_eq,decide_eq_false_iff_not,Q6b,Q4,Q67,Q40,beq_iff_eq,beq_eq_false_iff_ne,bne_iff_ne,bne_eq_false_iff_eq,ne_eq,List.all_cons,List.all_nil,D.plain,List.length_cons,List.length_nil,List.length_append,List.length_set,List.length_replicate,IntKind.wrap_i64,IntKind.wrap_u64,IntKind.wrap_u32,IntKind.wrap_i32,IntKind.wrap_u8,true_and,and_true,or_false,false_or,or_true,true_or,not_true_eq_false,not_false_eq_true,Prod.fst,Prod.snd]at*);simp only[←List.length_pos_iff]at*;omega)|(simp_all;done)|(have:= @Qhy;simp_all;try omega))))
def Z8w:LInv:={
 α:=(Int)×(Int)
 F:=λst a=>([(1, .ptr 0 0 0),(3, .int i64 a.1),(4, .int i64 a.2)],[⟨true,38,2, .gen [[(cT st 1 0),(cT st 1 1)]]⟩])
 a0:=λst=>((lk st 3).toInt,(lk st 4).toInt)
 ex0:=λst=>[]++[(Q0o (lk st 1) (st.rows.length+0))]
 next:=λst=>((lk st 3).toInt,(lk st 4).toInt)
 ex:=λst=>[]++[(Q0o (lk st 1) (st.rows.length+0))]}
def Z0k:List (Nat×LInv):=[(3,Z8w)]
def Zbn:Q0c:=mkR 211 [] true [.agg Q06.sig] [] (λargs rows=>Qep (Q06.of (args.getD 0 .dead).cells)) (λX=> .int .i64 X) (λX=>[])
theorem Qrw:Q05 Tryz.prog Zbn:=Q0x Q0i Q0j (.nil) Tryz.func211 Tryz.call211 (λargs rows=>Qj6 (Q06.of (args.getD 0 .dead).cells)) [] Z0k 3 (λ_ _ _=>by kernel_rfl) (λ_ _=>rfl) (λargs rows=>Z2z (Q06.of (args.getD 0 .dead).cells)) (λ_ X=>by kernel_rfl)
def Q9s(b:Q06):Tree Bool:=
.lv (Qep b) λ(x0:Int)=> .lf (wrap u64 x0 !=wrap u64 b.C9)
def Q4d(b:Q06):Bool:=(Q9s b).m
def Qne:Q0c:=mkR 224 [] true [.agg Q06.sig] [] (λargs rows=>Q4d (Q06.of (args.getD 0 .dead).cells)) (λX=> .bool X) (λX=>[])
theorem Qmi:Q05 Tryz.prog Qne:=Q0x Q0i Q0j (.cons Qrw (.nil)) Tryz.func224 Tryz.call224 (λargs rows=>Q9s (Q06.of (args.getD 0 .dead).cells)) [] [] 2 (λ_ _ _=>by kernel_rfl) (λ_ _=>rfl) (λ_ _=>Tree.free_ok (by kernel_rfl)) (λ_ X=>by kernel_rfl)
def Qg0(m:Q00):Tree Int:=
.lv (Qan m.B0) λ(x0:Bool)=> .an (Qau x0 0) (.lv (Q9t x0 0) λ(x1:Int)=> .lv (Q63 m.A3) λ(x2:Bool)=> .an (Qau x2 1) (.lv (Q9t x2 1) λ(x3:Int)=> .lv (Qbx m.B1) λ(x4:Bool)=> .an (Qau x4 2) (.lv (Q9t x4 2) λ(x5:Int)=> .lv (Qdu m.C5) λ(x6:Bool)=> .an (Qau x6 3) (.lv (Q9t x6 3) λ(x7:Int)=> .lv (Q4d m.A1) λ(x8:Bool)=> .an (Qau x8 4) (.lv (Q9t x8 4) λ(x9:Int)=> .lf (ior u32 (ior u32 (ior u32 (ior u32 x1 x3) x5) x7) x9))))))
def Qh3(m:Q00):Int:=(Qg0 m).m
abbrev Qpr(m:Q00):Prop:=(Qg0 m).p
def Zd3:Q0c:=mkP 169 [] true [.agg Q00.sig] [] (λargs rows=>Qpr (Q00.of (args.getD 0 .dead).cells)) (λargs rows=>Qh3 (Q00.of (args.getD 0 .dead).cells)) (λX=> .int .u32 X) (λX=>[])
theorem Z9g:Q05 Tryz.prog Zd3:=Q0k Q0i Q0j (.cons Zdg (.cons Qp2 (.cons Qmj (.cons Qqm (.cons Qs (.cons Qmi (.nil))))))) Tryz.func169 Tryz.call169 (λargs rows=>Qg0 (Q00.of (args.getD 0 .dead).cells)) [] [] 2 (λ_ _ _=>by kernel_rfl) (λ_ _=>rfl) (λ_ _ h=>h) (λ_ X=>by kernel_rfl)
def Q9a(m:Q00):Tree Int:=
.an (Qpr m) (.lv (Qh3 m) λ(x0:Int)=> .lf (iand u32 x0 m.B2.B5.a7))
def Q3b(m:Q00):Int:=(Q9a m).m
abbrev Qgi(m:Q00):Prop:=(Q9a m).p
def Z2p:Q0c:=mkP 115 [] true [.agg Q00.sig] [] (λargs rows=>Qgi (Q00.of (args.getD 0 .dead).cells)) (λargs rows=>Q3b (Q00.of (args.getD 0 .dead).cells)) (λX=> .int .u32 X) (λX=>[])
theorem Qmm:Q05 Tryz.prog Z2p:=Q0k Q0i Q0j (.cons Z9g (.nil)) Tryz.func115 Tryz.call115 (λargs rows=>Q9a (Q00.of (args.getD 0 .dead).cells)) [] [] 2 (λ_ _ _=>by kernel_rfl) (λ_ _=>rfl) (λ_ _ h=>h) (λ_ X=>by kernel_rfl)
def Qeb(m:Q00):Tree Bool:=
.br m.A6 (.an (Qgi m) (.lv (Q3b m) λ(x0:Int)=> .lf (x0==0))) (.lf false)
def Qd3(m:Q00):Bool:=(Qeb m).m
abbrev Qll(m:Q00):Prop:=(Qeb m).p
def Zes:Q0c:=mkP 81 [] true [.agg Q00.sig] [] (λargs rows=>Qll (Q00.of (args.getD 0 .dead).cells)) (λargs rows=>Qd3 (Q00.of (args.getD 0 .dead).cells)) (λX=> .bool X) (λX=>[])
theorem Qw5:Q05 Tryz.prog Zes:=Q0k Q0i Q0j (.cons Qmm (.nil)) Tryz.func81 Tryz.call81 (λargs rows=>Qeb (Q00.of (args.getD 0 .dead).cells)) [] [] 2 (λ_ _ _=>by kernel_rfl) (λ_ _=>rfl) (λ_ _ h=>h) (λ_ X=>by kernel_rfl)
def Q89(m:Q00):Tree Bool:=
.lv (Q7p m) λ(x0:Bool)=> .br (!x0) (.lf true) (.br m.A7 (.lf true) (.an (Qll m) (.lv (Qd3 m) λ(x1:Bool)=> .br x1 (.lf true) (.lf (decide (m.A4≥1152921504606846976))))))
def Q11(m:Q00):Bool:=(Q89 m).m
abbrev Qez(m:Q00):Prop:=(Q89 m).p
def Z9v:Q0c:=mkP 62 [] true [.agg Q00.sig] [] (λargs rows=>Qez (Q00.of (args.getD 0 .dead).cells)) (λargs rows=>Q11 (Q00.of (args.getD 0 .dead).cells)) (λX=> .bool X) (λX=>[])
theorem Qs4:Q05 Tryz.prog Z9v:=Q0k Q0i Q0j (.cons Qqw (.cons Qw5 (.nil))) Tryz.func62 Tryz.call62 (λargs rows=>Q89 (Q00.of (args.getD 0 .dead).cells)) [] [] 2 (λ_ _ _=>by kernel_rfl) (λ_ _=>rfl) (λ_ _ h=>h) (λ_ X=>by kernel_rfl)
end
end Go.Proofs.YtpcbkbalabgnlaaGreat

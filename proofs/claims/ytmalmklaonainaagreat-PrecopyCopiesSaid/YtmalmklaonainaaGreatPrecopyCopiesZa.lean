/-
  Functions of the program: models, and that its calls come to them (by a program: gen3.py).
-/
import Derived.Test.YtmalmklaonainaaGreatPrecopyCopiesBase
import Derived.Test.YtmalmklaonainaaGreatPrecopyCopiesYe
set_option maxRecDepth 100000
set_option linter.unusedVariables false
set_option linter.unusedSimpArgs false
namespace Go.Proofs.YtmalmklaonainaaGreat
open Go Go.GD Go.IntKind
noncomputable section
def Qcz(m:(List Int)):Tree (List Int):=
.cn (Nat.blt (0:Nat) (1:Nat)&&Nat.beq (1:Nat) (1:Nat)&&List.all [D.int u32 (0:Int)] D.plain&&decide ((0:Int)≤(m.length:Int)∧(m.length:Int)≤(m.length:Int)∧(m.length:Int)≤(9223372036854775807:Int)∧(↑(4:Nat):Int)*(m.length:Int)≤(140737488355328:Int))) (let E1:=List.length (List.replicate (Int.toNat (m.length:Int)) (0:Int)); .lf (List.take (Min.min (m.length) E1) m++List.drop (Min.min (m.length) E1) (List.replicate (Int.toNat (m.length:Int)) (0:Int))))
def Z79(m:(List Int)):(List Int):=(Qcz m).m
abbrev Qnt(m:(List Int)):Prop:=(Qcz m).p
def Z9z:Q09:=mkP 122 [] true [.one (.ints .u32)] [] (λargs rows=>Qnt (argL .u32 args 0)) (λargs rows=>Z79 (argL .u32 args 0)) (λX=> .all 0) (λX=>[⟨false,25,1, .ints .u32 X⟩])
theorem Z9i:Q01 Tryz.prog Z9z:=Q0j drawn Q0g (.nil) Tryz.func122 Tryz.call122 (λargs rows=>Qcz (argL .u32 args 0)) [.row 25 1 (.ints .u32)] [] 2 (λ_ _ _=>by kernel_rfl) (λ_ _=>rfl) (λ_ _ h=>h) (λ_ X=>by kernel_rfl)
def Qg5(m:Q00):Tree Q00:=
.an (Qnt m.Mem) (.lv (Z79 m.Mem) λ(x0:List Int)=> .lf ({B1:=m.B1,Mem:=x0,A1:=m.A1,A9:=m.A9,B0:=m.B0,C2:=m.C2,A0:=m.A0,A4:=m.A4,A2:=m.A2,A6:=m.A6}))
def Zct(m:Q00):Q00:=(Qg5 m).m
abbrev Qs4(m:Q00):Prop:=(Qg5 m).p
def Zfa:Q09:=mkP 34 [] true [.agg Q00.sig] [] (λargs rows=>Qs4 (Q00.of (args.getD 0 .dead).cells)) (λargs rows=>Zct (Q00.of (args.getD 0 .dead).cells)) (λX=> .agg (Q00.cellsW X (.all 0))) (λX=>[⟨false,25,1, .ints .u32 X.Mem⟩])
theorem Za9:Q01 Tryz.prog Zfa:=Q0j drawn Q0g (.cons Z9i (.nil)) Tryz.func34 Tryz.call34 (λargs rows=>Qg5 (Q00.of (args.getD 0 .dead).cells)) [.row 25 1 (.ints .u32)] [] 2 (λ_ _ _=>by kernel_rfl) (λ_ _=>rfl) (λ_ _ h=>h) (λ_ X=>by kernel_rfl)
def Qij(m:(List Int)):Tree Int:=
.br (Int.tmod (m.length:Int) (32:Int) !=(0:Int)) (.lf 0) (.br (decide ((m.length:Int)>(1024:Int))) (.lf 0) (.lf (wrap i64 (Int.tdiv (m.length:Int) 32))))
def Q6a(m:(List Int)):Int:=(Qij m).m
def Z8z:Q09:=mkR 93 [] true [.one (.ints .u32)] [] (λargs rows=>Q6a (argL .u32 args 0)) (λX=> .int .i64 X) (λX=>[])
theorem Q8m:Q01 Tryz.prog Z8z:=Q0p drawn Q0g (.nil) Tryz.func93 Tryz.call93 (λargs rows=>Qij (argL .u32 args 0)) [] [] 2 (λ_ _ _=>by kernel_rfl) (λ_ _=>rfl) (λ_ _=>Tree.free_ok (by kernel_rfl)) (λ_ X=>by kernel_rfl)
def Qfu(c:Q0a):Tree Bool:=
.lf (decide ((c.D0.length:Int)≤(16:Int)))
def Qig(c:Q0a):Bool:=(Qfu c).m
def Qqn:Q09:=mkR 94 [] true [.agg Q0a.sig] [] (λargs rows=>Qig (Q0a.of (args.getD 0 .dead).cells)) (λX=> .bool X) (λX=>[])
theorem Qpk:Q01 Tryz.prog Qqn:=Q0p drawn Q0g (.nil) Tryz.func94 Tryz.call94 (λargs rows=>Qfu (Q0a.of (args.getD 0 .dead).cells)) [] [] 2 (λ_ _ _=>by kernel_rfl) (λ_ _=>rfl) (λ_ _=>Tree.free_ok (by kernel_rfl)) (λ_ X=>by kernel_rfl)
def Qif(t:Q0k):Tree Bool:=
.br t.D6 (.br t.D4 (.lf false) (.br t.D6 (.lf (t.C4 !=0)) (.br t.D4 (.lf true) (.lf (t.C4==0))))) (.br t.D6 (.lf (t.C4 !=0)) (.br t.D4 (.lf true) (.lf (t.C4==0))))
def Qoj(t:Q0k):Bool:=(Qif t).m
def Qwk:Q09:=mkR 95 [] true [.agg Q0k.sig] [] (λargs rows=>Qoj (Q0k.of (args.getD 0 .dead).cells)) (λX=> .bool X) (λX=>[])
theorem Qtf:Q01 Tryz.prog Qwk:=Q0p drawn Q0g (.nil) Tryz.func95 Tryz.call95 (λargs rows=>Qif (Q0k.of (args.getD 0 .dead).cells)) [] [] 2 (λ_ _ _=>by kernel_rfl) (λ_ _=>rfl) (λ_ _=>Tree.free_ok (by kernel_rfl)) (λ_ X=>by kernel_rfl)
def Qll(d0:Q0b)(pages:Int):Tree Bool:=
.br (decide (d0.Blocks>64)) (.lf false) (.br (decide (d0.C0<0)) (.lf false) (.br (decide (d0.C0>3)) (.lf false) (.br (d0.C0 !=1) (.br (d0.D7==0) (.br (d0.B3==0) (.br (d0.B4==0) (.lf (decide (d0.B7=[]))) (.lf false)) (.lf false)) (.lf false)) (.br (decide (d0.B3≥d0.Blocks)) (.lf false) (.br (decide (wrap i64 d0.B4≥pages)) (.lf false) (.br (d0.D7==1) (.br (decide (d0.B7=[])) (.lf true) (.br (d0.D7==2) (.lf ((d0.B7.length:Int)==(128:Int))) (.lf false))) (.br (d0.D7==2) (.lf ((d0.B7.length:Int)==(128:Int))) (.lf false))))))))
def Qsn(d0:Q0b)(pages:Int):Bool:=(Qll d0 pages).m
def Qyq:Q09:=mkR 96 [] true [.agg Q0b.sig, .one (.int .i64)] [] (λargs rows=>Qsn (Q0b.of (args.getD 0 .dead).cells) (argI args 1)) (λX=> .bool X) (λX=>[])
theorem Qx1:Q01 Tryz.prog Qyq:=Q0p drawn Q0g (.nil) Tryz.func96 Tryz.call96 (λargs rows=>Qll (Q0b.of (args.getD 0 .dead).cells) (argI args 1)) [] [] 2 (λ_ _ _=>by kernel_rfl) (λ_ _=>rfl) (λ_ _=>Tree.free_ok (by kernel_rfl)) (λ_ X=>by kernel_rfl)
def Qpf(n:Q0m)(pages:Int):Tree Bool:=
let T1:Tree (Bool):= .br n.B2 (.br (decide (n.E0≥1)) (.lf (decide (n.E0≤128))) (.lf false)) (.lf (n.E0==0)); .br n.B8 (.br n.B2 (.lf false) (.br (decide (wrap i64 n.B9≥pages)) (.lf false) (.br (!n.B8) (.br (n.B9 !=0) (.lf false) T1) T1))) (.br (!n.B8) (.br (n.B9 !=0) (.lf false) T1) T1)
def Qv5(n:Q0m)(pages:Int):Bool:=(Qpf n pages).m
def Z56:Q09:=mkR 97 [] true [.agg Q0m.sig, .one (.int .i64)] [] (λargs rows=>Qv5 (Q0m.of (args.getD 0 .dead).cells) (argI args 1)) (λX=> .bool X) (λX=>[])
theorem Qz2:Q01 Tryz.prog Z56:=Q0p drawn Q0g (.nil) Tryz.func97 Tryz.call97 (λargs rows=>Qpf (Q0m.of (args.getD 0 .dead).cells) (argI args 1)) [] [] 2 (λ_ _ _=>by kernel_rfl) (λ_ _=>rfl) (λ_ _=>Tree.free_ok (by kernel_rfl)) (λ_ X=>by kernel_rfl)
def Qbo(b:Q07)(pages:Int)(z:(Int)):Prop:=0≤z∧z≤32
def Q5m(b:Q07)(pages:Int)(z:(Int)):Nat:=(32-z).toNat
def Q67(b:Q07)(pages:Int):Tree Bool:=
.lp inferInstance (Q5m b pages 0+1) ((rE (pages:Int)∧(rE (0:Nat)∧rE (0:Nat))∧rE (0:Int)∧True)∧(rE b.C3∧rE b.C5∧True)∧True) 0 λ(v0:Int)=> .br (decide (v0<32)) (.cn (decide (0≤wrap u64 v0)) (let T1:Tree ((Int)⊕(Bool)):= .nx ((rE (pages:Int)∧(rE (0:Nat)∧rE (0:Nat))∧rE ((wrap i64 (v0+1)):Int)∧True)∧(rE b.C3∧rE b.C5∧True)∧True) (Sum.inl (wrap i64 (v0+1))); .br (iand u32 (ishr u32 b.C5 (wrap u64 v0)) (1:Int)==(1:Int)) (.br (decide (v0≥pages)) (.lf (Sum.inr false)) T1) T1)) (.lf (Sum.inr true))
def Qk1(b:Q07)(pages:Int):Bool:=(Q67 b pages).m
theorem Qm9(b:Q07)(pages:Int):(Q67 b pages).p:=by
 unfold Tree.p Q67
 repeat'(first|refine w_lp (inv:=Qbo b pages) (μ:=Q5m b pages) ?_ (Nat.lt_succ_self _) (λ_ _=> ?_)|exact trivial|refine w_br (λ_=> ?_) (λ_=> ?_)|refine w_cn ?_ ?_|refine w_an ?_ ?_|refine w_lv (λ_ _=> ?_)|refine w_nx ?_|refine w_lf ?_|refine And.intro ?_ ?_)
 all_goals((try simp only[Qbo,Q5m]at*);((subst_vars;first|trivial|assumption|omega|((simp(config:={decide:=true,failIfUnchanged:=false}) only[Bool.and_eq_true,Bool.or_eq_true,Bool.and_eq_false_iff,Bool.or_eq_false_iff,Bool.not_eq_true',Bool.not_eq_false',Bool.not_eq_true,Bool.not_eq_false,decide_eq_true_eq,decide_eq_false_iff_not,Q3t,Q2i,Q3y,Q2j,beq_iff_eq,beq_eq_false_iff_ne,bne_iff_ne,bne_eq_false_iff_eq,ne_eq,List.all_cons,List.all_nil,D.plain,List.length_cons,List.length_nil,List.length_append,List.length_set,List.length_replicate,IntKind.wrap_i64,IntKind.wrap_u64,IntKind.wrap_u32,IntKind.wrap_i32,IntKind.wrap_u8,true_and,and_true,or_false,false_or,or_true,true_or,not_true_eq_false,not_false_eq_true,Prod.fst,Prod.snd]at*);first|done|assumption|omega)|((simp(config:={decide:=true,failIfUnchanged:=false}) only[Bool.and_eq_true,Bool.or_eq_true,Bool.and_eq_false_iff,Bool.or_eq_false_iff,Bool.not_eq_true',Bool.not_eq_false',Bool.not_eq_true,Bool.not_eq_false,decide_eq_true_eq,decide_eq_false_iff_not,Q3t,Q2i,Q3y,Q2j,beq_iff_eq,beq_eq_false_iff_ne,bne_iff_ne,bne_eq_false_iff_eq,ne_eq,List.all_cons,List.all_nil,D.plain,List.length_cons,List.length_nil,List.length_append,List.length_set,List.length_replicate,IntKind.wrap_i64,IntKind.wrap_u64,IntKind.wrap_u32,IntKind.wrap_i32,IntKind.wrap_u8,true_and,and_true,or_false,false_or,or_true,true_or,not_true_eq_false,not_false_eq_true,Prod.fst,Prod.snd]at*);simp only[←List.length_pos_iff]at*;omega)|(simp_all;done)|(have:= @Qf2;simp_all;try omega))))
def Qos:LInv:={
 α:=(Int)
 F:=λst a=>([(1,(lk st 1)),(2, .ptr 0 0 0),(5, .int i64 a)],[⟨true,40,2, .gen [[(cT st 2 0),(cT st 2 1)]]⟩])
 a0:=λst=>(lk st 5).toInt
 ex0:=λst=>[]++[(Q0o (lk st 2) (st.rows.length+0))]
 next:=λst=>(lk st 5).toInt
 ex:=λst=>[]++[(Q0o (lk st 2) (st.rows.length+0))]}
def Ql1:List (Nat×LInv):=[(2,Qos)]
def Qrf:Q09:=mkR 98 [] true [.agg Q07.sig, .one (.int .i64)] [] (λargs rows=>Qk1 (Q07.of (args.getD 0 .dead).cells) (argI args 1)) (λX=> .bool X) (λX=>[])
theorem Qo9:Q01 Tryz.prog Qrf:=Q0p drawn Q0g (.nil) Tryz.func98 Tryz.call98 (λargs rows=>Q67 (Q07.of (args.getD 0 .dead).cells) (argI args 1)) [] Ql1 3 (λ_ _ _=>by kernel_rfl) (λ_ _=>rfl) (λargs rows=>Qm9 (Q07.of (args.getD 0 .dead).cells) (argI args 1)) (λ_ X=>by kernel_rfl)
def Z1i(m:Q00):Tree Bool:=
.lv (Q6a m.Mem) λ(x0:Int)=> .br (decide (x0<1)) (.lf false) (.br (m.B1.X.a0 !=0) (.lf false) (.br (decide (m.B1.B5.a0>31)) (.lf false) (.br (decide (m.B1.B5.a7>31)) (.lf false) (.br (decide (m.B1.B5.a6>255)) (.lf false) (.br (Int.tmod m.B1.B5.a1 (4:Int) !=(0:Int)) (.lf false) (.lv (Qig m.A1) λ(x1:Bool)=> .br (!x1) (.lf false) (.lv (Qoj m.A9) λ(x2:Bool)=> .br (!x2) (.lf false) (.lv (Qsn m.B0 x0) λ(x3:Bool)=> .br (!x3) (.lf false) (.lv (Qv5 m.C2 x0) λ(x4:Bool)=> .br (!x4) (.lf false) (.lv (Qk1 m.A0 x0) λ(x5:Bool)=> .br (!x5) (.lf false) (.br (decide (m.A4≤1152921504606846976)) (.br m.A2 (.lf (!m.A6)) (.lf true)) (.lf false))))))))))))
def Zdl(m:Q00):Bool:=(Z1i m).m
def Zep:Q09:=mkR 25 [] true [.agg Q00.sig] [] (λargs rows=>Zdl (Q00.of (args.getD 0 .dead).cells)) (λX=> .bool X) (λX=>[])
theorem Za3:Q01 Tryz.prog Zep:=Q0p drawn Q0g (.cons Q8m (.cons Qpk (.cons Qtf (.cons Qx1 (.cons Qz2 (.cons Qo9 (.nil))))))) Tryz.func25 Tryz.call25 (λargs rows=>Z1i (Q00.of (args.getD 0 .dead).cells)) [] [] 2 (λ_ _ _=>by kernel_rfl) (λ_ _=>rfl) (λ_ _=>Tree.free_ok (by kernel_rfl)) (λ_ X=>by kernel_rfl)
def Qvr(t:Q0k):Tree (Q0k×Bool):=
.br (!t.D6) (.lf (t,false)) (.lf ({D6:=false,C4:=t.C4,D4:=true},true))
def Z9(t:Q0k):(Q0k×Bool):=(Qvr t).m
def Zc3:Q09:=mkR 221 [] true [.agg Q0k.sig] [] (λargs rows=>Z9 (Q0k.of (args.getD 0 .dead).cells)) (λX=> .tup [.agg (Q0k.cells (X.1)), .bool (X.2)]) (λX=>[])
theorem Z7s:Q01 Tryz.prog Zc3:=Q0p drawn Q0g (.nil) Tryz.func221 Tryz.call221 (λargs rows=>Qvr (Q0k.of (args.getD 0 .dead).cells)) [] [] 2 (λ_ _ _=>by kernel_rfl) (λ_ _=>rfl) (λ_ _=>Tree.free_ok (by kernel_rfl)) (λ_ X=>by kernel_rfl)
def Qmz(c:Q0a)(b:Int):Tree (Q0a×Bool):=
.br (decide ((c.D0.length:Int)≥(16:Int))) (.lf (c,false)) (.cn (decide (c.D0.length+1≤maxLen)) (.lf ({D0:=c.D0++[(λ(n:Int)=>UInt8.ofNat n.toNat) b]},true)))
def Z6o(c:Q0a)(b:Int):(Q0a×Bool):=(Qmz c b).m
abbrev Qnl(c:Q0a)(b:Int):Prop:=(Qmz c b).p
def Zb4:Q09:=mkP 222 [] true [.agg Q0a.sig, .one (.int .u8)] [] (λargs rows=>Qnl (Q0a.of (args.getD 0 .dead).cells) (argI args 1)) (λargs rows=>Z6o (Q0a.of (args.getD 0 .dead).cells) (argI args 1)) (λX=> .tup [.agg (Q0a.cells (X.1)), .bool (X.2)]) (λX=>[])
theorem Z83:Q01 Tryz.prog Zb4:=Q0j drawn Q0g (.nil) Tryz.func222 Tryz.call222 (λargs rows=>Qmz (Q0a.of (args.getD 0 .dead).cells) (argI args 1)) [] [] 2 (λ_ _ _=>by kernel_rfl) (λ_ _=>rfl) (λ_ _ h=>h) (λ_ X=>by kernel_rfl)
def Qmw(m:(List Int))(frame:Int):Tree Bool:=
.lv (Q6a m) λ(x0:Int)=> .lf (decide (wrap u64 frame<wrap u64 x0))
def Q5b(m:(List Int))(frame:Int):Bool:=(Qmw m frame).m
def Zaz:Q09:=mkR 269 [] true [.one (.ints .u32), .one (.int .u32)] [] (λargs rows=>Q5b (argL .u32 args 0) (argI args 1)) (λX=> .bool X) (λX=>[])
theorem Qay:Q01 Tryz.prog Zaz:=Q0p drawn Q0g (.cons Q8m (.nil)) Tryz.func269 Tryz.call269 (λargs rows=>Qmw (argL .u32 args 0) (argI args 1)) [] [] 2 (λ_ _ _=>by kernel_rfl) (λ_ _=>rfl) (λ_ _=>Tree.free_ok (by kernel_rfl)) (λ_ X=>by kernel_rfl)
def Qfm(m:(List Int))(addr:Int)(size:Int)(v:Int):Tree (List Int):=
let E1:=Nat.beq 1 1&&Nat.blt 0 1&&decide (0≤wrap u32 (Int.tdiv addr 4)∧wrap u32 (Int.tdiv addr 4)<(m.length:Int));let E2:=Int.toNat (wrap u32 (Int.tdiv addr 4)); .br (size==4) (.cn E1 (.lf (List.set m E2 v))) (.cn E1 (let E3:=decide (0≤wrap u32 (8*Int.tmod addr 4)); .cn E3 (.cn E3 (.cn E1 (.lf (List.set m E2 (ior u32 (Ql9 u32 (m.getD E2 0) (ishl u32 255 (wrap u32 (8*Int.tmod addr 4)))) (ishl u32 (iand u32 v 255) (wrap u32 (8*Int.tmod addr 4))))))))))
def Quh(m:(List Int))(addr:Int)(size:Int)(v:Int):(List Int):=(Qfm m addr size v).m
abbrev Qeg(m:(List Int))(addr:Int)(size:Int)(v:Int):Prop:=(Qfm m addr size v).p
def Zez:Q09:=mkP 300 [true,false,false,false] true [.one (.row 0), .one (.int .u32), .one (.int .i64), .one (.int .u32)] [.arr 25 1 (.ints .u32)] (λargs rows=>Qeg (rowL .u32 rows 0) (argI args 1) (argI args 2) (argI args 3)) (λargs rows=>Quh (rowL .u32 rows 0) (argI args 1) (argI args 2) (argI args 3)) (λX=> .tup []) (λX=>[⟨false,25,1, .ints .u32 X⟩])
theorem Qvt:Q01 Tryz.prog Zez:=Q0j drawn Q0g (.nil) Tryz.func300 Tryz.call300 (λargs rows=>Qfm (rowL .u32 rows 0) (argI args 1) (argI args 2) (argI args 3)) [] [] 2 (λ_ _ _=>by kernel_rfl) (λ_ _=>rfl) (λ_ _ h=>h) (λ_ X=>by kernel_rfl)
def Qw7(m:(List Int))(frame:Int)(s:(List UInt8))(z:(Int)×(List Int)):Nat:=(128-z.1).toNat
def Qmu(m:(List Int))(frame:Int)(s:(List UInt8)):Tree (List Int):=
.lp inferInstance (Qw7 m frame s (0,m)+1) ((True∧rE (frame:Int)∧rE (s:List UInt8)∧rE (0:Int)∧True)∧rE (m:List Int)∧True) (0,m) λ(v0:Int×List Int)=> .br (decide (v0.1<(s.length:Int))) (.br (decide (v0.1<128)) (.cn (decide (0≤v0.1∧v0.1<(s.length:Int))) (let E1:=wrap u32 (↑(UInt8.toNat (s.getD v0.1.toNat (0:UInt8))):Int);let E2:=wrap u32 (wrap i64 (wrap i64 (frame*128)+v0.1)); .an (Qeg v0.2 E2 1 E1) (.lv (Quh v0.2 E2 1 E1) λ(x0:List Int)=> .nx ((True∧rE (frame:Int)∧rE (s:List UInt8)∧rE ((wrap i64 (v0.1+1)):Int)∧True)∧rE (x0:List Int)∧True) (Sum.inl (wrap i64 (v0.1+1),x0))))) (.lf (Sum.inr v0.2))) (.lf (Sum.inr v0.2))
def Qwg(m:(List Int))(frame:Int)(s:(List UInt8)):(List Int):=(Qmu m frame s).m
abbrev Qgt(m:(List Int))(frame:Int)(s:(List UInt8)):Prop:=(Qmu m frame s).p
def Z8u:LInv:={
 α:=(Int)×(List Int)
 F:=λst a=>([(0, .all 0),(1,(lk st 1)),(2,(lk st 2)),(6, .int i64 a.1)],[⟨false,25,1, .ints u32 a.2⟩])
 a0:=λst=>((lk st 6).toInt,(Q37 st.rows 0))
 ex0:=λst=>[0]++[]
 next:=λst=>((lk st 6).toInt,(Q37 st.rows 0))
 ex:=λst=>[0]++[]}
def Z0b:List (Nat×LInv):=[(1,Z8u)]
def Zag:Q09:=mkP 270 [true,false,false] true [.one (.row 0), .one (.int .i64), .one (.str)] [.arr 25 1 (.ints .u32)] (λargs rows=>Qgt (rowL .u32 rows 0) (argI args 1) (argS args 2)) (λargs rows=>Qwg (rowL .u32 rows 0) (argI args 1) (argS args 2)) (λX=> .tup []) (λX=>[⟨false,25,1, .ints .u32 X⟩])
theorem Qse:Q01 Tryz.prog Zag:=Q0j drawn Q0g (.cons Qvt (.nil)) Tryz.func270 Tryz.call270 (λargs rows=>Qmu (rowL .u32 rows 0) (argI args 1) (argS args 2)) [] Z0b 3 (λ_ _ _=>by kernel_rfl) (λ_ _=>rfl) (λ_ _ h=>h) (λ_ X=>by kernel_rfl)
def Qgp(d0:Q0b)(m:(List Int))(e:Q1f):Tree (Q0b×Bool×(List Int)):=
.br (d0.C0 !=1) (.lf (d0,false,m)) (.br (e.C6 !=4) (.lf (d0,false,m)) (.br (decide (e.N>1)) (.lf (d0,false,m)) (let E4:=({Blocks:=d0.Blocks,B6:=d0.B6,Frame:=d0.Frame,C0:=2,D7:=0,B3:=0,B4:=0,B7:=[]}:Q0b);let E5:=({Blocks:=d0.Blocks,B6:=d0.B6,Frame:=d0.Frame,C0:=3,D7:=0,B3:=0,B4:=0,B7:=[]}:Q0b);let T2:Tree ((Q0b×Bool×(List Int))):= .br (e.N==1) (.lf (E4,true,m)) (.lf (E5,true,m));let E6:=decide ((e.D5.length:Int)>(0:Int)); .br (e.N==1) (let T1:Tree ((Q0b×Bool×(List Int))):= .br (d0.D7==1) (.an (Qgt m (wrap i64 d0.B4) e.D5) (.lv (Qwg m (wrap i64 d0.B4) e.D5) λ(x1:List Int)=> .br (e.N==1) (.lf (E4,true,x1)) (.lf (E5,true,x1)))) T2;let T3:Tree ((Q0b×Bool×(List Int))):= .br (!d0.D7==1) (.br E6 (.lf (d0,false,m)) T1) T1; .br (d0.D7==1) (.br ((e.D5.length:Int) !=(128:Int)) (.lf (d0,false,m)) (.lv (Q5b m d0.B4) λ(x0:Bool)=> .br (!x0) (.lf (d0,false,m)) T3)) T3) (.br E6 (.lf (d0,false,m)) T2))))
def Qw5(d0:Q0b)(m:(List Int))(e:Q1f):(Q0b×Bool×(List Int)):=(Qgp d0 m e).m
abbrev Qjb(d0:Q0b)(m:(List Int))(e:Q1f):Prop:=(Qgp d0 m e).p
def Z3f:Q09:=mkP 223 [false,true,false] true [.agg Q0b.sig, .one (.row 0), .agg Q1f.sig] [.arr 25 1 (.ints .u32)] (λargs rows=>Qjb (Q0b.of (args.getD 0 .dead).cells) (rowL .u32 rows 0) (Q1f.of (args.getD 2 .dead).cells)) (λargs rows=>Qw5 (Q0b.of (args.getD 0 .dead).cells) (rowL .u32 rows 0) (Q1f.of (args.getD 2 .dead).cells)) (λX=> .tup [.agg (Q0b.cells (X.1)), .bool (X.2.1)]) (λX=>[⟨false,25,1, .ints .u32 (X.2.2)⟩])
theorem Qzx:Q01 Tryz.prog Z3f:=Q0j drawn Q0g (.cons Qay (.cons Qse (.nil))) Tryz.func223 Tryz.call223 (λargs rows=>Qgp (Q0b.of (args.getD 0 .dead).cells) (rowL .u32 rows 0) (Q1f.of (args.getD 2 .dead).cells)) [] [] 2 (λ_ _ _=>by kernel_rfl) (λ_ _=>rfl) (λ_ _ h=>h) (λ_ X=>by kernel_rfl)
def Qh7(n:Q0m)(m:(List Int))(frame:(List UInt8)):Tree (Q0m×Bool×(List Int)):=
.br (!n.B8) (.lf (n,false,m)) (.br (decide ((frame.length:Int)<(1:Int))) (.lf (n,false,m)) (.br (decide ((frame.length:Int)>(128:Int))) (.lf (n,false,m)) (.lv (Q5b m n.B9) λ(x0:Bool)=> .br (!x0) (.lf (n,false,m)) (.an (Qgt m (wrap i64 n.B9) frame) (.lv (Qwg m (wrap i64 n.B9) frame) λ(x1:List Int)=> .lf ({Frame:=n.Frame,D9:=n.D9,B8:=false,B9:=0,B2:=true,E0:=wrap u32 (frame.length:Int)},true,x1))))))
def Qxo(n:Q0m)(m:(List Int))(frame:(List UInt8)):(Q0m×Bool×(List Int)):=(Qh7 n m frame).m
abbrev Qjy(n:Q0m)(m:(List Int))(frame:(List UInt8)):Prop:=(Qh7 n m frame).p
def Z2y:Q09:=mkP 224 [false,true,false] true [.agg Q0m.sig, .one (.row 0), .one (.str)] [.arr 25 1 (.ints .u32)] (λargs rows=>Qjy (Q0m.of (args.getD 0 .dead).cells) (rowL .u32 rows 0) (argS args 2)) (λargs rows=>Qxo (Q0m.of (args.getD 0 .dead).cells) (rowL .u32 rows 0) (argS args 2)) (λX=> .tup [.agg (Q0m.cells (X.1)), .bool (X.2.1)]) (λX=>[⟨false,25,1, .ints .u32 (X.2.2)⟩])
theorem Qzg:Q01 Tryz.prog Z2y:=Q0j drawn Q0g (.cons Qay (.cons Qse (.nil))) Tryz.func224 Tryz.call224 (λargs rows=>Qh7 (Q0m.of (args.getD 0 .dead).cells) (rowL .u32 rows 0) (argS args 2)) [] [] 2 (λ_ _ _=>by kernel_rfl) (λ_ _=>rfl) (λ_ _ h=>h) (λ_ X=>by kernel_rfl)
def Qiw(m:Q00)(e:Q1f):Tree (Bool×Q00):=
.br m.A6 (.lf (false,m)) (let T1:Tree ((Bool×Q00)):= .br (e.C6==4) (.an (Qjb m.B0 m.Mem e) (.lv (Qw5 m.B0 m.Mem e) λ(x2:Q0b×Bool×List Int)=> .lf (x2.2.1,{B1:=m.B1,Mem:=x2.2.2,A1:=m.A1,A9:=m.A9,B0:=x2.1,C2:=m.C2,A0:=m.A0,A4:=m.A4,A2:=m.A2,A6:=m.A6}))) (let T3:Tree ((Bool×Q00)):= .br (e.C6==6) (.br (decide (e.D5=[])) (.lf (true,{B1:=m.B1,Mem:=m.Mem,A1:=m.A1,A9:=m.A9,B0:=m.B0,C2:=m.C2,A0:={C3:=e.N,C5:=m.A0.C5},A4:=m.A4,A2:=m.A2,A6:=m.A6})) (.lf (false,m))) (.lf (false,m)); .br (e.C6==5) (.br (e.N==0) (.an (Qjy m.C2 m.Mem e.D5) (.lv (Qxo m.C2 m.Mem e.D5) λ(x3:Q0m×Bool×List Int)=> .lf (x3.2.1,{B1:=m.B1,Mem:=x3.2.2,A1:=m.A1,A9:=m.A9,B0:=m.B0,C2:=x3.1,A0:=m.A0,A4:=m.A4,A2:=m.A2,A6:=m.A6}))) T3) T3);let T2:Tree ((Bool×Q00)):= .br (e.C6==3) (.br (decide (e.N≤255)) (.br (decide (e.D5=[])) (.an (Qnl m.A1 (wrap u8 e.N)) (.lv (Z6o m.A1 (wrap u8 e.N)) λ(x1:Q0a×Bool)=> .lf (x1.2,{B1:=m.B1,Mem:=m.Mem,A1:=x1.1,A9:=m.A9,B0:=m.B0,C2:=m.C2,A0:=m.A0,A4:=m.A4,A2:=m.A2,A6:=m.A6}))) T1) T1) T1; .br (e.C6==2) (.br (e.N==0) (.br (decide (e.D5=[])) (.lv (Z9 m.A9) λ(x0:Q0k×Bool)=> .lf (x0.2,{B1:=m.B1,Mem:=m.Mem,A1:=m.A1,A9:=x0.1,B0:=m.B0,C2:=m.C2,A0:=m.A0,A4:=m.A4,A2:=m.A2,A6:=m.A6})) T2) T2) T2)
def Zf3(m:Q00)(e:Q1f):(Bool×Q00):=(Qiw m e).m
abbrev Qzs(m:Q00)(e:Q1f):Prop:=(Qiw m e).p
def Z9e:Q09:=mkP 161 [true,false] true [.ptr 0, .agg Q1f.sig] [.box 43 49 (Q00.sigW (.row 1)), .arr 25 1 (.ints .u32)] (λargs rows=>Qzs (Q00.ofW (rows.getD 0 default).cs (rowL .u32 rows 1)) (Q1f.of (args.getD 1 .dead).cells)) (λargs rows=>Zf3 (Q00.ofW (rows.getD 0 default).cs (rowL .u32 rows 1)) (Q1f.of (args.getD 1 .dead).cells)) (λX=> .bool (X.1)) (λX=>[⟨true,43,49, .gen [(Q00.cellsW (X.2) (.all 1))]⟩,⟨false,25,1, .ints .u32 (X.2).Mem⟩])
theorem Z51:Q01 Tryz.prog Z9e:=Q0j drawn Q0g (.cons Z7s (.cons Z83 (.cons Qzx (.cons Qzg (.nil))))) Tryz.func161 Tryz.call161 (λargs rows=>Qiw (Q00.ofW (rows.getD 0 default).cs (rowL .u32 rows 1)) (Q1f.of (args.getD 1 .dead).cells)) [.row 25 1 (.ints .u32)] [] 2 (λ_ _ _=>by kernel_rfl) (λ_ _=>rfl) (λ_ _ h=>h) (λ_ X=>by kernel_rfl)
def Qdr(is:Bool)(n:Int):Tree Int:=
.br is (.cn (decide (0≤wrap u64 n)) (.lf (ishl u32 1 (wrap u64 n)))) (.lf 0)
def Qfi(is:Bool)(n:Int):Int:=(Qdr is n).m
abbrev Q62(is:Bool)(n:Int):Prop:=(Qdr is n).p
def Zb6:Q09:=mkP 104 [] true [.one (.bool), .one (.int .i64)] [] (λargs rows=>Q62 (argB args 0) (argI args 1)) (λargs rows=>Qfi (argB args 0) (argI args 1)) (λX=> .int .u32 X) (λX=>[])
theorem Z7o:Q01 Tryz.prog Zb6:=Q0j drawn Q0g (.nil) Tryz.func104 Tryz.call104 (λargs rows=>Qdr (argB args 0) (argI args 1)) [] [] 2 (λ_ _ _=>by kernel_rfl) (λ_ _=>rfl) (λ_ _ h=>h) (λ_ X=>by kernel_rfl)
def Qd1(t:Q0k):Tree Bool:=
.lf t.D4
def Qgb(t:Q0k):Bool:=(Qd1 t).m
def Qmn:Q09:=mkR 105 [] true [.agg Q0k.sig] [] (λargs rows=>Qgb (Q0k.of (args.getD 0 .dead).cells)) (λX=> .bool X) (λX=>[])
theorem Ql6:Q01 Tryz.prog Qmn:=Q0p drawn Q0g (.nil) Tryz.func105 Tryz.call105 (λargs rows=>Qd1 (Q0k.of (args.getD 0 .dead).cells)) [] [] 2 (λ_ _ _=>by kernel_rfl) (λ_ _=>rfl) (λ_ _=>Tree.free_ok (by kernel_rfl)) (λ_ X=>by kernel_rfl)
def Qal(c:Q0a):Tree Bool:=
.lf (decide ((c.D0.length:Int)>(0:Int)))
def Qdu(c:Q0a):Bool:=(Qal c).m
def Qk0:Q09:=mkR 106 [] true [.agg Q0a.sig] [] (λargs rows=>Qdu (Q0a.of (args.getD 0 .dead).cells)) (λX=> .bool X) (λX=>[])
theorem Qi5:Q01 Tryz.prog Qk0:=Q0p drawn Q0g (.nil) Tryz.func106 Tryz.call106 (λargs rows=>Qal (Q0a.of (args.getD 0 .dead).cells)) [] [] 2 (λ_ _ _=>by kernel_rfl) (λ_ _=>rfl) (λ_ _=>Tree.free_ok (by kernel_rfl)) (λ_ X=>by kernel_rfl)
def Qec(d0:Q0b):Tree Bool:=
.br (d0.C0==2) (.lf true) (.lf (d0.C0==3))
def Qhm(d0:Q0b):Bool:=(Qec d0).m
def Qp8:Q09:=mkR 107 [] true [.agg Q0b.sig] [] (λargs rows=>Qhm (Q0b.of (args.getD 0 .dead).cells)) (λX=> .bool X) (λX=>[])
theorem Qm3:Q01 Tryz.prog Qp8:=Q0p drawn Q0g (.nil) Tryz.func107 Tryz.call107 (λargs rows=>Qec (Q0b.of (args.getD 0 .dead).cells)) [] [] 2 (λ_ _ _=>by kernel_rfl) (λ_ _=>rfl) (λ_ _=>Tree.free_ok (by kernel_rfl)) (λ_ X=>by kernel_rfl)
def Qfq(n:Q0m):Tree Bool:=
.lf n.B2
def Qjr(n:Q0m):Bool:=(Qfq n).m
def Qqc:Q09:=mkR 108 [] true [.agg Q0m.sig] [] (λargs rows=>Qjr (Q0m.of (args.getD 0 .dead).cells)) (λX=> .bool X) (λX=>[])
theorem Qp9:Q01 Tryz.prog Qqc:=Q0p drawn Q0g (.nil) Tryz.func108 Tryz.call108 (λargs rows=>Qfq (Q0m.of (args.getD 0 .dead).cells)) [] [] 2 (λ_ _ _=>by kernel_rfl) (λ_ _=>rfl) (λ_ _=>Tree.free_ok (by kernel_rfl)) (λ_ X=>by kernel_rfl)
def Qik(b:Q07)(z:(Int)×(Int)):Prop:=0≤z.2∧z.2≤32
def Qbe(b:Q07)(z:(Int)×(Int)):Nat:=(32-z.2).toNat
def Qej(b:Q07):Tree Int:=
.lp inferInstance (Qbe b (0,0)+1) (((rE (0:Nat)∧rE (0:Nat))∧rE (0:Int)∧rE (0:Int)∧True)∧(rE b.C3∧rE b.C5∧True)∧True) (0,0) λ(v0:Int×Int)=> .br (decide (v0.2<32)) (.cn (decide (0≤wrap u64 v0.2)) (.nx (((rE (0:Nat)∧rE (0:Nat))∧rE ((wrap i64 (v0.1+wrap i64 (iand u32 (ishr u32 b.C5 (wrap u64 v0.2)) 1))):Int)∧rE ((wrap i64 (v0.2+1)):Int)∧True)∧(rE b.C3∧rE b.C5∧True)∧True) (Sum.inl (wrap i64 (v0.1+wrap i64 (iand u32 (ishr u32 b.C5 (wrap u64 v0.2)) 1)),wrap i64 (v0.2+1))))) (.lf (Sum.inr v0.1))
def Qri(b:Q07):Int:=(Qej b).m
theorem Qyx(b:Q07):(Qej b).p:=by
 unfold Tree.p Qej
 repeat'(first|refine w_lp (inv:=Qik b) (μ:=Qbe b) ?_ (Nat.lt_succ_self _) (λ_ _=> ?_)|exact trivial|refine w_br (λ_=> ?_) (λ_=> ?_)|refine w_cn ?_ ?_|refine w_an ?_ ?_|refine w_lv (λ_ _=> ?_)|refine w_nx ?_|refine w_lf ?_|refine And.intro ?_ ?_)
 all_goals((try simp only[Qik,Qbe]at*);((subst_vars;first|trivial|assumption|omega|((simp(config:={decide:=true,failIfUnchanged:=false}) only[Bool.and_eq_true,Bool.or_eq_true,Bool.and_eq_false_iff,Bool.or_eq_false_iff,Bool.not_eq_true',Bool.not_eq_false',Bool.not_eq_true,Bool.not_eq_false,decide_eq_true_eq,decide_eq_false_iff_not,Q3t,Q2i,Q3y,Q2j,beq_iff_eq,beq_eq_false_iff_ne,bne_iff_ne,bne_eq_false_iff_eq,ne_eq,List.all_cons,List.all_nil,D.plain,List.length_cons,List.length_nil,List.length_append,List.length_set,List.length_replicate,IntKind.wrap_i64,IntKind.wrap_u64,IntKind.wrap_u32,IntKind.wrap_i32,IntKind.wrap_u8,true_and,and_true,or_false,false_or,or_true,true_or,not_true_eq_false,not_false_eq_true,Prod.fst,Prod.snd]at*);first|done|assumption|omega)|((simp(config:={decide:=true,failIfUnchanged:=false}) only[Bool.and_eq_true,Bool.or_eq_true,Bool.and_eq_false_iff,Bool.or_eq_false_iff,Bool.not_eq_true',Bool.not_eq_false',Bool.not_eq_true,Bool.not_eq_false,decide_eq_true_eq,decide_eq_false_iff_not,Q3t,Q2i,Q3y,Q2j,beq_iff_eq,beq_eq_false_iff_ne,bne_iff_ne,bne_eq_false_iff_eq,ne_eq,List.all_cons,List.all_nil,D.plain,List.length_cons,List.length_nil,List.length_append,List.length_set,List.length_replicate,IntKind.wrap_i64,IntKind.wrap_u64,IntKind.wrap_u32,IntKind.wrap_i32,IntKind.wrap_u8,true_and,and_true,or_false,false_or,or_true,true_or,not_true_eq_false,not_false_eq_true,Prod.fst,Prod.snd]at*);simp only[←List.length_pos_iff]at*;omega)|(simp_all;done)|(have:= @Qf2;simp_all;try omega))))
def Z3c:LInv:={
 α:=(Int)×(Int)
 F:=λst a=>([(1, .ptr 0 0 0),(3, .int i64 a.1),(4, .int i64 a.2)],[⟨true,40,2, .gen [[(cT st 1 0),(cT st 1 1)]]⟩])
 a0:=λst=>((lk st 3).toInt,(lk st 4).toInt)
 ex0:=λst=>[]++[(Q0o (lk st 1) (st.rows.length+0))]
 next:=λst=>((lk st 3).toInt,(lk st 4).toInt)
 ex:=λst=>[]++[(Q0o (lk st 1) (st.rows.length+0))]}
def Qxu:List (Nat×LInv):=[(3,Z3c)]
def Z8f:Q09:=mkR 177 [] true [.agg Q07.sig] [] (λargs rows=>Qri (Q07.of (args.getD 0 .dead).cells)) (λX=> .int .i64 X) (λX=>[])
theorem Qoe:Q01 Tryz.prog Z8f:=Q0p drawn Q0g (.nil) Tryz.func177 Tryz.call177 (λargs rows=>Qej (Q07.of (args.getD 0 .dead).cells)) [] Qxu 3 (λ_ _ _=>by kernel_rfl) (λ_ _=>rfl) (λargs rows=>Qyx (Q07.of (args.getD 0 .dead).cells)) (λ_ X=>by kernel_rfl)
def Qaf(b:Q07):Tree Bool:=
.lv (Qri b) λ(x0:Int)=> .lf (wrap u64 x0 !=wrap u64 b.C3)
def Qdo(b:Q07):Bool:=(Qaf b).m
def Qju:Q09:=mkR 109 [] true [.agg Q07.sig] [] (λargs rows=>Qdo (Q07.of (args.getD 0 .dead).cells)) (λX=> .bool X) (λX=>[])
theorem Qi4:Q01 Tryz.prog Qju:=Q0p drawn Q0g (.cons Qoe (.nil)) Tryz.func109 Tryz.call109 (λargs rows=>Qaf (Q07.of (args.getD 0 .dead).cells)) [] [] 2 (λ_ _ _=>by kernel_rfl) (λ_ _=>rfl) (λ_ _=>Tree.free_ok (by kernel_rfl)) (λ_ X=>by kernel_rfl)
def Qar(m:Q00):Tree Int:=
.lv (Qgb m.A9) λ(x0:Bool)=> .an (Q62 x0 0) (.lv (Qfi x0 0) λ(x1:Int)=> .lv (Qdu m.A1) λ(x2:Bool)=> .an (Q62 x2 1) (.lv (Qfi x2 1) λ(x3:Int)=> .lv (Qhm m.B0) λ(x4:Bool)=> .an (Q62 x4 2) (.lv (Qfi x4 2) λ(x5:Int)=> .lv (Qjr m.C2) λ(x6:Bool)=> .an (Q62 x6 3) (.lv (Qfi x6 3) λ(x7:Int)=> .lv (Qdo m.A0) λ(x8:Bool)=> .an (Q62 x8 4) (.lv (Qfi x8 4) λ(x9:Int)=> .lf (ior u32 (ior u32 (ior u32 (ior u32 x1 x3) x5) x7) x9))))))
def Z1m(m:Q00):Int:=(Qar m).m
abbrev Qlc(m:Q00):Prop:=(Qar m).p
def Z7h:Q09:=mkP 27 [] true [.agg Q00.sig] [] (λargs rows=>Qlc (Q00.of (args.getD 0 .dead).cells)) (λargs rows=>Z1m (Q00.of (args.getD 0 .dead).cells)) (λX=> .int .u32 X) (λX=>[])
theorem Z3w:Q01 Tryz.prog Z7h:=Q0j drawn Q0g (.cons Z7o (.cons Ql6 (.cons Qi5 (.cons Qm3 (.cons Qp9 (.cons Qi4 (.nil))))))) Tryz.func27 Tryz.call27 (λargs rows=>Qar (Q00.of (args.getD 0 .dead).cells)) [] [] 2 (λ_ _ _=>by kernel_rfl) (λ_ _=>rfl) (λ_ _ h=>h) (λ_ X=>by kernel_rfl)
def Q6z(m:Q00):Tree Int:=
.an (Qlc m) (.lv (Z1m m) λ(x0:Int)=> .lf (iand u32 x0 m.B1.B5.a7))
def Qj(m:Q00):Int:=(Q6z m).m
abbrev Qb9(m:Q00):Prop:=(Q6z m).p
def Z03:Q09:=mkP 111 [] true [.agg Q00.sig] [] (λargs rows=>Qb9 (Q00.of (args.getD 0 .dead).cells)) (λargs rows=>Qj (Q00.of (args.getD 0 .dead).cells)) (λX=> .int .u32 X) (λX=>[])
theorem Qjw:Q01 Tryz.prog Z03:=Q0j drawn Q0g (.cons Z3w (.nil)) Tryz.func111 Tryz.call111 (λargs rows=>Q6z (Q00.of (args.getD 0 .dead).cells)) [] [] 2 (λ_ _ _=>by kernel_rfl) (λ_ _=>rfl) (λ_ _ h=>h) (λ_ X=>by kernel_rfl)
def Qda(m:Q00):Tree Bool:=
.br m.A2 (.an (Qb9 m) (.lv (Qj m) λ(x0:Int)=> .lf (x0==0))) (.lf false)
def Z6b(m:Q00):Bool:=(Qda m).m
abbrev Qp2(m:Q00):Prop:=(Qda m).p
def Zb9:Q09:=mkP 29 [] true [.agg Q00.sig] [] (λargs rows=>Qp2 (Q00.of (args.getD 0 .dead).cells)) (λargs rows=>Z6b (Q00.of (args.getD 0 .dead).cells)) (λX=> .bool X) (λX=>[])
theorem Z68:Q01 Tryz.prog Zb9:=Q0j drawn Q0g (.cons Qjw (.nil)) Tryz.func29 Tryz.call29 (λargs rows=>Qda (Q00.of (args.getD 0 .dead).cells)) [] [] 2 (λ_ _ _=>by kernel_rfl) (λ_ _=>rfl) (λ_ _ h=>h) (λ_ X=>by kernel_rfl)
end
end Go.Proofs.YtmalmklaonainaaGreat

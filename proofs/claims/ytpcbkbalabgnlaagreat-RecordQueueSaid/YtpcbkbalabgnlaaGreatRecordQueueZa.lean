/-
  Functions of the program: models, and that its calls come to them (by a program: gen3.py).
-/
import Derived.Test.YtpcbkbalabgnlaaGreatRecordQueueBase
import Derived.Test.YtpcbkbalabgnlaaGreatRecordQueueYe
set_option linter.unusedVariables false
set_option linter.unusedSimpArgs false
namespace Go.Proofs.YtpcbkbalabgnlaaGreat
open Go Go.GD Go.IntKind
set_option maxRecDepth 100000
noncomputable section
def Qmo(m:(List Int)):Tree (List Int):=
.cn (Nat.blt (0:Nat) (1:Nat)&&Nat.beq (1:Nat) (1:Nat)&&List.all [D.int u32 (0:Int)] D.plain&&decide ((0:Int)≤(m.length:Int)∧(m.length:Int)≤(m.length:Int)∧(m.length:Int)≤(9223372036854775807:Int)∧(↑(4:Nat):Int)*(m.length:Int)≤(140737488355328:Int))) (let E1:=List.length (List.replicate (Int.toNat (m.length:Int)) (0:Int)); .lf (List.take (Min.min (m.length) E1) m++List.drop (Min.min (m.length) E1) (List.replicate (Int.toNat (m.length:Int)) (0:Int))))
def Qu5(m:(List Int)):(List Int):=(Qmo m).m
abbrev Z02(m:(List Int)):Prop:=(Qmo m).p
def Qpl(m:Q00):Tree Q00:=
.an (Z02 m.Mem) (.lv (Qu5 m.Mem) λ(x0:List Int)=> .lf ({B4:=m.B4,Mem:=x0,A2:=m.A2,A9:=m.A9,B2:=m.B2,C6:=m.C6,A1:=m.A1,A4:=m.A4,A3:=m.A3,A6:=m.A6}))
def Qsh(m:Q00):Q00:=(Qpl m).m
abbrev Qqq(m:Q00):Prop:=(Qpl m).p
def Qlf(n:Int)(k:Int)(z:(Int)×(List Int)):Prop:=0≤z.1∧(z.2.length:Int)=z.1∧(z.1≤k∨z.1=0)
def Qb4(n:Int)(k:Int)(z:(Int)×(List Int)):Nat:=(k-z.1).toNat
def Qci(n:Int)(k:Int):Tree (List UInt8):=
.lp inferInstance (Qb4 n k (0,[])+1) ((rE (n:Int)∧rE (k:Int)∧True∧rE (0:Int)∧True)∧rE ([]:List Int)∧True) (0,[]) λ(v0:Int×List Int)=> .br (decide (v0.1<k)) (.lv (Qnj n (wrap i64 (Int.tdiv v0.1 9))) λ(x0:Int)=> .cn (decide (1*(v0.2.length+1)≤140737488355328)) (.nx ((rE (n:Int)∧rE (k:Int)∧True∧rE ((wrap i64 (v0.1+1)):Int)∧True)∧rE ((v0.2++[wrap u8 x0]):List Int)∧True) (Sum.inl (wrap i64 (v0.1+1),v0.2++[wrap u8 x0])))) (.lf (Sum.inr (bytesOf v0.2)))
def Qob(n:Int)(k:Int):(List UInt8):=(Qci n k).m
def Q98(n:Int)(k:Int):Prop:=
k≤1000000000000
theorem Z1j(n:Int)(k:Int)(hw:Q98 n k):(Qci n k).p:=by
 simp only[Q98]at hw
 unfold Tree.p Qci
 repeat'(first|refine w_lp (inv:=Qlf n k) (μ:=Qb4 n k) ?_ (Nat.lt_succ_self _) (λ_ _=> ?_)|exact trivial|refine w_br (λ_=> ?_) (λ_=> ?_)|refine w_cn ?_ ?_|refine w_an ?_ ?_|refine w_lv (λ_ _=> ?_)|refine w_nx ?_|refine w_lf ?_|refine And.intro ?_ ?_)
 all_goals((try simp only[Qlf,Qb4]at*);((subst_vars;first|trivial|assumption|omega|((simp(config:={decide:=true,failIfUnchanged:=false}) only[Bool.and_eq_true,Bool.or_eq_true,Bool.and_eq_false_iff,Bool.or_eq_false_iff,Bool.not_eq_true',Bool.not_eq_false',Bool.not_eq_true,Bool.not_eq_false,decide_eq_true_eq,decide_eq_false_iff_not,Qhr,Qg8,Qif,Qgd,beq_iff_eq,beq_eq_false_iff_ne,bne_iff_ne,bne_eq_false_iff_eq,ne_eq,List.all_cons,List.all_nil,D.plain,List.length_cons,List.length_nil,List.length_append,List.length_set,List.length_replicate,IntKind.wrap_i64,IntKind.wrap_u64,IntKind.wrap_u32,IntKind.wrap_i32,IntKind.wrap_u8,true_and,and_true,or_false,false_or,or_true,true_or,not_true_eq_false,not_false_eq_true,Prod.fst,Prod.snd]at*);first|done|assumption|omega)|((simp(config:={decide:=true,failIfUnchanged:=false}) only[Bool.and_eq_true,Bool.or_eq_true,Bool.and_eq_false_iff,Bool.or_eq_false_iff,Bool.not_eq_true',Bool.not_eq_false',Bool.not_eq_true,Bool.not_eq_false,decide_eq_true_eq,decide_eq_false_iff_not,Qhr,Qg8,Qif,Qgd,beq_iff_eq,beq_eq_false_iff_ne,bne_iff_ne,bne_eq_false_iff_eq,ne_eq,List.all_cons,List.all_nil,D.plain,List.length_cons,List.length_nil,List.length_append,List.length_set,List.length_replicate,IntKind.wrap_i64,IntKind.wrap_u64,IntKind.wrap_u32,IntKind.wrap_i32,IntKind.wrap_u8,true_and,and_true,or_false,false_or,or_true,true_or,not_true_eq_false,not_false_eq_true,Prod.fst,Prod.snd]at*);simp only[←List.length_pos_iff]at*;omega)|(simp_all;done)|(have:= @Z0y;simp_all;try omega))))
def Z5f:LInv:={
 α:=(Int)×(List Int)
 F:=λst a=>([(0,(lk st 0)),(1,(lk st 1)),(5, .all 0),(6, .int i64 a.1)],[⟨false,5,1, .ints u8 a.2⟩])
 a0:=λst=>((lk st 6).toInt,(Qgb st.rows (rN st 5)))
 ex0:=λst=>[]++[(Q1l (lk st 5) (st.rows.length+0))]
 next:=λst=>((lk st 6).toInt,(Qgb st.rows (rN st 5)))
 ex:=λst=>[]++[(Q1l (lk st 5) (st.rows.length+0))]}
def Qwg:List (Nat×LInv):=[(3,Z5f)]
def Z73:Q0f:=mkP 46 [] true [.one (.int .i64), .one (.int .i64)] [] (λargs rows=>Q98 (argI args 0) (argI args 1)) (λargs rows=>Qob (argI args 0) (argI args 1)) (λX=> .str X) (λX=>[])
theorem Z3s:Q09 Tryz.prog Z73:=Q0x Q0o Q0p (.cons Qt4 (.nil)) Tryz.func46 Tryz.call46 (λargs rows=>Qci (argI args 0) (argI args 1)) [] Qwg 3 (λ_ _ _=>by kernel_rfl) (λ_ _=>rfl) (λargs rows h=>Z1j (argI args 0) (argI args 1) h) (λ_ X=>by kernel_rfl)
def Qma(r:Q01):Tree Q01:=
.an (Qqq r.A0) (.lv (Qsh r.A0) λ(x0:Q00)=> .cn (decide (40*(0+r.D0.length)≤140737488355328)) (.cn (decide (32*(0+r.A7.length)≤140737488355328)) (.lf ({A0:=x0,B1:=r.B1,D0:=r.D0,A7:=r.A7}))))
def Qtt(r:Q01):Q01:=(Qma r).m
abbrev Z0q(r:Q01):Prop:=(Qma r).p
def Qnf(e:Q08):Tree Bool:=
.br (e.B8==1) (.lf (decide (e.C5=[]))) (.br (e.B8==6) (.lf (decide (e.C5=[]))) (.br (e.B8==2) (.br (e.N==0) (.lf (decide (e.C5=[]))) (.lf false)) (.br (e.B8==3) (.br (decide (e.N≤255)) (.lf (decide (e.C5=[]))) (.lf false)) (.br (e.B8==4) (.br (decide (e.N≤1)) (.br (decide (e.C5=[])) (.lf true) (.br (e.N==1) (.lf ((e.C5.length:Int)==(128:Int))) (.lf false))) (.lf false)) (.br (e.B8==5) (.br (e.N==0) (.br (decide ((e.C5.length:Int)≥(1:Int))) (.lf (decide ((e.C5.length:Int)≤(128:Int)))) (.lf false)) (.lf false)) (.lf false))))))
def Q5j(e:Q08):Bool:=(Qnf e).m
def Qlj(r:Q01)(e:Q08):Tree (Q01×Bool):=
.an (Z0q r) (.lv (Qtt r) λ(x0:Q01)=> .lv (Q5j e) λ(x1:Bool)=> .br (!x1) (.lf (x0,false)) (.br (e.B8==1) (.lf (x0,false)) (.br (decide ((x0.A7.length:Int)≥(16:Int))) (.lf (x0,false)) (.cn (decide (32*(x0.A7.length+1)≤140737488355328)) (.lf ({A0:=x0.A0,B1:=x0.B1,D0:=x0.D0,A7:=x0.A7++[e]},true))))))
def Q8a(r:Q01)(e:Q08):(Q01×Bool):=(Qlj r e).m
def Q8i(n:Int):Tree Q08:=
.lv (Qnj n 2) λ(x0:Int)=> .br (Int.tmod x0 (7:Int)==(0:Int)) (.lf ({B8:=2,N:=0,C5:=[]})) (.br (Int.tmod x0 (7:Int)==(1:Int)) (.lf ({B8:=3,N:=wrap u32 (iand i64 (ishr i64 x0 8) 255),C5:=[]})) (.br (Int.tmod x0 (7:Int)==(2:Int)) (.lf ({B8:=3,N:=wrap u32 (iand i64 (ishr i64 x0 8) 255),C5:=[]})) (.br (Int.tmod x0 (7:Int)==(3:Int)) (.lf ({B8:=4,N:=1,C5:=[]})) (.br (Int.tmod x0 (7:Int)==(4:Int)) (.an (Q98 x0 128) (.lv (Qob x0 128) λ(x1:List UInt8)=> .lf ({B8:=4,N:=1,C5:=x1}))) (.br (Int.tmod x0 (7:Int)==(5:Int)) (let E1:=wrap i64 (1+Int.tmod (ishr i64 x0 8) 40); .an (Q98 x0 E1) (.lv (Qob x0 E1) λ(x2:List UInt8)=> .lf ({B8:=5,N:=0,C5:=x2}))) (.br (Int.tmod (ishr i64 x0 8) (4:Int)==(0:Int)) (.lf ({B8:=4,N:=0,C5:=[]})) (.lf ({B8:=6,N:=wrap u32 (Int.tmod (ishr i64 x0 8) 3),C5:=[]}))))))))
def Qku(n:Int):Q08:=(Q8i n).m
abbrev Qlg(n:Int):Prop:=(Q8i n).p
def Z3x:Q0f:=mkP 17 [] true [.one (.int .i64)] [] (λargs rows=>Qlg (argI args 0)) (λargs rows=>Qku (argI args 0)) (λX=> .agg (Q08.cells X)) (λX=>[])
theorem Z1s:Q09 Tryz.prog Z3x:=Q0x Q0o Q0p (.cons Qt4 (.cons Z3s (.nil))) Tryz.func17 Tryz.call17 (λargs rows=>Q8i (argI args 0)) [] [] 2 (λ_ _ _=>by kernel_rfl) (λ_ _=>rfl) (λ_ _ h=>h) (λ_ X=>by kernel_rfl)
def Qqz(m:(List Int)):Tree Int:=
.br (Int.tmod (m.length:Int) (32:Int) !=(0:Int)) (.lf 0) (.br (decide ((m.length:Int)>(1024:Int))) (.lf 0) (.lf (wrap i64 (Int.tdiv (m.length:Int) 32))))
def Q4d(m:(List Int)):Int:=(Qqz m).m
def Qoy(c:Q0c):Tree Bool:=
.lf (decide ((c.D2.length:Int)≤(16:Int)))
def Qk6(c:Q0c):Bool:=(Qoy c).m
def Qjs(t:Q0h):Tree Bool:=
.br t.D6 (.br t.D5 (.lf false) (.br t.D6 (.lf (t.C7 !=0)) (.br t.D5 (.lf true) (.lf (t.C7==0))))) (.br t.D6 (.lf (t.C7 !=0)) (.br t.D5 (.lf true) (.lf (t.C7==0))))
def Q7n(t:Q0h):Bool:=(Qjs t).m
def Qln(d0:Q0b)(pages:Int):Tree Bool:=
.br (decide (d0.Blocks>64)) (.lf false) (.br (decide (d0.B9<0)) (.lf false) (.br (decide (d0.B9>3)) (.lf false) (.br (d0.B9 !=1) (.br (d0.D7==0) (.br (d0.B6==0) (.br (d0.B0==0) (.lf (decide (d0.C3=[]))) (.lf false)) (.lf false)) (.lf false)) (.br (decide (d0.B6≥d0.Blocks)) (.lf false) (.br (decide (wrap i64 d0.B0≥pages)) (.lf false) (.br (d0.D7==1) (.br (decide (d0.C3=[])) (.lf true) (.br (d0.D7==2) (.lf ((d0.C3.length:Int)==(128:Int))) (.lf false))) (.br (d0.D7==2) (.lf ((d0.C3.length:Int)==(128:Int))) (.lf false))))))))
def Qg1(d0:Q0b)(pages:Int):Bool:=(Qln d0 pages).m
def Qnv(n:Q0k)(pages:Int):Tree Bool:=
let T1:Tree (Bool):= .br n.B7 (.br (decide (n.F2≥1)) (.lf (decide (n.F2≤128))) (.lf false)) (.lf (n.F2==0)); .br n.C4 (.br n.B7 (.lf false) (.br (decide (wrap i64 n.C0≥pages)) (.lf false) (.br (!n.C4) (.br (n.C0 !=0) (.lf false) T1) T1))) (.br (!n.C4) (.br (n.C0 !=0) (.lf false) T1) T1)
def Qhn(n:Q0k)(pages:Int):Bool:=(Qnv n pages).m
def Qd5(b:Q07)(pages:Int)(z:(Int)):Nat:=(32-z).toNat
def Qc5(b:Q07)(pages:Int):Tree Bool:=
.lp inferInstance (Qd5 b pages 0+1) ((rE (pages:Int)∧(rE (0:Nat)∧rE (0:Nat))∧rE (0:Int)∧True)∧(rE b.C8∧rE b.C2∧True)∧True) 0 λ(v0:Int)=> .br (decide (v0<32)) (.cn (decide (0≤wrap u64 v0)) (let T1:Tree ((Int)⊕(Bool)):= .nx ((rE (pages:Int)∧(rE (0:Nat)∧rE (0:Nat))∧rE ((wrap i64 (v0+1)):Int)∧True)∧(rE b.C8∧rE b.C2∧True)∧True) (Sum.inl (wrap i64 (v0+1))); .br (iand u32 (ishr u32 b.C2 (wrap u64 v0)) (1:Int)==(1:Int)) (.br (decide (v0≥pages)) (.lf (Sum.inr false)) T1) T1)) (.lf (Sum.inr true))
def Qbb(b:Q07)(pages:Int):Bool:=(Qc5 b pages).m
def Qz8(m:Q00):Tree Bool:=
.lv (Q4d m.Mem) λ(x0:Int)=> .br (decide (x0<1)) (.lf false) (.br (m.B4.X.a0 !=0) (.lf false) (.br (decide (m.B4.B5.a0>31)) (.lf false) (.br (decide (m.B4.B5.a7>31)) (.lf false) (.br (decide (m.B4.B5.a6>255)) (.lf false) (.br (Int.tmod m.B4.B5.a1 (4:Int) !=(0:Int)) (.lf false) (.lv (Qk6 m.A2) λ(x1:Bool)=> .br (!x1) (.lf false) (.lv (Q7n m.A9) λ(x2:Bool)=> .br (!x2) (.lf false) (.lv (Qg1 m.B2 x0) λ(x3:Bool)=> .br (!x3) (.lf false) (.lv (Qhn m.C6 x0) λ(x4:Bool)=> .br (!x4) (.lf false) (.lv (Qbb m.A1 x0) λ(x5:Bool)=> .br (!x5) (.lf false) (.br (decide (m.A4≤1152921504606846976)) (.br m.A3 (.lf (!m.A6)) (.lf true)) (.lf false))))))))))))
def Q7f(m:Q00):Bool:=(Qz8 m).m
def Qm3(t:Q0h):Tree (Q0h×Bool):=
.br (!t.D6) (.lf (t,false)) (.lf ({D6:=false,C7:=t.C7,D5:=true},true))
def Qna(t:Q0h):(Q0h×Bool):=(Qm3 t).m
def Qc9(c:Q0c)(b:Int):Tree (Q0c×Bool):=
.br (decide ((c.D2.length:Int)≥(16:Int))) (.lf (c,false)) (.cn (decide (c.D2.length+1≤maxLen)) (.lf ({D2:=c.D2++[(λ(n:Int)=>UInt8.ofNat n.toNat) b]},true)))
def Qn0(c:Q0c)(b:Int):(Q0c×Bool):=(Qc9 c b).m
abbrev Z0n(c:Q0c)(b:Int):Prop:=(Qc9 c b).p
def Qie(m:(List Int))(frame:Int):Tree Bool:=
.lv (Q4d m) λ(x0:Int)=> .lf (decide (wrap u64 frame<wrap u64 x0))
def Q25(m:(List Int))(frame:Int):Bool:=(Qie m frame).m
def Qee(m:(List Int))(addr:Int)(size:Int)(v:Int):Tree (List Int):=
let E1:=Nat.beq 1 1&&Nat.blt 0 1&&decide (0≤wrap u32 (Int.tdiv addr 4)∧wrap u32 (Int.tdiv addr 4)<(m.length:Int));let E2:=Int.toNat (wrap u32 (Int.tdiv addr 4)); .br (size==4) (.cn E1 (.lf (List.set m E2 v))) (.cn E1 (let E3:=decide (0≤wrap u32 (8*Int.tmod addr 4)); .cn E3 (.cn E3 (.cn E1 (.lf (List.set m E2 (ior u32 (Qe8 u32 (m.getD E2 0) (ishl u32 255 (wrap u32 (8*Int.tmod addr 4)))) (ishl u32 (iand u32 v 255) (wrap u32 (8*Int.tmod addr 4))))))))))
def Qa9(m:(List Int))(addr:Int)(size:Int)(v:Int):(List Int):=(Qee m addr size v).m
abbrev Qg5(m:(List Int))(addr:Int)(size:Int)(v:Int):Prop:=(Qee m addr size v).p
def Qet(m:(List Int))(frame:Int)(s:(List UInt8))(z:(Int)×(List Int)):Nat:=(128-z.1).toNat
def Qaj(m:(List Int))(frame:Int)(s:(List UInt8)):Tree (List Int):=
.lp inferInstance (Qet m frame s (0,m)+1) ((True∧rE (frame:Int)∧rE (s:List UInt8)∧rE (0:Int)∧True)∧rE (m:List Int)∧True) (0,m) λ(v0:Int×List Int)=> .br (decide (v0.1<(s.length:Int))) (.br (decide (v0.1<128)) (.cn (decide (0≤v0.1∧v0.1<(s.length:Int))) (let E1:=wrap u32 (↑(UInt8.toNat (s.getD v0.1.toNat (0:UInt8))):Int);let E2:=wrap u32 (wrap i64 (wrap i64 (frame*128)+v0.1)); .an (Qg5 v0.2 E2 1 E1) (.lv (Qa9 v0.2 E2 1 E1) λ(x0:List Int)=> .nx ((True∧rE (frame:Int)∧rE (s:List UInt8)∧rE ((wrap i64 (v0.1+1)):Int)∧True)∧rE (x0:List Int)∧True) (Sum.inl (wrap i64 (v0.1+1),x0))))) (.lf (Sum.inr v0.2))) (.lf (Sum.inr v0.2))
def Qjc(m:(List Int))(frame:Int)(s:(List UInt8)):(List Int):=(Qaj m frame s).m
abbrev Qnc(m:(List Int))(frame:Int)(s:(List UInt8)):Prop:=(Qaj m frame s).p
def Q7a(d0:Q0b)(m:(List Int))(e:Q08):Tree (Q0b×Bool×(List Int)):=
.br (d0.B9 !=1) (.lf (d0,false,m)) (.br (e.B8 !=4) (.lf (d0,false,m)) (.br (decide (e.N>1)) (.lf (d0,false,m)) (let E4:=({Blocks:=d0.Blocks,C1:=d0.C1,B3:=d0.B3,B9:=2,D7:=0,B6:=0,B0:=0,C3:=[]}:Q0b);let E5:=({Blocks:=d0.Blocks,C1:=d0.C1,B3:=d0.B3,B9:=3,D7:=0,B6:=0,B0:=0,C3:=[]}:Q0b);let T2:Tree ((Q0b×Bool×(List Int))):= .br (e.N==1) (.lf (E4,true,m)) (.lf (E5,true,m));let E6:=decide ((e.C5.length:Int)>(0:Int)); .br (e.N==1) (let T1:Tree ((Q0b×Bool×(List Int))):= .br (d0.D7==1) (.an (Qnc m (wrap i64 d0.B0) e.C5) (.lv (Qjc m (wrap i64 d0.B0) e.C5) λ(x1:List Int)=> .br (e.N==1) (.lf (E4,true,x1)) (.lf (E5,true,x1)))) T2;let T3:Tree ((Q0b×Bool×(List Int))):= .br (!d0.D7==1) (.br E6 (.lf (d0,false,m)) T1) T1; .br (d0.D7==1) (.br ((e.C5.length:Int) !=(128:Int)) (.lf (d0,false,m)) (.lv (Q25 m d0.B0) λ(x0:Bool)=> .br (!x0) (.lf (d0,false,m)) T3)) T3) (.br E6 (.lf (d0,false,m)) T2))))
def Qaf(d0:Q0b)(m:(List Int))(e:Q08):(Q0b×Bool×(List Int)):=(Q7a d0 m e).m
abbrev Qv0(d0:Q0b)(m:(List Int))(e:Q08):Prop:=(Q7a d0 m e).p
def Q79(n:Q0k)(m:(List Int))(frame:(List UInt8)):Tree (Q0k×Bool×(List Int)):=
.br (!n.C4) (.lf (n,false,m)) (.br (decide ((frame.length:Int)<(1:Int))) (.lf (n,false,m)) (.br (decide ((frame.length:Int)>(128:Int))) (.lf (n,false,m)) (.lv (Q25 m n.C0) λ(x0:Bool)=> .br (!x0) (.lf (n,false,m)) (.an (Qnc m (wrap i64 n.C0) frame) (.lv (Qjc m (wrap i64 n.C0) frame) λ(x1:List Int)=> .lf ({B3:=n.B3,F0:=n.F0,C4:=false,C0:=0,B7:=true,F2:=wrap u32 (frame.length:Int)},true,x1))))))
def Qag(n:Q0k)(m:(List Int))(frame:(List UInt8)):(Q0k×Bool×(List Int)):=(Q79 n m frame).m
abbrev Qtc(n:Q0k)(m:(List Int))(frame:(List UInt8)):Prop:=(Q79 n m frame).p
def Q8q(m:Q00)(e:Q08):Tree (Bool×Q00):=
.br m.A6 (.lf (false,m)) (let T1:Tree ((Bool×Q00)):= .br (e.B8==4) (.an (Qv0 m.B2 m.Mem e) (.lv (Qaf m.B2 m.Mem e) λ(x2:Q0b×Bool×List Int)=> .lf (x2.2.1,{B4:=m.B4,Mem:=x2.2.2,A2:=m.A2,A9:=m.A9,B2:=x2.1,C6:=m.C6,A1:=m.A1,A4:=m.A4,A3:=m.A3,A6:=m.A6}))) (let T3:Tree ((Bool×Q00)):= .br (e.B8==6) (.br (decide (e.C5=[])) (.lf (true,{B4:=m.B4,Mem:=m.Mem,A2:=m.A2,A9:=m.A9,B2:=m.B2,C6:=m.C6,A1:={C8:=e.N,C2:=m.A1.C2},A4:=m.A4,A3:=m.A3,A6:=m.A6})) (.lf (false,m))) (.lf (false,m)); .br (e.B8==5) (.br (e.N==0) (.an (Qtc m.C6 m.Mem e.C5) (.lv (Qag m.C6 m.Mem e.C5) λ(x3:Q0k×Bool×List Int)=> .lf (x3.2.1,{B4:=m.B4,Mem:=x3.2.2,A2:=m.A2,A9:=m.A9,B2:=m.B2,C6:=x3.1,A1:=m.A1,A4:=m.A4,A3:=m.A3,A6:=m.A6}))) T3) T3);let T2:Tree ((Bool×Q00)):= .br (e.B8==3) (.br (decide (e.N≤255)) (.br (decide (e.C5=[])) (.an (Z0n m.A2 (wrap u8 e.N)) (.lv (Qn0 m.A2 (wrap u8 e.N)) λ(x1:Q0c×Bool)=> .lf (x1.2,{B4:=m.B4,Mem:=m.Mem,A2:=x1.1,A9:=m.A9,B2:=m.B2,C6:=m.C6,A1:=m.A1,A4:=m.A4,A3:=m.A3,A6:=m.A6}))) T1) T1) T1; .br (e.B8==2) (.br (e.N==0) (.br (decide (e.C5=[])) (.lv (Qna m.A9) λ(x0:Q0h×Bool)=> .lf (x0.2,{B4:=m.B4,Mem:=m.Mem,A2:=m.A2,A9:=x0.1,B2:=m.B2,C6:=m.C6,A1:=m.A1,A4:=m.A4,A3:=m.A3,A6:=m.A6})) T2) T2) T2)
def Q1v(m:Q00)(e:Q08):(Bool×Q00):=(Q8q m e).m
abbrev Qxe(m:Q00)(e:Q08):Prop:=(Q8q m e).p
def Qhx(is:Bool)(n:Int):Tree Int:=
.br is (.cn (decide (0≤wrap u64 n)) (.lf (ishl u32 1 (wrap u64 n)))) (.lf 0)
def Q9v(is:Bool)(n:Int):Int:=(Qhx is n).m
abbrev Qbn(is:Bool)(n:Int):Prop:=(Qhx is n).p
def Qmd(t:Q0h):Tree Bool:=
.lf t.D5
def Qc0(t:Q0h):Bool:=(Qmd t).m
def Qjv(c:Q0c):Tree Bool:=
.lf (decide ((c.D2.length:Int)>(0:Int)))
def Q78(c:Q0c):Bool:=(Qjv c).m
def Qno(d0:Q0b):Tree Bool:=
.br (d0.B9==2) (.lf true) (.lf (d0.B9==3))
def Qdq(d0:Q0b):Bool:=(Qno d0).m
def Qpy(n:Q0k):Tree Bool:=
.lf n.B7
def Qft(n:Q0k):Bool:=(Qpy n).m
def Qrn(b:Q07)(z:(Int)×(Int)):Nat:=(32-z.2).toNat
def Z23(b:Q07):Tree Int:=
.lp inferInstance (Qrn b (0,0)+1) (((rE (0:Nat)∧rE (0:Nat))∧rE (0:Int)∧rE (0:Int)∧True)∧(rE b.C8∧rE b.C2∧True)∧True) (0,0) λ(v0:Int×Int)=> .br (decide (v0.2<32)) (.cn (decide (0≤wrap u64 v0.2)) (.nx (((rE (0:Nat)∧rE (0:Nat))∧rE ((wrap i64 (v0.1+wrap i64 (iand u32 (ishr u32 b.C2 (wrap u64 v0.2)) 1))):Int)∧rE ((wrap i64 (v0.2+1)):Int)∧True)∧(rE b.C8∧rE b.C2∧True)∧True) (Sum.inl (wrap i64 (v0.1+wrap i64 (iand u32 (ishr u32 b.C2 (wrap u64 v0.2)) 1)),wrap i64 (v0.2+1))))) (.lf (Sum.inr v0.1))
def Qef(b:Q07):Int:=(Z23 b).m
def Qd2(b:Q07):Tree Bool:=
.lv (Qef b) λ(x0:Int)=> .lf (wrap u64 x0 !=wrap u64 b.C8)
def Q5g(b:Q07):Bool:=(Qd2 b).m
def Qgf(m:Q00):Tree Int:=
.lv (Qc0 m.A9) λ(x0:Bool)=> .an (Qbn x0 0) (.lv (Q9v x0 0) λ(x1:Int)=> .lv (Q78 m.A2) λ(x2:Bool)=> .an (Qbn x2 1) (.lv (Q9v x2 1) λ(x3:Int)=> .lv (Qdq m.B2) λ(x4:Bool)=> .an (Qbn x4 2) (.lv (Q9v x4 2) λ(x5:Int)=> .lv (Qft m.C6) λ(x6:Bool)=> .an (Qbn x6 3) (.lv (Q9v x6 3) λ(x7:Int)=> .lv (Q5g m.A1) λ(x8:Bool)=> .an (Qbn x8 4) (.lv (Q9v x8 4) λ(x9:Int)=> .lf (ior u32 (ior u32 (ior u32 (ior u32 x1 x3) x5) x7) x9))))))
def Qh8(m:Q00):Int:=(Qgf m).m
abbrev Qw5(m:Q00):Prop:=(Qgf m).p
def Q9o(m:Q00):Tree Int:=
.an (Qw5 m) (.lv (Qh8 m) λ(x0:Int)=> .lf (iand u32 x0 m.B4.B5.a7))
def Q3m(m:Q00):Int:=(Q9o m).m
abbrev Qiw(m:Q00):Prop:=(Q9o m).p
def Qlx(m:Q00):Tree Bool:=
.br m.A3 (.an (Qiw m) (.lv (Q3m m) λ(x0:Int)=> .lf (x0==0))) (.lf false)
def Qfv(m:Q00):Bool:=(Qlx m).m
abbrev Qzi(m:Q00):Prop:=(Qlx m).p
def Qdk(m:Q00):Tree Bool:=
.lv (Q7f m) λ(x0:Bool)=> .br (!x0) (.lf true) (.br m.A6 (.lf true) (.an (Qzi m) (.lv (Qfv m) λ(x1:Bool)=> .br x1 (.lf true) (.lf (decide (m.A4≥1152921504606846976))))))
def Q19(m:Q00):Bool:=(Qdk m).m
abbrev Qww(m:Q00):Prop:=(Qdk m).p
end
end Go.Proofs.YtpcbkbalabgnlaaGreat

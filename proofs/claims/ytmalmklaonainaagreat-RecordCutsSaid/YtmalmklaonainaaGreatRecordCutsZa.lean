import Derived.Test.YtmalmklaonainaaGreatRecordCutsBase
import Derived.Test.YtmalmklaonainaaGreatRecordCutsYe
set_option maxRecDepth 100000
set_option linter.all false
namespace Go.Proofs.YtmalmklaonainaaGreat
open Go Go.GD Go.IntKind
noncomputable section
def Qe(m:(List Int)):Tree (List Int):=
.cn (Nat.blt (0:Nat) (1:Nat)&&Nat.beq (1:Nat) (1:Nat)&&List.all [D.int u32 (0:Int)] D.plain&&decide ((0:Int)<=(m.length:Int)/\(m.length:Int)<=(m.length:Int)/\(m.length:Int)<=(9223372036854775807:Int)/\(↑(4:Nat):Int)*(m.length:Int)<=(140737488355328:Int))) (let E1:=List.length (List.replicate (Int.toNat (m.length:Int)) (0:Int)); .lf (List.take (Min.min (m.length) E1) m++List.drop (Min.min (m.length) E1) (List.replicate (Int.toNat (m.length:Int)) (0:Int))))
def Qqz(m:(List Int)):(List Int):=(Qe m).m
abbrev Qrn(m:(List Int)):Prop:=(Qe m).p
def Zfl:Q0c:=mkP 122 [] true [.one (.ints .u32)] [] (λargs rows=>Qrn (argL .u32 args 0)) (λargs rows=>Qqz (argL .u32 args 0)) (λX=> .all 0) (λX=>[⟨false,25,1, .ints .u32 X⟩])
theorem Zcu:Q04 Tryz.prog Zfl:=Q0k drawn Q0h (.nil) Tryz.func122 Tryz.call122 (λargs rows=>Qe (argL .u32 args 0)) [.row 25 1 (.ints .u32)] [] 2
def Qca(m:Q01):Tree Q01:=
.an (Qrn m.Mem) (.lv (Qqz m.Mem) λ(x0:List Int)=> .lf ({B2:=m.B2,Mem:=x0,A4:=m.A4,B0:=m.B0,B1:=m.B1,C4:=m.C4,A1:=m.A1,A3:=m.A3,A6:=m.A6,A9:=m.A9}))
def Qlc(m:Q01):Q01:=(Qca m).m
abbrev Qez(m:Q01):Prop:=(Qca m).p
def Zju:Q0c:=mkP 34 [] true [.agg Q01.sig] [] (λargs rows=>Qez (Q01.of (aC args 0))) (λargs rows=>Qlc (Q01.of (aC args 0))) (λX=> .agg (Q01.cellsW X (.all 0))) (λX=>[⟨false,25,1, .ints .u32 X.Mem⟩])
theorem Qqj:Q04 Tryz.prog Zju:=Q0k drawn Q0h (.cons Zcu (.nil)) Tryz.func34 Tryz.call34 (λargs rows=>Qca (Q01.of (aC args 0))) [.row 25 1 (.ints .u32)] [] 2
def Qph(n:Int)(k:Int)(z:(Int)×(List Int)):Prop:=0<=z.1/\(z.2.length:Int)=z.1/\(z.1<=k\/z.1=0)
def Qcu(n:Int)(k:Int)(z:(Int)×(List Int)):Nat:=(k-z.1).toNat
def Qdr(n:Int)(k:Int):Tree (List UInt8):=
.lp inferInstance (Qcu n k (0,[])+1) ((rE (n:Int)/\rE (k:Int)/\True/\rE (0:Int)/\True)/\rE ([]:List Int)/\True) (0,[]) λ(v0:Int×List Int)=> .br (decide (v0.1<k)) (.lv (Q4o n (wrap i64 (Int.tdiv v0.1 9))) λ(x0:Int)=> .cn (decide (1*(v0.2.length+1)<=140737488355328)) (.nx ((rE (n:Int)/\rE (k:Int)/\True/\rE ((wrap i64 (v0.1+1)):Int)/\True)/\rE ((v0.2++[wrap u8 x0]):List Int)/\True) (Sum.inl (wrap i64 (v0.1+1),v0.2++[wrap u8 x0])))) (.lf (Sum.inr (bytesOf v0.2)))
def Qsf(n:Int)(k:Int):(List UInt8):=(Qdr n k).m
def Qae(n:Int)(k:Int):Prop:=
k<=1000000000000
theorem Z8l(n:Int)(k:Int)(hw:Qae n k):(Qdr n k).p:=by
 simp only[Qae]at hw
 unfold Tree.p Qdr
 repeat'(first|refine w_lp (inv:=Qph n k) (μ:=Qcu n k) ?_ (Nat.lt_succ_self _) (λ_ _=> ?_)|exact trivial|refine w_br (λ_=> ?_) (λ_=> ?_)|refine w_cn ?_ ?_|refine w_an ?_ ?_|refine w_lv (λ_ _=> ?_)|refine w_nx ?_|refine w_lf ?_|refine And.intro ?_ ?_)
 all_goals((try simp only[Qph,Qcu]at*);exact fin0)
def Zae:LInv:={
 α:=(Int)×(List Int)
 F:=λst a=>([(0,(lk st 0)),(1,(lk st 1)),(5, .all 0),(6, .int i64 a.1)],[⟨false,5,1, .ints u8 a.2⟩])
 a0:=λst=>((lk st 6).toInt,(Q4s st.rows (rN st 5)))
 ex0:=λst=>[]++[(Q0m (lk st 5) (st.rows.length+0))]
 next:=λst=>((lk st 6).toInt,(Q4s st.rows (rN st 5)))
 ex:=λst=>[]++[(Q0m (lk st 5) (st.rows.length+0))]}
def Z3s:List (Nat×LInv):=[(3,Zae)]
def Zgp:Q0c:=mkP 84 [] true [.one (.int .i64), .one (.int .i64)] [] (λargs rows=>Qae (argI args 0) (argI args 1)) (λargs rows=>Qsf (argI args 0) (argI args 1)) (λX=> .str X) (λX=>[])
theorem Zas:Q04 Tryz.prog Zgp:=Q0k drawn Q0h (.cons Qkk (.nil)) Tryz.func84 Tryz.call84 (λargs rows=>Qdr (argI args 0) (argI args 1)) [] Z3s 3 (hp:=λargs rows h=>Z8l (argI args 0) (argI args 1) h)
def Qec(r:Q00):Tree Q00:=
.an (Qez r.A0) (.lv (Qlc r.A0) λ(x0:Q01)=> .cn (decide (40*(0+r.B9.length)<=140737488355328)) (.cn (decide (32*(0+r.A2.length)<=140737488355328)) (.lf ({A0:=x0,A7:=r.A7,B9:=r.B9,A2:=r.A2}))))
def Qn8(r:Q00):Q00:=(Qec r).m
abbrev Qkj(r:Q00):Prop:=(Qec r).p
def Zg7:Q0c:=mkP 212 [] true [.agg Q00.sig] [] (λargs rows=>Qkj (Q00.of (aC args 0))) (λargs rows=>Qn8 (Q00.of (aC args 0))) (λX=> .agg (Q00.cellsW X (.all 0) (.all 1) (.all 2))) (λX=>[⟨false,25,1, .ints .u32 X.A0.Mem⟩,⟨false,126,4, .recs .apiEntry X.B9⟩,⟨false,66,3, .recs .apiEvent X.A2⟩])
theorem Qwn:Q04 Tryz.prog Zg7:=Q0k drawn Q0h (.cons Qqj (.nil)) Tryz.func212 Tryz.call212 (λargs rows=>Qec (Q00.of (aC args 0))) [.row 25 1 (.ints .u32), .row 126 4 (.recs .apiEntry), .row 66 3 (.recs .apiEvent)] [] 2
def Qs2(e:Q08):Tree Bool:=
.br (e.B7==1) (.lf (decide (e.C6=[]))) (.br (e.B7==6) (.lf (decide (e.C6=[]))) (.br (e.B7==2) (.br (e.N==0) (.lf (decide (e.C6=[]))) (.lf false)) (.br (e.B7==3) (.br (decide (e.N<=255)) (.lf (decide (e.C6=[]))) (.lf false)) (.br (e.B7==4) (.br (decide (e.N<=1)) (.br (decide (e.C6=[])) (.lf true) (.br (e.N==1) (.lf ((e.C6.length:Int)==(128:Int))) (.lf false))) (.lf false)) (.br (e.B7==5) (.br (e.N==0) (.br (decide ((e.C6.length:Int)>=(1:Int))) (.lf (decide ((e.C6.length:Int)<=(128:Int)))) (.lf false)) (.lf false)) (.lf false))))))
def Q3(e:Q08):Bool:=(Qs2 e).m
def Z8q:Q0c:=mkR 154 [] true [.agg Q08.sig] [] (λargs rows=>Q3 (Q08.of (aC args 0))) (λX=> .bool X) (λX=>[])
theorem Z40:Q04 Tryz.prog Z8q:=Q0v drawn Q0h (.nil) Tryz.func154 Tryz.call154 (λargs rows=>Qs2 (Q08.of (aC args 0))) [] [] 2
def Q8d(r:Q00)(e:Q08):Tree (Q00×Bool):=
.an (Qkj r) (.lv (Qn8 r) λ(x0:Q00)=> .lv (Q3 e) λ(x1:Bool)=> .br (!x1) (.lf (x0,false)) (.br (e.B7==1) (.lf (x0,false)) (.br (decide ((x0.A2.length:Int)>=(16:Int))) (.lf (x0,false)) (.cn (decide (32*(x0.A2.length+1)<=140737488355328)) (.lf ({A0:=x0.A0,A7:=x0.A7,B9:=x0.B9,A2:=x0.A2++[e]},true))))))
def Q1w(r:Q00)(e:Q08):(Q00×Bool):=(Q8d r e).m
abbrev Qlx(r:Q00)(e:Q08):Prop:=(Q8d r e).p
def Z3w:Q0c:=mkP 146 [] true [.agg Q00.sig, .agg Q08.sig] [] (λargs rows=>Qlx (Q00.of (aC args 0)) (Q08.of (aC args 1))) (λargs rows=>Q1w (Q00.of (aC args 0)) (Q08.of (aC args 1))) (λX=> .tup [.agg (Q00.cellsW (X.1) (.all 0) (.all 1) (.all 2)), .bool (X.2)]) (λX=>[⟨false,25,1, .ints .u32 (X.1).A0.Mem⟩,⟨false,126,4, .recs .apiEntry (X.1).B9⟩,⟨false,66,3, .recs .apiEvent (X.1).A2⟩])
theorem Z0z:Q04 Tryz.prog Z3w:=Q0k drawn Q0h (.cons Qwn (.cons Z40 (.nil))) Tryz.func146 Tryz.call146 (λargs rows=>Q8d (Q00.of (aC args 0)) (Q08.of (aC args 1))) [.row 25 1 (.ints .u32), .row 126 4 (.recs .apiEntry), .row 66 3 (.recs .apiEvent)] [] 2
def Q9l(n:Int):Tree Q08:=
.lv (Q4o n 2) λ(x0:Int)=> .br (Int.tmod x0 (7:Int)==(0:Int)) (.lf ({B7:=2,N:=0,C6:=[]})) (.br (Int.tmod x0 (7:Int)==(1:Int)) (.lf ({B7:=3,N:=wrap u32 (iand i64 (ishr i64 x0 8) 255),C6:=[]})) (.br (Int.tmod x0 (7:Int)==(2:Int)) (.lf ({B7:=3,N:=wrap u32 (iand i64 (ishr i64 x0 8) 255),C6:=[]})) (.br (Int.tmod x0 (7:Int)==(3:Int)) (.lf ({B7:=4,N:=1,C6:=[]})) (.br (Int.tmod x0 (7:Int)==(4:Int)) (.an (Qae x0 128) (.lv (Qsf x0 128) λ(x1:List UInt8)=> .lf ({B7:=4,N:=1,C6:=x1}))) (.br (Int.tmod x0 (7:Int)==(5:Int)) (let E1:=wrap i64 (1+Int.tmod (ishr i64 x0 8) 40); .an (Qae x0 E1) (.lv (Qsf x0 E1) λ(x2:List UInt8)=> .lf ({B7:=5,N:=0,C6:=x2}))) (.br (Int.tmod (ishr i64 x0 8) (4:Int)==(0:Int)) (.lf ({B7:=4,N:=0,C6:=[]})) (.lf ({B7:=6,N:=wrap u32 (Int.tmod (ishr i64 x0 8) 3),C6:=[]}))))))))
def Qab(n:Int):Q08:=(Q9l n).m
abbrev Qp8(n:Int):Prop:=(Q9l n).p
def Zdv:Q0c:=mkP 76 [] true [.one (.int .i64)] [] (λargs rows=>Qp8 (argI args 0)) (λargs rows=>Qab (argI args 0)) (λX=> .agg (Q08.cells X)) (λX=>[])
theorem Z8d:Q04 Tryz.prog Zdv:=Q0k drawn Q0h (.cons Qkk (.cons Zas (.nil))) Tryz.func76 Tryz.call76 (λargs rows=>Q9l (argI args 0)) [] [] 2
def Qn4(m:(List Int)):Tree Int:=
.br (Int.tmod (m.length:Int) (32:Int) !=(0:Int)) (.lf 0) (.br (decide ((m.length:Int)>(1024:Int))) (.lf 0) (.lf (wrap i64 (Int.tdiv (m.length:Int) 32))))
def Q3l(m:(List Int)):Int:=(Qn4 m).m
def Zai:Q0c:=mkR 93 [] true [.one (.ints .u32)] [] (λargs rows=>Q3l (argL .u32 args 0)) (λX=> .int .i64 X) (λX=>[])
theorem Qcp:Q04 Tryz.prog Zai:=Q0v drawn Q0h (.nil) Tryz.func93 Tryz.call93 (λargs rows=>Qn4 (argL .u32 args 0)) [] [] 2
def Qk0(c:Q0b):Tree Bool:=
.lf (decide ((c.D0.length:Int)<=(16:Int)))
def Qif(c:Q0b):Bool:=(Qk0 c).m
def Qtp:Q0c:=mkR 94 [] true [.agg Q0b.sig] [] (λargs rows=>Qif (Q0b.of (aC args 0))) (λX=> .bool X) (λX=>[])
theorem Qt8:Q04 Tryz.prog Qtp:=Q0v drawn Q0h (.nil) Tryz.func94 Tryz.call94 (λargs rows=>Qk0 (Q0b.of (aC args 0))) [] [] 2
def Qh3(t:Q0f):Tree Bool:=
.br t.D3 (.br t.D2 (.lf false) (.br t.D3 (.lf (t.C7 !=0)) (.br t.D2 (.lf true) (.lf (t.C7==0))))) (.br t.D3 (.lf (t.C7 !=0)) (.br t.D2 (.lf true) (.lf (t.C7==0))))
def Qch(t:Q0f):Bool:=(Qh3 t).m
def Qzp:Q0c:=mkR 95 [] true [.agg Q0f.sig] [] (λargs rows=>Qch (Q0f.of (aC args 0))) (λX=> .bool X) (λX=>[])
theorem Qxu:Q04 Tryz.prog Qzp:=Q0v drawn Q0h (.nil) Tryz.func95 Tryz.call95 (λargs rows=>Qh3 (Q0f.of (aC args 0))) [] [] 2
def Qj5(d0:Q0d)(pages:Int):Tree Bool:=
.br (decide (d0.Blocks>64)) (.lf false) (.br (decide (d0.C0<0)) (.lf false) (.br (decide (d0.C0>3)) (.lf false) (.br (d0.C0 !=1) (.br (d0.D7==0) (.br (d0.B5==0) (.br (d0.B3==0) (.lf (decide (d0.C3=[]))) (.lf false)) (.lf false)) (.lf false)) (.br (decide (d0.B5>=d0.Blocks)) (.lf false) (.br (decide (wrap i64 d0.B3>=pages)) (.lf false) (.br (d0.D7==1) (.br (decide (d0.C3=[])) (.lf true) (.br (d0.D7==2) (.lf ((d0.C3.length:Int)==(128:Int))) (.lf false))) (.br (d0.D7==2) (.lf ((d0.C3.length:Int)==(128:Int))) (.lf false))))))))
def Qf4(d0:Q0d)(pages:Int):Bool:=(Qj5 d0 pages).m
def Z2t:Q0c:=mkR 96 [] true [.agg Q0d.sig, .one (.int .i64)] [] (λargs rows=>Qf4 (Q0d.of (aC args 0)) (argI args 1)) (λX=> .bool X) (λX=>[])
theorem Qza:Q04 Tryz.prog Z2t:=Q0v drawn Q0h (.nil) Tryz.func96 Tryz.call96 (λargs rows=>Qj5 (Q0d.of (aC args 0)) (argI args 1)) [] [] 2
def Ql(n:Q0l)(pages:Int):Tree Bool:=
let T1:Tree (Bool):= .br n.B6 (.br (decide (n.F0>=1)) (.lf (decide (n.F0<=128))) (.lf false)) (.lf (n.F0==0)); .br n.C5 (.br n.B6 (.lf false) (.br (decide (wrap i64 n.B8>=pages)) (.lf false) (.br (!n.C5) (.br (n.B8 !=0) (.lf false) T1) T1))) (.br (!n.C5) (.br (n.B8 !=0) (.lf false) T1) T1)
def Qh8(n:Q0l)(pages:Int):Bool:=(Ql n pages).m
def Z7d:Q0c:=mkR 97 [] true [.agg Q0l.sig, .one (.int .i64)] [] (λargs rows=>Qh8 (Q0l.of (aC args 0)) (argI args 1)) (λX=> .bool X) (λX=>[])
theorem Z3g:Q04 Tryz.prog Z7d:=Q0v drawn Q0h (.nil) Tryz.func97 Tryz.call97 (λargs rows=>Ql (Q0l.of (aC args 0)) (argI args 1)) [] [] 2
def Qg1(b:Q05)(pages:Int)(z:(Int)):Prop:=0<=z/\z<=32
def Q6b(b:Q05)(pages:Int)(z:(Int)):Nat:=(32-z).toNat
def Q51(b:Q05)(pages:Int):Tree Bool:=
.lp inferInstance (Q6b b pages 0+1) ((rE (pages:Int)/\rZ/\rE (0:Int)/\True)/\(rE b.C8/\rE b.C2/\True)/\True) 0 λ(v0:Int)=> .br (decide (v0<32)) (.cn (decide (0<=wrap u64 v0)) (let T1:Tree ((Int)⊕(Bool)):= .nx ((rE (pages:Int)/\rZ/\rE ((wrap i64 (v0+1)):Int)/\True)/\(rE b.C8/\rE b.C2/\True)/\True) (Sum.inl (wrap i64 (v0+1))); .br (iand u32 (ishr u32 b.C2 (wrap u64 v0)) (1:Int)==(1:Int)) (.br (decide (v0>=pages)) (.lf (Sum.inr false)) T1) T1)) (.lf (Sum.inr true))
def Q92(b:Q05)(pages:Int):Bool:=(Q51 b pages).m
theorem Qqf(b:Q05)(pages:Int):(Q51 b pages).p:=by
 unfold Tree.p Q51
 repeat'(first|refine w_lp (inv:=Qg1 b pages) (μ:=Q6b b pages) ?_ (Nat.lt_succ_self _) (λ_ _=> ?_)|exact trivial|refine w_br (λ_=> ?_) (λ_=> ?_)|refine w_cn ?_ ?_|refine w_an ?_ ?_|refine w_lv (λ_ _=> ?_)|refine w_nx ?_|refine w_lf ?_|refine And.intro ?_ ?_)
 all_goals((try simp only[Qg1,Q6b]at*);exact fin0)
def Qrm:LInv:={
 α:=(Int)
 F:=λst a=>([(1,(lk st 1)),(2, .ptr 0 0 0),(5, .int i64 a)],[⟨true,40,2, .gen [[(cT st 2 0),(cT st 2 1)]]⟩])
 a0:=λst=>(lk st 5).toInt
 ex0:=λst=>[]++[(Q0m (lk st 2) (st.rows.length+0))]
 next:=λst=>(lk st 5).toInt
 ex:=λst=>[]++[(Q0m (lk st 2) (st.rows.length+0))]}
def Qot:List (Nat×LInv):=[(2,Qrm)]
def Que:Q0c:=mkR 98 [] true [.agg Q05.sig, .one (.int .i64)] [] (λargs rows=>Q92 (Q05.of (aC args 0)) (argI args 1)) (λX=> .bool X) (λX=>[])
theorem Qrd:Q04 Tryz.prog Que:=Q0v drawn Q0h (.nil) Tryz.func98 Tryz.call98 (λargs rows=>Q51 (Q05.of (aC args 0)) (argI args 1)) [] Qot 3 (λ_ _ _=>by kernel_rfl) (λ_ _=>rfl) (λargs rows=>Qqf (Q05.of (aC args 0)) (argI args 1)) (λ_ X=>by kernel_rfl)
def Qug(m:Q01):Tree Bool:=
.lv (Q3l m.Mem) λ(x0:Int)=> .br (decide (x0<1)) (.lf false) (.br (m.B2.X.a0 !=0) (.lf false) (.br (decide (m.B2.B4.a0>31)) (.lf false) (.br (decide (m.B2.B4.a7>31)) (.lf false) (.br (decide (m.B2.B4.a6>255)) (.lf false) (.br (Int.tmod m.B2.B4.a1 (4:Int) !=(0:Int)) (.lf false) (.lv (Qif m.A4) λ(x1:Bool)=> .br (!x1) (.lf false) (.lv (Qch m.B0) λ(x2:Bool)=> .br (!x2) (.lf false) (.lv (Qf4 m.B1 x0) λ(x3:Bool)=> .br (!x3) (.lf false) (.lv (Qh8 m.C4 x0) λ(x4:Bool)=> .br (!x4) (.lf false) (.lv (Q92 m.A1 x0) λ(x5:Bool)=> .br (!x5) (.lf false) (.br (decide (m.A3<=1152921504606846976)) (.br m.A6 (.lf (!m.A9)) (.lf true)) (.lf false))))))))))))
def Q6d(m:Q01):Bool:=(Qug m).m
def Zjm:Q0c:=mkR 25 [] true [.agg Q01.sig] [] (λargs rows=>Q6d (Q01.of (aC args 0))) (λX=> .bool X) (λX=>[])
theorem Qpy:Q04 Tryz.prog Zjm:=Q0v drawn Q0h (.cons Qcp (.cons Qt8 (.cons Qxu (.cons Qza (.cons Z3g (.cons Qrd (.nil))))))) Tryz.func25 Tryz.call25 (λargs rows=>Qug (Q01.of (aC args 0))) [] [] 2
def Z0a(t:Q0f):Tree (Q0f×Bool):=
.br (!t.D3) (.lf (t,false)) (.lf ({D3:=false,C7:=t.C7,D2:=true},true))
def Qsl(t:Q0f):(Q0f×Bool):=(Z0a t).m
def Zf7:Q0c:=mkR 221 [] true [.agg Q0f.sig] [] (λargs rows=>Qsl (Q0f.of (aC args 0))) (λX=> .tup [.agg (Q0f.cells (X.1)), .bool (X.2)]) (λX=>[])
theorem Qwi:Q04 Tryz.prog Zf7:=Q0v drawn Q0h (.nil) Tryz.func221 Tryz.call221 (λargs rows=>Z0a (Q0f.of (aC args 0))) [] [] 2
def Qhg(c:Q0b)(b:Int):Tree (Q0b×Bool):=
.br (decide ((c.D0.length:Int)>=(16:Int))) (.lf (c,false)) (.cn (decide (c.D0.length+1<=maxLen)) (.lf ({D0:=c.D0++[(λ(n:Int)=>UInt8.ofNat n.toNat) b]},true)))
def Qsh(c:Q0b)(b:Int):(Q0b×Bool):=(Qhg c b).m
abbrev Ql3(c:Q0b)(b:Int):Prop:=(Qhg c b).p
def Zg:Q0c:=mkP 222 [] true [.agg Q0b.sig, .one (.int .u8)] [] (λargs rows=>Ql3 (Q0b.of (aC args 0)) (argI args 1)) (λargs rows=>Qsh (Q0b.of (aC args 0)) (argI args 1)) (λX=> .tup [.agg (Q0b.cells (X.1)), .bool (X.2)]) (λX=>[])
theorem Qwf:Q04 Tryz.prog Zg:=Q0k drawn Q0h (.nil) Tryz.func222 Tryz.call222 (λargs rows=>Qhg (Q0b.of (aC args 0)) (argI args 1)) [] [] 2
def Qgx(m:(List Int))(frame:Int):Tree Bool:=
.lv (Q3l m) λ(x0:Int)=> .lf (decide (wrap u64 frame<wrap u64 x0))
def Q1z(m:(List Int))(frame:Int):Bool:=(Qgx m frame).m
def Zg0:Q0c:=mkR 269 [] true [.one (.ints .u32), .one (.int .u32)] [] (λargs rows=>Q1z (argL .u32 args 0) (argI args 1)) (λX=> .bool X) (λX=>[])
theorem Qfg:Q04 Tryz.prog Zg0:=Q0v drawn Q0h (.cons Qcp (.nil)) Tryz.func269 Tryz.call269 (λargs rows=>Qgx (argL .u32 args 0) (argI args 1)) [] [] 2
def Qe5(m:(List Int))(addr:Int)(size:Int)(v:Int):Tree (List Int):=
let E1:=Nat.beq 1 1&&Nat.blt 0 1&&decide (0<=wrap u32 (Int.tdiv addr 4)/\wrap u32 (Int.tdiv addr 4)<(m.length:Int));let E2:=Int.toNat (wrap u32 (Int.tdiv addr 4)); .br (size==4) (.cn E1 (.lf (List.set m E2 v))) (.cn E1 (let E3:=decide (0<=wrap u32 (8*Int.tmod addr 4)); .cn E3 (.cn E3 (.cn E1 (.lf (List.set m E2 (ior u32 (Qg7 u32 (m.getD E2 0) (ishl u32 255 (wrap u32 (8*Int.tmod addr 4)))) (ishl u32 (iand u32 v 255) (wrap u32 (8*Int.tmod addr 4))))))))))
def Qag(m:(List Int))(addr:Int)(size:Int)(v:Int):(List Int):=(Qe5 m addr size v).m
abbrev Qep(m:(List Int))(addr:Int)(size:Int)(v:Int):Prop:=(Qe5 m addr size v).p
def Zlc:Q0c:=mkP 300 [true,false,false,false] true [.one (.row 0), .one (.int .u32), .one (.int .i64), .one (.int .u32)] [.arr 25 1 (.ints .u32)] (λargs rows=>Qep (rowL .u32 rows 0) (argI args 1) (argI args 2) (argI args 3)) (λargs rows=>Qag (rowL .u32 rows 0) (argI args 1) (argI args 2) (argI args 3)) (λX=> .tup []) (λX=>[⟨false,25,1, .ints .u32 X⟩])
theorem Z0r:Q04 Tryz.prog Zlc:=Q0k drawn Q0h (.nil) Tryz.func300 Tryz.call300 (λargs rows=>Qe5 (rowL .u32 rows 0) (argI args 1) (argI args 2) (argI args 3)) [] [] 2
def Qhw(m:(List Int))(frame:Int)(s:(List UInt8))(z:(Int)×(List Int)):Nat:=(128-z.1).toNat
def Q9d(m:(List Int))(frame:Int)(s:(List UInt8)):Tree (List Int):=
.lp inferInstance (Qhw m frame s (0,m)+1) ((True/\rE (frame:Int)/\rE (s:List UInt8)/\rE (0:Int)/\True)/\rE (m:List Int)/\True) (0,m) λ(v0:Int×List Int)=> .br (decide (v0.1<(s.length:Int))) (.br (decide (v0.1<128)) (.cn (decide (0<=v0.1/\v0.1<(s.length:Int))) (let E1:=wrap u32 (↑(UInt8.toNat (s.getD v0.1.toNat (0:UInt8))):Int);let E2:=wrap u32 (wrap i64 (wrap i64 (frame*128)+v0.1)); .an (Qep v0.2 E2 1 E1) (.lv (Qag v0.2 E2 1 E1) λ(x0:List Int)=> .nx ((True/\rE (frame:Int)/\rE (s:List UInt8)/\rE ((wrap i64 (v0.1+1)):Int)/\True)/\rE (x0:List Int)/\True) (Sum.inl (wrap i64 (v0.1+1),x0))))) (.lf (Sum.inr v0.2))) (.lf (Sum.inr v0.2))
def Qjr(m:(List Int))(frame:Int)(s:(List UInt8)):(List Int):=(Q9d m frame s).m
abbrev Qkl(m:(List Int))(frame:Int)(s:(List UInt8)):Prop:=(Q9d m frame s).p
def Zd6:LInv:={
 α:=(Int)×(List Int)
 F:=λst a=>([(0, .all 0),(1,(lk st 1)),(2,(lk st 2)),(6, .int i64 a.1)],[⟨false,25,1, .ints u32 a.2⟩])
 a0:=λst=>((lk st 6).toInt,(Q4s st.rows 0))
 ex0:=λst=>[0]++[]
 next:=λst=>((lk st 6).toInt,(Q4s st.rows 0))
 ex:=λst=>[0]++[]}
def Z3r:List (Nat×LInv):=[(1,Zd6)]
def Zfp:Q0c:=mkP 270 [true,false,false] true [.one (.row 0), .one (.int .i64), .one (.str)] [.arr 25 1 (.ints .u32)] (λargs rows=>Qkl (rowL .u32 rows 0) (argI args 1) (argS args 2)) (λargs rows=>Qjr (rowL .u32 rows 0) (argI args 1) (argS args 2)) (λX=> .tup []) (λX=>[⟨false,25,1, .ints .u32 X⟩])
theorem Qwp:Q04 Tryz.prog Zfp:=Q0k drawn Q0h (.cons Z0r (.nil)) Tryz.func270 Tryz.call270 (λargs rows=>Q9d (rowL .u32 rows 0) (argI args 1) (argS args 2)) [] Z3r 3
def Qaa(d0:Q0d)(m:(List Int))(e:Q08):Tree (Q0d×Bool×(List Int)):=
.br (d0.C0 !=1) (.lf (d0,false,m)) (.br (e.B7 !=4) (.lf (d0,false,m)) (.br (decide (e.N>1)) (.lf (d0,false,m)) (let E4:=({Blocks:=d0.Blocks,C1:=d0.C1,Frame:=d0.Frame,C0:=2,D7:=0,B5:=0,B3:=0,C3:=[]}:Q0d);let E5:=({Blocks:=d0.Blocks,C1:=d0.C1,Frame:=d0.Frame,C0:=3,D7:=0,B5:=0,B3:=0,C3:=[]}:Q0d);let T2:Tree ((Q0d×Bool×(List Int))):= .br (e.N==1) (.lf (E4,true,m)) (.lf (E5,true,m));let E6:=decide ((e.C6.length:Int)>(0:Int)); .br (e.N==1) (let T1:Tree ((Q0d×Bool×(List Int))):= .br (d0.D7==1) (.an (Qkl m (wrap i64 d0.B3) e.C6) (.lv (Qjr m (wrap i64 d0.B3) e.C6) λ(x1:List Int)=> .br (e.N==1) (.lf (E4,true,x1)) (.lf (E5,true,x1)))) T2;let T3:Tree ((Q0d×Bool×(List Int))):= .br (!d0.D7==1) (.br E6 (.lf (d0,false,m)) T1) T1; .br (d0.D7==1) (.br ((e.C6.length:Int) !=(128:Int)) (.lf (d0,false,m)) (.lv (Q1z m d0.B3) λ(x0:Bool)=> .br (!x0) (.lf (d0,false,m)) T3)) T3) (.br E6 (.lf (d0,false,m)) T2))))
def Qbo(d0:Q0d)(m:(List Int))(e:Q08):(Q0d×Bool×(List Int)):=(Qaa d0 m e).m
abbrev Qh1(d0:Q0d)(m:(List Int))(e:Q08):Prop:=(Qaa d0 m e).p
def Z7v:Q0c:=mkP 223 [false,true,false] true [.agg Q0d.sig, .one (.row 0), .agg Q08.sig] [.arr 25 1 (.ints .u32)] (λargs rows=>Qh1 (Q0d.of (aC args 0)) (rowL .u32 rows 0) (Q08.of (aC args 2))) (λargs rows=>Qbo (Q0d.of (aC args 0)) (rowL .u32 rows 0) (Q08.of (aC args 2))) (λX=> .tup [.agg (Q0d.cells (X.1)), .bool (X.2.1)]) (λX=>[⟨false,25,1, .ints .u32 (X.2.2)⟩])
theorem Qoz:Q04 Tryz.prog Z7v:=Q0k drawn Q0h (.cons Qfg (.cons Qwp (.nil))) Tryz.func223 Tryz.call223 (λargs rows=>Qaa (Q0d.of (aC args 0)) (rowL .u32 rows 0) (Q08.of (aC args 2))) [] [] 2
def Qac(n:Q0l)(m:(List Int))(frame:(List UInt8)):Tree (Q0l×Bool×(List Int)):=
.br (!n.C5) (.lf (n,false,m)) (.br (decide ((frame.length:Int)<(1:Int))) (.lf (n,false,m)) (.br (decide ((frame.length:Int)>(128:Int))) (.lf (n,false,m)) (.lv (Q1z m n.B8) λ(x0:Bool)=> .br (!x0) (.lf (n,false,m)) (.an (Qkl m (wrap i64 n.B8) frame) (.lv (Qjr m (wrap i64 n.B8) frame) λ(x1:List Int)=> .lf ({Frame:=n.Frame,D9:=n.D9,C5:=false,B8:=0,B6:=true,F0:=wrap u32 (frame.length:Int)},true,x1))))))
def Qbl(n:Q0l)(m:(List Int))(frame:(List UInt8)):(Q0l×Bool×(List Int)):=(Qac n m frame).m
abbrev Qhf(n:Q0l)(m:(List Int))(frame:(List UInt8)):Prop:=(Qac n m frame).p
def Z79:Q0c:=mkP 224 [false,true,false] true [.agg Q0l.sig, .one (.row 0), .one (.str)] [.arr 25 1 (.ints .u32)] (λargs rows=>Qhf (Q0l.of (aC args 0)) (rowL .u32 rows 0) (argS args 2)) (λargs rows=>Qbl (Q0l.of (aC args 0)) (rowL .u32 rows 0) (argS args 2)) (λX=> .tup [.agg (Q0l.cells (X.1)), .bool (X.2.1)]) (λX=>[⟨false,25,1, .ints .u32 (X.2.2)⟩])
theorem Qpb:Q04 Tryz.prog Z79:=Q0k drawn Q0h (.cons Qfg (.cons Qwp (.nil))) Tryz.func224 Tryz.call224 (λargs rows=>Qac (Q0l.of (aC args 0)) (rowL .u32 rows 0) (argS args 2)) [] [] 2
def Q9g(m:Q01)(e:Q08):Tree (Bool×Q01):=
.br m.A9 (.lf (false,m)) (let T1:Tree ((Bool×Q01)):= .br (e.B7==4) (.an (Qh1 m.B1 m.Mem e) (.lv (Qbo m.B1 m.Mem e) λ(x2:Q0d×Bool×List Int)=> .lf (x2.2.1,{B2:=m.B2,Mem:=x2.2.2,A4:=m.A4,B0:=m.B0,B1:=x2.1,C4:=m.C4,A1:=m.A1,A3:=m.A3,A6:=m.A6,A9:=m.A9}))) (let T3:Tree ((Bool×Q01)):= .br (e.B7==6) (.br (decide (e.C6=[])) (.lf (true,{B2:=m.B2,Mem:=m.Mem,A4:=m.A4,B0:=m.B0,B1:=m.B1,C4:=m.C4,A1:={C8:=e.N,C2:=m.A1.C2},A3:=m.A3,A6:=m.A6,A9:=m.A9})) (.lf (false,m))) (.lf (false,m)); .br (e.B7==5) (.br (e.N==0) (.an (Qhf m.C4 m.Mem e.C6) (.lv (Qbl m.C4 m.Mem e.C6) λ(x3:Q0l×Bool×List Int)=> .lf (x3.2.1,{B2:=m.B2,Mem:=x3.2.2,A4:=m.A4,B0:=m.B0,B1:=m.B1,C4:=x3.1,A1:=m.A1,A3:=m.A3,A6:=m.A6,A9:=m.A9}))) T3) T3);let T2:Tree ((Bool×Q01)):= .br (e.B7==3) (.br (decide (e.N<=255)) (.br (decide (e.C6=[])) (.an (Ql3 m.A4 (wrap u8 e.N)) (.lv (Qsh m.A4 (wrap u8 e.N)) λ(x1:Q0b×Bool)=> .lf (x1.2,{B2:=m.B2,Mem:=m.Mem,A4:=x1.1,B0:=m.B0,B1:=m.B1,C4:=m.C4,A1:=m.A1,A3:=m.A3,A6:=m.A6,A9:=m.A9}))) T1) T1) T1; .br (e.B7==2) (.br (e.N==0) (.br (decide (e.C6=[])) (.lv (Qsl m.B0) λ(x0:Q0f×Bool)=> .lf (x0.2,{B2:=m.B2,Mem:=m.Mem,A4:=m.A4,B0:=x0.1,B1:=m.B1,C4:=m.C4,A1:=m.A1,A3:=m.A3,A6:=m.A6,A9:=m.A9})) T2) T2) T2)
def Q0x(m:Q01)(e:Q08):(Bool×Q01):=(Q9g m e).m
abbrev Qpa(m:Q01)(e:Q08):Prop:=(Q9g m e).p
def Zbd:Q0c:=mkP 161 [true,false] true [.ptr 0, .agg Q08.sig] [.box 43 49 (Q01.sigW (.row 1)), .arr 25 1 (.ints .u32)] (λargs rows=>Qpa (Q01.ofW (rows.getD 0 default).cs (rowL .u32 rows 1)) (Q08.of (aC args 1))) (λargs rows=>Q0x (Q01.ofW (rows.getD 0 default).cs (rowL .u32 rows 1)) (Q08.of (aC args 1))) (λX=> .bool (X.1)) (λX=>[⟨true,43,49, .gen [(Q01.cellsW (X.2) (.all 1))]⟩,⟨false,25,1, .ints .u32 (X.2).Mem⟩])
theorem Z8i:Q04 Tryz.prog Zbd:=Q0k drawn Q0h (.cons Qwi (.cons Qwf (.cons Qoz (.cons Qpb (.nil))))) Tryz.func161 Tryz.call161 (λargs rows=>Q9g (Q01.ofW (rows.getD 0 default).cs (rowL .u32 rows 1)) (Q08.of (aC args 1))) [.row 25 1 (.ints .u32)] [] 2
def Q85(m:Q00)(e:Q08):Tree (Bool×Q00):=
.br m.A0.A9 (.lf (false,m)) (let T1:Tree ((Bool×Q00)):= .br (e.B7==4) (.an (Qh1 m.A0.B1 m.A0.Mem e) (.lv (Qbo m.A0.B1 m.A0.Mem e) λ(x2:Q0d×Bool×List Int)=> .lf (x2.2.1,{A0:={B2:=m.A0.B2,Mem:=x2.2.2,A4:=m.A0.A4,B0:=m.A0.B0,B1:=x2.1,C4:=m.A0.C4,A1:=m.A0.A1,A3:=m.A0.A3,A6:=m.A0.A6,A9:=m.A0.A9},A7:=m.A7,B9:=m.B9,A2:=m.A2}))) (let T3:Tree ((Bool×Q00)):= .br (e.B7==6) (.br (decide (e.C6=[])) (.lf (true,{A0:={B2:=m.A0.B2,Mem:=m.A0.Mem,A4:=m.A0.A4,B0:=m.A0.B0,B1:=m.A0.B1,C4:=m.A0.C4,A1:={C8:=e.N,C2:=m.A0.A1.C2},A3:=m.A0.A3,A6:=m.A0.A6,A9:=m.A0.A9},A7:=m.A7,B9:=m.B9,A2:=m.A2})) (.lf (false,m))) (.lf (false,m)); .br (e.B7==5) (.br (e.N==0) (.an (Qhf m.A0.C4 m.A0.Mem e.C6) (.lv (Qbl m.A0.C4 m.A0.Mem e.C6) λ(x3:Q0l×Bool×List Int)=> .lf (x3.2.1,{A0:={B2:=m.A0.B2,Mem:=x3.2.2,A4:=m.A0.A4,B0:=m.A0.B0,B1:=m.A0.B1,C4:=x3.1,A1:=m.A0.A1,A3:=m.A0.A3,A6:=m.A0.A6,A9:=m.A0.A9},A7:=m.A7,B9:=m.B9,A2:=m.A2}))) T3) T3);let T2:Tree ((Bool×Q00)):= .br (e.B7==3) (.br (decide (e.N<=255)) (.br (decide (e.C6=[])) (.an (Ql3 m.A0.A4 (wrap u8 e.N)) (.lv (Qsh m.A0.A4 (wrap u8 e.N)) λ(x1:Q0b×Bool)=> .lf (x1.2,{A0:={B2:=m.A0.B2,Mem:=m.A0.Mem,A4:=x1.1,B0:=m.A0.B0,B1:=m.A0.B1,C4:=m.A0.C4,A1:=m.A0.A1,A3:=m.A0.A3,A6:=m.A0.A6,A9:=m.A0.A9},A7:=m.A7,B9:=m.B9,A2:=m.A2}))) T1) T1) T1; .br (e.B7==2) (.br (e.N==0) (.br (decide (e.C6=[])) (.lv (Qsl m.A0.B0) λ(x0:Q0f×Bool)=> .lf (x0.2,{A0:={B2:=m.A0.B2,Mem:=m.A0.Mem,A4:=m.A0.A4,B0:=x0.1,B1:=m.A0.B1,C4:=m.A0.C4,A1:=m.A0.A1,A3:=m.A0.A3,A6:=m.A0.A6,A9:=m.A0.A9},A7:=m.A7,B9:=m.B9,A2:=m.A2})) T2) T2) T2)
def Qip(m:Q00)(e:Q08):(Bool×Q00):=(Q85 m e).m
abbrev Qlu(m:Q00)(e:Q08):Prop:=(Q85 m e).p
def Z3o:Q0c:=mkP 161 [true,false] true [.ptr 0, .agg Q08.sig] [.box 96 52 (Q00.sigW (.row 1) (.row 2) (.row 3)), .arr 25 1 (.ints .u32), .arr 126 4 (.recs .apiEntry), .arr 66 3 (.recs .apiEvent)] (λargs rows=>Qlu (Q00.ofW (rows.getD 0 default).cs (rowL .u32 rows 1) (rowR .apiEntry rows 2) (rowR .apiEvent rows 3)) (Q08.of (aC args 1))) (λargs rows=>Qip (Q00.ofW (rows.getD 0 default).cs (rowL .u32 rows 1) (rowR .apiEntry rows 2) (rowR .apiEvent rows 3)) (Q08.of (aC args 1))) (λX=> .bool (X.1)) (λX=>[⟨true,96,52, .gen [(Q00.cellsW (X.2) (.all 1) (.all 2) (.all 3))]⟩,⟨false,25,1, .ints .u32 (X.2).A0.Mem⟩,⟨false,126,4, .recs .apiEntry (X.2).B9⟩,⟨false,66,3, .recs .apiEvent (X.2).A2⟩])
theorem Z1h:Q04 Tryz.prog Z3o:=Q0k drawn Q0h (.cons Qwi (.cons Qwf (.cons Qoz (.cons Qpb (.nil))))) Tryz.func161 Tryz.call161 (λargs rows=>Q85 (Q00.ofW (rows.getD 0 default).cs (rowL .u32 rows 1) (rowR .apiEntry rows 2) (rowR .apiEvent rows 3)) (Q08.of (aC args 1))) [.row 25 1 (.ints .u32), .row 126 4 (.recs .apiEntry), .row 66 3 (.recs .apiEvent)] [] 2
def Q78(m:Q00)(e:Q08):Tree (Bool×Q00):=
.an (Qlu m e) (.lv (Qip m e) λ(x0:Bool×Q00)=> .lf (x0.1,x0.2))
def Qge(m:Q00)(e:Q08):(Bool×Q00):=(Q78 m e).m
abbrev Qkf(m:Q00)(e:Q08):Prop:=(Q78 m e).p
def Qyp:Q0c:=mkP 159 [true,false] true [.ptr 0, .agg Q08.sig] [.box 96 52 (Q00.sigW (.row 1) (.row 2) (.row 3)), .arr 25 1 (.ints .u32), .arr 126 4 (.recs .apiEntry), .arr 66 3 (.recs .apiEvent)] (λargs rows=>Qkf (Q00.ofW (rows.getD 0 default).cs (rowL .u32 rows 1) (rowR .apiEntry rows 2) (rowR .apiEvent rows 3)) (Q08.of (aC args 1))) (λargs rows=>Qge (Q00.ofW (rows.getD 0 default).cs (rowL .u32 rows 1) (rowR .apiEntry rows 2) (rowR .apiEvent rows 3)) (Q08.of (aC args 1))) (λX=> .bool (X.1)) (λX=>[⟨true,96,52, .gen [(Q00.cellsW (X.2) (.all 1) (.all 2) (.all 3))]⟩,⟨false,25,1, .ints .u32 (X.2).A0.Mem⟩,⟨false,126,4, .recs .apiEntry (X.2).B9⟩,⟨false,66,3, .recs .apiEvent (X.2).A2⟩])
theorem Qxr:Q04 Tryz.prog Qyp:=Q0k drawn Q0h (.cons Z1h (.nil)) Tryz.func159 Tryz.call159 (λargs rows=>Q78 (Q00.ofW (rows.getD 0 default).cs (rowL .u32 rows 1) (rowR .apiEntry rows 2) (rowR .apiEvent rows 3)) (Q08.of (aC args 1))) [.row 25 1 (.ints .u32), .row 126 4 (.recs .apiEntry), .row 66 3 (.recs .apiEvent)] [] 2
def Qa2(r:Q00)(e:Q08):Tree Q00:=
.an (Qkf r e) (.lv (Qge r e) λ(x0:Bool×Q00)=> .br x0.1 (.cn (decide (40*(x0.2.B9.length+1)<=140737488355328)) (.lf ({A0:=x0.2.A0,A7:=x0.2.A7,B9:=x0.2.B9++[{At:=x0.2.A0.A3,D4:=e}],A2:=x0.2.A2}))) (.lf x0.2))
def Qi4(r:Q00)(e:Q08):Q00:=(Qa2 r e).m
abbrev Qia(r:Q00)(e:Q08):Prop:=(Qa2 r e).p
def Z9x:Q0c:=mkKP 1 213 [true,false] [.ptr 0, .agg Q08.sig] [.box 96 52 (Q00.sigW (.row 1) (.row 2) (.row 3)), .arr 25 1 (.ints .u32), .arr 126 4 (.recs .apiEntry), .arr 66 3 (.recs .apiEvent)] (λargs rows=>Qia (Q00.ofW (rows.getD 0 default).cs (rowL .u32 rows 1) (rowR .apiEntry rows 2) (rowR .apiEvent rows 3)) (Q08.of (aC args 1))) (λargs rows=>Qi4 (Q00.ofW (rows.getD 0 default).cs (rowL .u32 rows 1) (rowR .apiEntry rows 2) (rowR .apiEvent rows 3)) (Q08.of (aC args 1))) (λX=> .tup []) (λX=>[⟨true,96,52, .gen [(Q00.cellsW X (.all 1) (.all 2) (.all 3))]⟩,⟨false,25,1, .ints .u32 X.A0.Mem⟩,⟨false,126,4, .recs .apiEntry X.B9⟩,⟨false,66,3, .recs .apiEvent X.A2⟩])
theorem Z2j:Q04 Tryz.prog Z9x:=Z8y drawn Q0h (.cons Qxr (.nil)) Tryz.func213 Tryz.call213 (λargs rows=>Qa2 (Q00.ofW (rows.getD 0 default).cs (rowL .u32 rows 1) (rowR .apiEntry rows 2) (rowR .apiEvent rows 3)) (Q08.of (aC args 1))) [.row 25 1 (.ints .u32), .row 126 4 (.recs .apiEntry), .row 66 3 (.recs .apiEvent)] [] 2 (λ_ _ _=>by kernel_rfl) (λ_ _=>rfl) (λ_ _ h=>h)
def Qig(is:Bool)(n:Int):Tree Int:=
.br is (.cn (decide (0<=wrap u64 n)) (.lf (ishl u32 1 (wrap u64 n)))) (.lf 0)
def Q9a(is:Bool)(n:Int):Int:=(Qig is n).m
abbrev Qaj(is:Bool)(n:Int):Prop:=(Qig is n).p
def Zfs:Q0c:=mkP 104 [] true [.one (.bool), .one (.int .i64)] [] (λargs rows=>Qaj (argB args 0) (argI args 1)) (λargs rows=>Q9a (argB args 0) (argI args 1)) (λX=> .int .u32 X) (λX=>[])
theorem Zbh:Q04 Tryz.prog Zfs:=Q0k drawn Q0h (.nil) Tryz.func104 Tryz.call104 (λargs rows=>Qig (argB args 0) (argI args 1)) [] [] 2
def Qid(t:Q0f):Tree Bool:=
.lf t.D2
def Q9u(t:Q0f):Bool:=(Qid t).m
def Qqn:Q0c:=mkR 105 [] true [.agg Q0f.sig] [] (λargs rows=>Q9u (Q0f.of (aC args 0))) (λX=> .bool X) (λX=>[])
theorem Qow:Q04 Tryz.prog Qqn:=Q0v drawn Q0h (.nil) Tryz.func105 Tryz.call105 (λargs rows=>Qid (Q0f.of (aC args 0))) [] [] 2
def Qf(c:Q0b):Tree Bool:=
.lf (decide ((c.D0.length:Int)>(0:Int)))
def Q5b(c:Q0b):Bool:=(Qf c).m
def Qnl:Q0c:=mkR 106 [] true [.agg Q0b.sig] [] (λargs rows=>Q5b (Q0b.of (aC args 0))) (λX=> .bool X) (λX=>[])
theorem Qm8:Q04 Tryz.prog Qnl:=Q0v drawn Q0h (.nil) Tryz.func106 Tryz.call106 (λargs rows=>Qf (Q0b.of (aC args 0))) [] [] 2
def Qit(d0:Q0d):Tree Bool:=
.br (d0.C0==2) (.lf true) (.lf (d0.C0==3))
def Qbc(d0:Q0d):Bool:=(Qit d0).m
def Qsx:Q0c:=mkR 107 [] true [.agg Q0d.sig] [] (λargs rows=>Qbc (Q0d.of (aC args 0))) (λX=> .bool X) (λX=>[])
theorem Qqq:Q04 Tryz.prog Qsx:=Q0v drawn Q0h (.nil) Tryz.func107 Tryz.call107 (λargs rows=>Qit (Q0d.of (aC args 0))) [] [] 2
def Qjk(n:Q0l):Tree Bool:=
.lf n.B6
def Qck(n:Q0l):Bool:=(Qjk n).m
def Quh:Q0c:=mkR 108 [] true [.agg Q0l.sig] [] (λargs rows=>Qck (Q0l.of (aC args 0))) (λX=> .bool X) (λX=>[])
theorem Qt0:Q04 Tryz.prog Quh:=Q0v drawn Q0h (.nil) Tryz.func108 Tryz.call108 (λargs rows=>Qjk (Q0l.of (aC args 0))) [] [] 2
def Qmx(b:Q05)(z:(Int)×(Int)):Prop:=0<=z.2/\z.2<=32
def Qfr(b:Q05)(z:(Int)×(Int)):Nat:=(32-z.2).toNat
def Qio(b:Q05):Tree Int:=
.lp inferInstance (Qfr b (0,0)+1) ((rZ/\rE (0:Int)/\rE (0:Int)/\True)/\(rE b.C8/\rE b.C2/\True)/\True) (0,0) λ(v0:Int×Int)=> .br (decide (v0.2<32)) (.cn (decide (0<=wrap u64 v0.2)) (.nx ((rZ/\rE ((wrap i64 (v0.1+wrap i64 (iand u32 (ishr u32 b.C2 (wrap u64 v0.2)) 1))):Int)/\rE ((wrap i64 (v0.2+1)):Int)/\True)/\(rE b.C8/\rE b.C2/\True)/\True) (Sum.inl (wrap i64 (v0.1+wrap i64 (iand u32 (ishr u32 b.C2 (wrap u64 v0.2)) 1)),wrap i64 (v0.2+1))))) (.lf (Sum.inr v0.1))
def Qdn(b:Q05):Int:=(Qio b).m
theorem Z4(b:Q05):(Qio b).p:=by
 unfold Tree.p Qio
 repeat'(first|refine w_lp (inv:=Qmx b) (μ:=Qfr b) ?_ (Nat.lt_succ_self _) (λ_ _=> ?_)|exact trivial|refine w_br (λ_=> ?_) (λ_=> ?_)|refine w_cn ?_ ?_|refine w_an ?_ ?_|refine w_lv (λ_ _=> ?_)|refine w_nx ?_|refine w_lf ?_|refine And.intro ?_ ?_)
 all_goals((try simp only[Qmx,Qfr]at*);exact fin0)
def Z9h:LInv:={
 α:=(Int)×(Int)
 F:=λst a=>([(1, .ptr 0 0 0),(3, .int i64 a.1),(4, .int i64 a.2)],[⟨true,40,2, .gen [[(cT st 1 0),(cT st 1 1)]]⟩])
 a0:=λst=>((lk st 3).toInt,(lk st 4).toInt)
 ex0:=λst=>[]++[(Q0m (lk st 1) (st.rows.length+0))]
 next:=λst=>((lk st 3).toInt,(lk st 4).toInt)
 ex:=λst=>[]++[(Q0m (lk st 1) (st.rows.length+0))]}
def Z1v:List (Nat×LInv):=[(3,Z9h)]
def Za7:Q0c:=mkR 177 [] true [.agg Q05.sig] [] (λargs rows=>Qdn (Q05.of (aC args 0))) (λX=> .int .i64 X) (λX=>[])
theorem Qrb:Q04 Tryz.prog Za7:=Q0v drawn Q0h (.nil) Tryz.func177 Tryz.call177 (λargs rows=>Qio (Q05.of (aC args 0))) [] Z1v 3 (λ_ _ _=>by kernel_rfl) (λ_ _=>rfl) (λargs rows=>Z4 (Q05.of (aC args 0))) (λ_ X=>by kernel_rfl)
def Q8z(b:Q05):Tree Bool:=
.lv (Qdn b) λ(x0:Int)=> .lf (wrap u64 x0 !=wrap u64 b.C8)
def Q3h(b:Q05):Bool:=(Q8z b).m
def Qmo:Q0c:=mkR 109 [] true [.agg Q05.sig] [] (λargs rows=>Q3h (Q05.of (aC args 0))) (λX=> .bool X) (λX=>[])
theorem Qm6:Q04 Tryz.prog Qmo:=Q0v drawn Q0h (.cons Qrb (.nil)) Tryz.func109 Tryz.call109 (λargs rows=>Q8z (Q05.of (aC args 0))) [] [] 2
def Qfe(m:Q01):Tree Int:=
.lv (Q9u m.B0) λ(x0:Bool)=> .an (Qaj x0 0) (.lv (Q9a x0 0) λ(x1:Int)=> .lv (Q5b m.A4) λ(x2:Bool)=> .an (Qaj x2 1) (.lv (Q9a x2 1) λ(x3:Int)=> .lv (Qbc m.B1) λ(x4:Bool)=> .an (Qaj x4 2) (.lv (Q9a x4 2) λ(x5:Int)=> .lv (Qck m.C4) λ(x6:Bool)=> .an (Qaj x6 3) (.lv (Q9a x6 3) λ(x7:Int)=> .lv (Q3h m.A1) λ(x8:Bool)=> .an (Qaj x8 4) (.lv (Q9a x8 4) λ(x9:Int)=> .lf (ior u32 (ior u32 (ior u32 (ior u32 x1 x3) x5) x7) x9))))))
def Qgl(m:Q01):Int:=(Qfe m).m
abbrev Qpc(m:Q01):Prop:=(Qfe m).p
def Ze4:Q0c:=mkP 27 [] true [.agg Q01.sig] [] (λargs rows=>Qpc (Q01.of (aC args 0))) (λargs rows=>Qgl (Q01.of (aC args 0))) (λX=> .int .u32 X) (λX=>[])
theorem Z9o:Q04 Tryz.prog Ze4:=Q0k drawn Q0h (.cons Zbh (.cons Qow (.cons Qm8 (.cons Qqq (.cons Qt0 (.cons Qm6 (.nil))))))) Tryz.func27 Tryz.call27 (λargs rows=>Qfe (Q01.of (aC args 0))) [] [] 2
def Q84(m:Q01):Tree Int:=
.an (Qpc m) (.lv (Qgl m) λ(x0:Int)=> .lf (iand u32 x0 m.B2.B4.a7))
def Q2v(m:Q01):Int:=(Q84 m).m
abbrev Qfv(m:Q01):Prop:=(Q84 m).p
def Z2h:Q0c:=mkP 111 [] true [.agg Q01.sig] [] (λargs rows=>Qfv (Q01.of (aC args 0))) (λargs rows=>Q2v (Q01.of (aC args 0))) (λX=> .int .u32 X) (λX=>[])
theorem Qnj:Q04 Tryz.prog Z2h:=Q0k drawn Q0h (.cons Z9o (.nil)) Tryz.func111 Tryz.call111 (λargs rows=>Q84 (Q01.of (aC args 0))) [] [] 2
def Qds(m:Q01):Tree Bool:=
.br m.A6 (.an (Qfv m) (.lv (Q2v m) λ(x0:Int)=> .lf (x0==0))) (.lf false)
def Qf5(m:Q01):Bool:=(Qds m).m
abbrev Qle(m:Q01):Prop:=(Qds m).p
def Zgf:Q0c:=mkP 29 [] true [.agg Q01.sig] [] (λargs rows=>Qle (Q01.of (aC args 0))) (λargs rows=>Qf5 (Q01.of (aC args 0))) (λX=> .bool X) (λX=>[])
theorem Qw0:Q04 Tryz.prog Zgf:=Q0k drawn Q0h (.cons Qnj (.nil)) Tryz.func29 Tryz.call29 (λargs rows=>Qds (Q01.of (aC args 0))) [] [] 2
def Q93(m:Q01):Tree Bool:=
.lv (Q6d m) λ(x0:Bool)=> .br (!x0) (.lf true) (.br m.A9 (.lf true) (.an (Qle m) (.lv (Qf5 m) λ(x1:Bool)=> .br x1 (.lf true) (.lf (decide (m.A3>=1152921504606846976))))))
def Q1u(m:Q01):Bool:=(Q93 m).m
abbrev Qef(m:Q01):Prop:=(Q93 m).p
def Zdu:Q0c:=mkP 115 [] true [.agg Q01.sig] [] (λargs rows=>Qef (Q01.of (aC args 0))) (λargs rows=>Q1u (Q01.of (aC args 0))) (λX=> .bool X) (λX=>[])
theorem Qqu:Q04 Tryz.prog Zdu:=Q0k drawn Q0h (.cons Qpy (.cons Qw0 (.nil))) Tryz.func115 Tryz.call115 (λargs rows=>Q93 (Q01.of (aC args 0))) [] [] 2
end
end Go.Proofs.YtmalmklaonainaaGreat

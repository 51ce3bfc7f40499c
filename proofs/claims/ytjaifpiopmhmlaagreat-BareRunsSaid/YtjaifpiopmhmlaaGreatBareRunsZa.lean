import Derived.Test.YtjaifpiopmhmlaaGreatBareRunsBase
import Derived.Test.YtjaifpiopmhmlaaGreatBareRunsYe
set_option maxRecDepth 100000
set_option linter.all false
namespace Go.Proofs.YtjaifpiopmhmlaaGreat
open Go Go.GD Go.IntKind
noncomputable section
def Qda(m:(List Int)):Tree (List Int):=
.cn (Nat.blt (0:Nat) (1:Nat)&&Nat.beq (1:Nat) (1:Nat)&&List.all [D.int u32 (0:Int)] D.plain&&decide ((0:Int)<=(m.length:Int)/\(m.length:Int)<=(m.length:Int)/\(m.length:Int)<=(9223372036854775807:Int)/\(↑(4:Nat):Int)*(m.length:Int)<=(140737488355328:Int))) (let E1:=List.length (List.replicate (Int.toNat (m.length:Int)) (0:Int)); .lf (List.take (Min.min (m.length) E1) m++List.drop (Min.min (m.length) E1) (List.replicate (Int.toNat (m.length:Int)) (0:Int))))
def Qta(m:(List Int)):(List Int):=(Qda m).m
abbrev Qrn(m:(List Int)):Prop:=(Qda m).p
def Zg9:Q0c:=mkP 114 [] true [.one (.ints .u32)] [] (λargs rows=>Qrn (argL .u32 args 0)) (λargs rows=>Qta (argL .u32 args 0)) (λX=> .all 0) (λX=>[⟨false,23,1, .ints .u32 X⟩])
theorem Zbs:Q06 Tryz.prog Zg9:=Q0n Q0j Q0l (.nil) Tryz.func114 Tryz.call114 (λargs rows=>Qda (argL .u32 args 0)) [.row 23 1 (.ints .u32)] [] 2
def Qbn(m:Q00):Tree Q00:=
.an (Qrn m.Mem) (.lv (Qta m.Mem) λ(x0:List Int)=> .lf ({B2:=m.B2,Mem:=x0,A3:=m.A3,A7:=m.A7,B0:=m.B0,C0:=m.C0,A2:=m.A2,A1:=m.A1,A4:=m.A4,A6:=m.A6}))
def Qgb(m:Q00):Q00:=(Qbn m).m
abbrev Q91(m:Q00):Prop:=(Qbn m).p
def Zl4:Q0c:=mkP 53 [] true [.agg Q00.sig] [] (λargs rows=>Q91 (Q00.of (aC args 0))) (λargs rows=>Qgb (Q00.of (aC args 0))) (λX=> .agg (Q00.cellsW X (.all 0))) (λX=>[⟨false,23,1, .ints .u32 X.Mem⟩])
theorem Qhd:Q06 Tryz.prog Zl4:=Q0n Q0j Q0l (.cons Zbs (.nil)) Tryz.func53 Tryz.call53 (λargs rows=>Qbn (Q00.of (aC args 0))) [.row 23 1 (.ints .u32)] [] 2
def Qqk(n:Int)(k:Int)(z:(Int)×(List Int)):Prop:=0<=z.1/\(z.2.length:Int)=z.1/\(z.1<=k\/z.1=0)
def Qd(n:Int)(k:Int)(z:(Int)×(List Int)):Nat:=(k-z.1).toNat
def Qdx(n:Int)(k:Int):Tree (List UInt8):=
.lp inferInstance (Qd n k (0,[])+1) ((rE (n:Int)/\rE (k:Int)/\True/\rE (0:Int)/\True)/\rE ([]:List Int)/\True) (0,[]) λ(v0:Int×List Int)=> .br (decide (v0.1<k)) (.lv (Q35 n (wrap i64 (Int.tdiv v0.1 9))) λ(x0:Int)=> .cn (decide (1*(v0.2.length+1)<=140737488355328)) (.nx ((rE (n:Int)/\rE (k:Int)/\True/\rE ((wrap i64 (v0.1+1)):Int)/\True)/\rE ((v0.2++[wrap u8 x0]):List Int)/\True) (Sum.inl (wrap i64 (v0.1+1),v0.2++[wrap u8 x0])))) (.lf (Sum.inr (bytesOf v0.2)))
def Qkv(n:Int)(k:Int):(List UInt8):=(Qdx n k).m
def Q4z(n:Int)(k:Int):Prop:=
k<=1000000000000
theorem Zab(n:Int)(k:Int)(hw:Q4z n k):(Qdx n k).p:=by
 simp only[Q4z]at hw
 unfold Tree.p Qdx
 repeat'(first|refine w_lp (inv:=Qqk n k) (μ:=Qd n k) ?_ (Nat.lt_succ_self _) (λ_ _=> ?_)|exact trivial|refine w_br (λ_=> ?_) (λ_=> ?_)|refine w_cn ?_ ?_|refine w_an ?_ ?_|refine w_lv (λ_ _=> ?_)|refine w_nx ?_|refine w_lf ?_|refine And.intro ?_ ?_)
 all_goals((try simp only[Qqk,Qd]at*);exact fin0)
def Zf3:LInv:={
 α:=(Int)×(List Int)
 F:=λst a=>([(0,(lk st 0)),(1,(lk st 1)),(5, .all 0),(6, .int i64 a.1)],[⟨false,5,1, .ints u8 a.2⟩])
 a0:=λst=>((lk st 6).toInt,(Q3e st.rows (rN st 5)))
 ex0:=λst=>[]++[(Q0o (lk st 5) (st.rows.length+0))]
 next:=λst=>((lk st 6).toInt,(Q3e st.rows (rN st 5)))
 ex:=λst=>[]++[(Q0o (lk st 5) (st.rows.length+0))]}
def Z3f:List (Nat×LInv):=[(3,Zf3)]
def Zfd:Q0c:=mkP 65 [] true [.one (.int .i64), .one (.int .i64)] [] (λargs rows=>Q4z (argI args 0) (argI args 1)) (λargs rows=>Qkv (argI args 0) (argI args 1)) (λX=> .str X) (λX=>[])
theorem Qwf:Q06 Tryz.prog Zfd:=Q0n Q0j Q0l (.cons Qli (.nil)) Tryz.func65 Tryz.call65 (λargs rows=>Qdx (argI args 0) (argI args 1)) [] Z3f 3 (hp:=λargs rows h=>Zab (argI args 0) (argI args 1) h)
def Qdk(r:Q01):Tree Q01:=
.an (Q91 r.A0) (.lv (Qgb r.A0) λ(x0:Q00)=> .cn (decide (40*(0+r.C6.length)<=140737488355328)) (.cn (decide (32*(0+r.A9.length)<=140737488355328)) (.lf ({A0:=x0,B1:=r.B1,C6:=r.C6,A9:=r.A9}))))
def Qnu(r:Q01):Q01:=(Qdk r).m
abbrev Qlc(r:Q01):Prop:=(Qdk r).p
def Zi6:Q0c:=mkP 180 [] true [.agg Q01.sig] [] (λargs rows=>Qlc (Q01.of (aC args 0))) (λargs rows=>Qnu (Q01.of (aC args 0))) (λX=> .agg (Q01.cellsW X (.all 0) (.all 1) (.all 2))) (λX=>[⟨false,23,1, .ints .u32 X.A0.Mem⟩,⟨false,72,4, .recs .apiEntry X.C6⟩,⟨false,70,3, .recs .apiEvent X.A9⟩])
theorem Qxd:Q06 Tryz.prog Zi6:=Q0n Q0j Q0l (.cons Qhd (.nil)) Tryz.func180 Tryz.call180 (λargs rows=>Qdk (Q01.of (aC args 0))) [.row 23 1 (.ints .u32), .row 72 4 (.recs .apiEntry), .row 70 3 (.recs .apiEvent)] [] 2
def Qsr(e:Q0f):Tree Bool:=
.br (e.B7==1) (.lf (decide (e.D0=[]))) (.br (e.B7==6) (.lf (decide (e.D0=[]))) (.br (e.B7==2) (.br (e.N==0) (.lf (decide (e.D0=[]))) (.lf false)) (.br (e.B7==3) (.br (decide (e.N<=255)) (.lf (decide (e.D0=[]))) (.lf false)) (.br (e.B7==4) (.br (decide (e.N<=1)) (.br (decide (e.D0=[])) (.lf true) (.br (e.N==1) (.lf ((e.D0.length:Int)==(128:Int))) (.lf false))) (.lf false)) (.br (e.B7==5) (.br (e.N==0) (.br (decide ((e.D0.length:Int)>=(1:Int))) (.lf (decide ((e.D0.length:Int)<=(128:Int)))) (.lf false)) (.lf false)) (.lf false))))))
def Q2u(e:Q0f):Bool:=(Qsr e).m
def Z9g:Q0c:=mkR 181 [] true [.agg Q0f.sig] [] (λargs rows=>Q2u (Q0f.of (aC args 0))) (λX=> .bool X) (λX=>[])
theorem Z49:Q06 Tryz.prog Z9g:=Q0z Q0j Q0l (.nil) Tryz.func181 Tryz.call181 (λargs rows=>Qsr (Q0f.of (aC args 0))) [] [] 2
def Q8a(r:Q01)(e:Q0f):Tree (Q01×Bool):=
.an (Qlc r) (.lv (Qnu r) λ(x0:Q01)=> .lv (Q2u e) λ(x1:Bool)=> .br (!x1) (.lf (x0,false)) (.br (e.B7==1) (.lf (x0,false)) (.br (decide ((x0.A9.length:Int)>=(16:Int))) (.lf (x0,false)) (.cn (decide (32*(x0.A9.length+1)<=140737488355328)) (.lf ({A0:=x0.A0,B1:=x0.B1,C6:=x0.C6,A9:=x0.A9++[e]},true))))))
def Q2n(r:Q01)(e:Q0f):(Q01×Bool):=(Q8a r e).m
abbrev Qmc(r:Q01)(e:Q0f):Prop:=(Q8a r e).p
def Z3i:Q0c:=mkP 128 [] true [.agg Q01.sig, .agg Q0f.sig] [] (λargs rows=>Qmc (Q01.of (aC args 0)) (Q0f.of (aC args 1))) (λargs rows=>Q2n (Q01.of (aC args 0)) (Q0f.of (aC args 1))) (λX=> .tup [.agg (Q01.cellsW (X.1) (.all 0) (.all 1) (.all 2)), .bool (X.2)]) (λX=>[⟨false,23,1, .ints .u32 (X.1).A0.Mem⟩,⟨false,72,4, .recs .apiEntry (X.1).C6⟩,⟨false,70,3, .recs .apiEvent (X.1).A9⟩])
theorem Z2f:Q06 Tryz.prog Z3i:=Q0n Q0j Q0l (.cons Qxd (.cons Z49 (.nil))) Tryz.func128 Tryz.call128 (λargs rows=>Q8a (Q01.of (aC args 0)) (Q0f.of (aC args 1))) [.row 23 1 (.ints .u32), .row 72 4 (.recs .apiEntry), .row 70 3 (.recs .apiEvent)] [] 2
def Q9t(n:Int):Tree Q0f:=
.lv (Q35 n 2) λ(x0:Int)=> .br (Int.tmod x0 (7:Int)==(0:Int)) (.lf ({B7:=2,N:=0,D0:=[]})) (.br (Int.tmod x0 (7:Int)==(1:Int)) (.lf ({B7:=3,N:=wrap u32 (iand i64 (ishr i64 x0 8) 255),D0:=[]})) (.br (Int.tmod x0 (7:Int)==(2:Int)) (.lf ({B7:=3,N:=wrap u32 (iand i64 (ishr i64 x0 8) 255),D0:=[]})) (.br (Int.tmod x0 (7:Int)==(3:Int)) (.lf ({B7:=4,N:=1,D0:=[]})) (.br (Int.tmod x0 (7:Int)==(4:Int)) (.an (Q4z x0 128) (.lv (Qkv x0 128) λ(x1:List UInt8)=> .lf ({B7:=4,N:=1,D0:=x1}))) (.br (Int.tmod x0 (7:Int)==(5:Int)) (let E1:=wrap i64 (1+Int.tmod (ishr i64 x0 8) 40); .an (Q4z x0 E1) (.lv (Qkv x0 E1) λ(x2:List UInt8)=> .lf ({B7:=5,N:=0,D0:=x2}))) (.br (Int.tmod (ishr i64 x0 8) (4:Int)==(0:Int)) (.lf ({B7:=4,N:=0,D0:=[]})) (.lf ({B7:=6,N:=wrap u32 (Int.tmod (ishr i64 x0 8) 3),D0:=[]}))))))))
def Q3o(n:Int):Q0f:=(Q9t n).m
abbrev Qjl(n:Int):Prop:=(Q9t n).p
def Zbu:Q0c:=mkP 62 [] true [.one (.int .i64)] [] (λargs rows=>Qjl (argI args 0)) (λargs rows=>Q3o (argI args 0)) (λX=> .agg (Q0f.cells X)) (λX=>[])
theorem Qu:Q06 Tryz.prog Zbu:=Q0n Q0j Q0l (.cons Qli (.cons Qwf (.nil))) Tryz.func62 Tryz.call62 (λargs rows=>Q9t (argI args 0)) [] [] 2
def Qnf(m:(List Int)):Tree Int:=
.br (Int.tmod (m.length:Int) (32:Int) !=(0:Int)) (.lf 0) (.br (decide ((m.length:Int)>(1024:Int))) (.lf 0) (.lf (wrap i64 (Int.tdiv (m.length:Int) 32))))
def Q3k(m:(List Int)):Int:=(Qnf m).m
def Zbr:Q0c:=mkR 86 [] true [.one (.ints .u32)] [] (λargs rows=>Q3k (argL .u32 args 0)) (λX=> .int .i64 X) (λX=>[])
theorem Qcg:Q06 Tryz.prog Zbr:=Q0z Q0j Q0l (.nil) Tryz.func86 Tryz.call86 (λargs rows=>Qnf (argL .u32 args 0)) [] [] 2
def Qkb(c:Q0b):Tree Bool:=
.lf (decide ((c.D3.length:Int)<=(16:Int)))
def Qij(c:Q0b):Bool:=(Qkb c).m
def Qu3:Q0c:=mkR 87 [] true [.agg Q0b.sig] [] (λargs rows=>Qij (Q0b.of (aC args 0))) (λX=> .bool X) (λX=>[])
theorem Qt3:Q06 Tryz.prog Qu3:=Q0z Q0j Q0l (.nil) Tryz.func87 Tryz.call87 (λargs rows=>Qkb (Q0b.of (aC args 0))) [] [] 2
def Qi7(t:Q0g):Tree Bool:=
.br t.D2 (.br t.D5 (.lf false) (.br t.D2 (.lf (t.C8 !=0)) (.br t.D5 (.lf true) (.lf (t.C8==0))))) (.br t.D2 (.lf (t.C8 !=0)) (.br t.D5 (.lf true) (.lf (t.C8==0))))
def Qcc(t:Q0g):Bool:=(Qi7 t).m
def Z1x:Q0c:=mkR 88 [] true [.agg Q0g.sig] [] (λargs rows=>Qcc (Q0g.of (aC args 0))) (λX=> .bool X) (λX=>[])
theorem Qy5:Q06 Tryz.prog Z1x:=Q0z Q0j Q0l (.nil) Tryz.func88 Tryz.call88 (λargs rows=>Qi7 (Q0g.of (aC args 0))) [] [] 2
def Qjm(d0:Q0e)(pages:Int):Tree Bool:=
.br (decide (d0.Blocks>64)) (.lf false) (.br (decide (d0.C1<0)) (.lf false) (.br (decide (d0.C1>3)) (.lf false) (.br (d0.C1 !=1) (.br (d0.D8==0) (.br (d0.B6==0) (.br (d0.B3==0) (.lf (decide (d0.C3=[]))) (.lf false)) (.lf false)) (.lf false)) (.br (decide (d0.B6>=d0.Blocks)) (.lf false) (.br (decide (wrap i64 d0.B3>=pages)) (.lf false) (.br (d0.D8==1) (.br (decide (d0.C3=[])) (.lf true) (.br (d0.D8==2) (.lf ((d0.C3.length:Int)==(128:Int))) (.lf false))) (.br (d0.D8==2) (.lf ((d0.C3.length:Int)==(128:Int))) (.lf false))))))))
def Qev(d0:Q0e)(pages:Int):Bool:=(Qjm d0 pages).m
def Z39:Q0c:=mkR 89 [] true [.agg Q0e.sig, .one (.int .i64)] [] (λargs rows=>Qev (Q0e.of (aC args 0)) (argI args 1)) (λX=> .bool X) (λX=>[])
theorem Z03:Q06 Tryz.prog Z39:=Q0z Q0j Q0l (.nil) Tryz.func89 Tryz.call89 (λargs rows=>Qjm (Q0e.of (aC args 0)) (argI args 1)) [] [] 2
def Qlt(n:Q0q)(pages:Int):Tree Bool:=
let T1:Tree (Bool):= .br n.B8 (.br (decide (n.F3>=1)) (.lf (decide (n.F3<=128))) (.lf false)) (.lf (n.F3==0)); .br n.C7 (.br n.B8 (.lf false) (.br (decide (wrap i64 n.C2>=pages)) (.lf false) (.br (!n.C7) (.br (n.C2 !=0) (.lf false) T1) T1))) (.br (!n.C7) (.br (n.C2 !=0) (.lf false) T1) T1)
def Qhi(n:Q0q)(pages:Int):Bool:=(Qlt n pages).m
def Zak:Q0c:=mkR 90 [] true [.agg Q0q.sig, .one (.int .i64)] [] (λargs rows=>Qhi (Q0q.of (aC args 0)) (argI args 1)) (λX=> .bool X) (λX=>[])
theorem Z4q:Q06 Tryz.prog Zak:=Q0z Q0j Q0l (.nil) Tryz.func90 Tryz.call90 (λargs rows=>Qlt (Q0q.of (aC args 0)) (argI args 1)) [] [] 2
def Qg(b:Q07)(pages:Int)(z:(Int)):Prop:=0<=z/\z<=32
def Q6e(b:Q07)(pages:Int)(z:(Int)):Nat:=(32-z).toNat
def Q5a(b:Q07)(pages:Int):Tree Bool:=
.lp inferInstance (Q6e b pages 0+1) ((rE (pages:Int)/\rZ/\rE (0:Int)/\True)/\(rE b.C9/\rE b.C5/\True)/\True) 0 λ(v0:Int)=> .br (decide (v0<32)) (.cn (decide (0<=wrap u64 v0)) (let T1:Tree ((Int)⊕(Bool)):= .nx ((rE (pages:Int)/\rZ/\rE ((wrap i64 (v0+1)):Int)/\True)/\(rE b.C9/\rE b.C5/\True)/\True) (Sum.inl (wrap i64 (v0+1))); .br (iand u32 (ishr u32 b.C5 (wrap u64 v0)) (1:Int)==(1:Int)) (.br (decide (v0>=pages)) (.lf (Sum.inr false)) T1) T1)) (.lf (Sum.inr true))
def Q97(b:Q07)(pages:Int):Bool:=(Q5a b pages).m
theorem Qr9(b:Q07)(pages:Int):(Q5a b pages).p:=by
 unfold Tree.p Q5a
 repeat'(first|refine w_lp (inv:=Qg b pages) (μ:=Q6e b pages) ?_ (Nat.lt_succ_self _) (λ_ _=> ?_)|exact trivial|refine w_br (λ_=> ?_) (λ_=> ?_)|refine w_cn ?_ ?_|refine w_an ?_ ?_|refine w_lv (λ_ _=> ?_)|refine w_nx ?_|refine w_lf ?_|refine And.intro ?_ ?_)
 all_goals((try simp only[Qg,Q6e]at*);exact fin0)
def Qsq:LInv:={
 α:=(Int)
 F:=λst a=>([(1,(lk st 1)),(2, .ptr 0 0 0),(5, .int i64 a)],[⟨true,38,2, .gen [[(cT st 2 0),(cT st 2 1)]]⟩])
 a0:=λst=>(lk st 5).toInt
 ex0:=λst=>[]++[(Q0o (lk st 2) (st.rows.length+0))]
 next:=λst=>(lk st 5).toInt
 ex:=λst=>[]++[(Q0o (lk st 2) (st.rows.length+0))]}
def Qpl:List (Nat×LInv):=[(2,Qsq)]
def Qw7:Q0c:=mkR 91 [] true [.agg Q07.sig, .one (.int .i64)] [] (λargs rows=>Q97 (Q07.of (aC args 0)) (argI args 1)) (λX=> .bool X) (λX=>[])
theorem Qtw:Q06 Tryz.prog Qw7:=Q0z Q0j Q0l (.nil) Tryz.func91 Tryz.call91 (λargs rows=>Q5a (Q07.of (aC args 0)) (argI args 1)) [] Qpl 3 (λ_ _ _=>by kernel_rfl) (λ_ _=>rfl) (λargs rows=>Qr9 (Q07.of (aC args 0)) (argI args 1)) (λ_ X=>by kernel_rfl)
def Qvi(m:Q00):Tree Bool:=
.lv (Q3k m.Mem) λ(x0:Int)=> .br (decide (x0<1)) (.lf false) (.br (m.B2.X.a0 !=0) (.lf false) (.br (decide (m.B2.B5.a0>31)) (.lf false) (.br (decide (m.B2.B5.a7>31)) (.lf false) (.br (decide (m.B2.B5.a6>255)) (.lf false) (.br (Int.tmod m.B2.B5.a1 (4:Int) !=(0:Int)) (.lf false) (.lv (Qij m.A3) λ(x1:Bool)=> .br (!x1) (.lf false) (.lv (Qcc m.A7) λ(x2:Bool)=> .br (!x2) (.lf false) (.lv (Qev m.B0 x0) λ(x3:Bool)=> .br (!x3) (.lf false) (.lv (Qhi m.C0 x0) λ(x4:Bool)=> .br (!x4) (.lf false) (.lv (Q97 m.A2 x0) λ(x5:Bool)=> .br (!x5) (.lf false) (.br (decide (m.A1<=1152921504606846976)) (.br m.A4 (.lf (!m.A6)) (.lf true)) (.lf false))))))))))))
def Q41(m:Q00):Bool:=(Qvi m).m
def Zmu:Q0c:=mkR 44 [] true [.agg Q00.sig] [] (λargs rows=>Q41 (Q00.of (aC args 0))) (λX=> .bool X) (λX=>[])
theorem Ql8:Q06 Tryz.prog Zmu:=Q0z Q0j Q0l (.cons Qcg (.cons Qt3 (.cons Qy5 (.cons Z03 (.cons Z4q (.cons Qtw (.nil))))))) Tryz.func44 Tryz.call44 (λargs rows=>Qvi (Q00.of (aC args 0))) [] [] 2
def Q96(t:Q0g):Tree (Q0g×Bool):=
.br (!t.D2) (.lf (t,false)) (.lf ({D2:=false,C8:=t.C8,D5:=true},true))
def Q6d(t:Q0g):(Q0g×Bool):=(Q96 t).m
def Zfo:Q0c:=mkR 132 [] true [.agg Q0g.sig] [] (λargs rows=>Q6d (Q0g.of (aC args 0))) (λX=> .tup [.agg (Q0g.cells (X.1)), .bool (X.2)]) (λX=>[])
theorem Qwy:Q06 Tryz.prog Zfo:=Q0z Q0j Q0l (.nil) Tryz.func132 Tryz.call132 (λargs rows=>Q96 (Q0g.of (aC args 0))) [] [] 2
def Qb6(c:Q0b)(b:Int):Tree (Q0b×Bool):=
.br (decide ((c.D3.length:Int)>=(16:Int))) (.lf (c,false)) (.cn (decide (c.D3.length+1<=maxLen)) (.lf ({D3:=c.D3++[(λ(n:Int)=>UInt8.ofNat n.toNat) b]},true)))
def Ql2(c:Q0b)(b:Int):(Q0b×Bool):=(Qb6 c b).m
abbrev Qlv(c:Q0b)(b:Int):Prop:=(Qb6 c b).p
def Zgb:Q0c:=mkP 133 [] true [.agg Q0b.sig, .one (.int .u8)] [] (λargs rows=>Qlv (Q0b.of (aC args 0)) (argI args 1)) (λargs rows=>Ql2 (Q0b.of (aC args 0)) (argI args 1)) (λX=> .tup [.agg (Q0b.cells (X.1)), .bool (X.2)]) (λX=>[])
theorem Qwc:Q06 Tryz.prog Zgb:=Q0n Q0j Q0l (.nil) Tryz.func133 Tryz.call133 (λargs rows=>Qb6 (Q0b.of (aC args 0)) (argI args 1)) [] [] 2
def Qgz(m:(List Int))(frame:Int):Tree Bool:=
.lv (Q3k m) λ(x0:Int)=> .lf (decide (wrap u64 frame<wrap u64 x0))
def Q26(m:(List Int))(frame:Int):Bool:=(Qgz m frame).m
def Zgt:Q0c:=mkR 186 [] true [.one (.ints .u32), .one (.int .u32)] [] (λargs rows=>Q26 (argL .u32 args 0) (argI args 1)) (λX=> .bool X) (λX=>[])
theorem Qet:Q06 Tryz.prog Zgt:=Q0z Q0j Q0l (.cons Qcg (.nil)) Tryz.func186 Tryz.call186 (λargs rows=>Qgz (argL .u32 args 0) (argI args 1)) [] [] 2
def Qe3(m:(List Int))(addr:Int)(size:Int)(v:Int):Tree (List Int):=
let E1:=Nat.beq 1 1&&Nat.blt 0 1&&decide (0<=wrap u32 (Int.tdiv addr 4)/\wrap u32 (Int.tdiv addr 4)<(m.length:Int));let E2:=Int.toNat (wrap u32 (Int.tdiv addr 4)); .br (size==4) (.cn E1 (.lf (List.set m E2 v))) (.cn E1 (let E3:=decide (0<=wrap u32 (8*Int.tmod addr 4)); .cn E3 (.cn E3 (.cn E1 (.lf (List.set m E2 (ior u32 (Qg7 u32 (m.getD E2 0) (ishl u32 255 (wrap u32 (8*Int.tmod addr 4)))) (ishl u32 (iand u32 v 255) (wrap u32 (8*Int.tmod addr 4))))))))))
def Qac(m:(List Int))(addr:Int)(size:Int)(v:Int):(List Int):=(Qe3 m addr size v).m
abbrev Qem(m:(List Int))(addr:Int)(size:Int)(v:Int):Prop:=(Qe3 m addr size v).p
def Zlf:Q0c:=mkP 234 [true,false,false,false] true [.one (.row 0), .one (.int .u32), .one (.int .i64), .one (.int .u32)] [.arr 23 1 (.ints .u32)] (λargs rows=>Qem (rowL .u32 rows 0) (argI args 1) (argI args 2) (argI args 3)) (λargs rows=>Qac (rowL .u32 rows 0) (argI args 1) (argI args 2) (argI args 3)) (λX=> .tup []) (λX=>[⟨false,23,1, .ints .u32 X⟩])
theorem Z1q:Q06 Tryz.prog Zlf:=Q0n Q0j Q0l (.nil) Tryz.func234 Tryz.call234 (λargs rows=>Qe3 (rowL .u32 rows 0) (argI args 1) (argI args 2) (argI args 3)) [] [] 2
def Qhc(m:(List Int))(frame:Int)(s:(List UInt8))(z:(Int)×(List Int)):Nat:=(128-z.1).toNat
def Q9d(m:(List Int))(frame:Int)(s:(List UInt8)):Tree (List Int):=
.lp inferInstance (Qhc m frame s (0,m)+1) ((True/\rE (frame:Int)/\rE (s:List UInt8)/\rE (0:Int)/\True)/\rE (m:List Int)/\True) (0,m) λ(v0:Int×List Int)=> .br (decide (v0.1<(s.length:Int))) (.br (decide (v0.1<128)) (.cn (decide (0<=v0.1/\v0.1<(s.length:Int))) (let E1:=wrap u32 (↑(UInt8.toNat (s.getD v0.1.toNat (0:UInt8))):Int);let E2:=wrap u32 (wrap i64 (wrap i64 (frame*128)+v0.1)); .an (Qem v0.2 E2 1 E1) (.lv (Qac v0.2 E2 1 E1) λ(x0:List Int)=> .nx ((True/\rE (frame:Int)/\rE (s:List UInt8)/\rE ((wrap i64 (v0.1+1)):Int)/\True)/\rE (x0:List Int)/\True) (Sum.inl (wrap i64 (v0.1+1),x0))))) (.lf (Sum.inr v0.2))) (.lf (Sum.inr v0.2))
def Qkt(m:(List Int))(frame:Int)(s:(List UInt8)):(List Int):=(Q9d m frame s).m
abbrev Qm4(m:(List Int))(frame:Int)(s:(List UInt8)):Prop:=(Q9d m frame s).p
def Zbk:LInv:={
 α:=(Int)×(List Int)
 F:=λst a=>([(0, .all 0),(1,(lk st 1)),(2,(lk st 2)),(6, .int i64 a.1)],[⟨false,23,1, .ints u32 a.2⟩])
 a0:=λst=>((lk st 6).toInt,(Q3e st.rows 0))
 ex0:=λst=>[0]++[]
 next:=λst=>((lk st 6).toInt,(Q3e st.rows 0))
 ex:=λst=>[0]++[]}
def Z3n:List (Nat×LInv):=[(1,Zbk)]
def Zfm:Q0c:=mkP 187 [true,false,false] true [.one (.row 0), .one (.int .i64), .one (.str)] [.arr 23 1 (.ints .u32)] (λargs rows=>Qm4 (rowL .u32 rows 0) (argI args 1) (argS args 2)) (λargs rows=>Qkt (rowL .u32 rows 0) (argI args 1) (argS args 2)) (λX=> .tup []) (λX=>[⟨false,23,1, .ints .u32 X⟩])
theorem Qwg:Q06 Tryz.prog Zfm:=Q0n Q0j Q0l (.cons Z1q (.nil)) Tryz.func187 Tryz.call187 (λargs rows=>Q9d (rowL .u32 rows 0) (argI args 1) (argS args 2)) [] Z3n 3
def Q6a(d0:Q0e)(m:(List Int))(e:Q0f):Tree (Q0e×Bool×(List Int)):=
.br (d0.C1 !=1) (.lf (d0,false,m)) (.br (e.B7 !=4) (.lf (d0,false,m)) (.br (decide (e.N>1)) (.lf (d0,false,m)) (let E4:=({Blocks:=d0.Blocks,B9:=d0.B9,B4:=d0.B4,C1:=2,D8:=0,B6:=0,B3:=0,C3:=[]}:Q0e);let E5:=({Blocks:=d0.Blocks,B9:=d0.B9,B4:=d0.B4,C1:=3,D8:=0,B6:=0,B3:=0,C3:=[]}:Q0e);let T2:Tree ((Q0e×Bool×(List Int))):= .br (e.N==1) (.lf (E4,true,m)) (.lf (E5,true,m));let E6:=decide ((e.D0.length:Int)>(0:Int)); .br (e.N==1) (let T1:Tree ((Q0e×Bool×(List Int))):= .br (d0.D8==1) (.an (Qm4 m (wrap i64 d0.B3) e.D0) (.lv (Qkt m (wrap i64 d0.B3) e.D0) λ(x1:List Int)=> .br (e.N==1) (.lf (E4,true,x1)) (.lf (E5,true,x1)))) T2;let T3:Tree ((Q0e×Bool×(List Int))):= .br (!d0.D8==1) (.br E6 (.lf (d0,false,m)) T1) T1; .br (d0.D8==1) (.br ((e.D0.length:Int) !=(128:Int)) (.lf (d0,false,m)) (.lv (Q26 m d0.B3) λ(x0:Bool)=> .br (!x0) (.lf (d0,false,m)) T3)) T3) (.br E6 (.lf (d0,false,m)) T2))))
def Q7l(d0:Q0e)(m:(List Int))(e:Q0f):(Q0e×Bool×(List Int)):=(Q6a d0 m e).m
abbrev Qi2(d0:Q0e)(m:(List Int))(e:Q0f):Prop:=(Q6a d0 m e).p
def Z7a:Q0c:=mkP 134 [false,true,false] true [.agg Q0e.sig, .one (.row 0), .agg Q0f.sig] [.arr 23 1 (.ints .u32)] (λargs rows=>Qi2 (Q0e.of (aC args 0)) (rowL .u32 rows 0) (Q0f.of (aC args 2))) (λargs rows=>Q7l (Q0e.of (aC args 0)) (rowL .u32 rows 0) (Q0f.of (aC args 2))) (λX=> .tup [.agg (Q0e.cells (X.1)), .bool (X.2.1)]) (λX=>[⟨false,23,1, .ints .u32 (X.2.2)⟩])
theorem Qq8:Q06 Tryz.prog Z7a:=Q0n Q0j Q0l (.cons Qet (.cons Qwg (.nil))) Tryz.func134 Tryz.call134 (λargs rows=>Q6a (Q0e.of (aC args 0)) (rowL .u32 rows 0) (Q0f.of (aC args 2))) [] [] 2
def Q69(n:Q0q)(m:(List Int))(frame:(List UInt8)):Tree (Q0q×Bool×(List Int)):=
.br (!n.C7) (.lf (n,false,m)) (.br (decide ((frame.length:Int)<(1:Int))) (.lf (n,false,m)) (.br (decide ((frame.length:Int)>(128:Int))) (.lf (n,false,m)) (.lv (Q26 m n.C2) λ(x0:Bool)=> .br (!x0) (.lf (n,false,m)) (.an (Qm4 m (wrap i64 n.C2) frame) (.lv (Qkt m (wrap i64 n.C2) frame) λ(x1:List Int)=> .lf ({B4:=n.B4,F0:=n.F0,C7:=false,C2:=0,B8:=true,F3:=wrap u32 (frame.length:Int)},true,x1))))))
def Q7s(n:Q0q)(m:(List Int))(frame:(List UInt8)):(Q0q×Bool×(List Int)):=(Q69 n m frame).m
abbrev Qhj(n:Q0q)(m:(List Int))(frame:(List UInt8)):Prop:=(Q69 n m frame).p
def Z97:Q0c:=mkP 135 [false,true,false] true [.agg Q0q.sig, .one (.row 0), .one (.str)] [.arr 23 1 (.ints .u32)] (λargs rows=>Qhj (Q0q.of (aC args 0)) (rowL .u32 rows 0) (argS args 2)) (λargs rows=>Q7s (Q0q.of (aC args 0)) (rowL .u32 rows 0) (argS args 2)) (λX=> .tup [.agg (Q0q.cells (X.1)), .bool (X.2.1)]) (λX=>[⟨false,23,1, .ints .u32 (X.2.2)⟩])
theorem Qqo:Q06 Tryz.prog Z97:=Q0n Q0j Q0l (.cons Qet (.cons Qwg (.nil))) Tryz.func135 Tryz.call135 (λargs rows=>Q69 (Q0q.of (aC args 0)) (rowL .u32 rows 0) (argS args 2)) [] [] 2
def Q45(m:Q00)(e:Q0f):Tree (Bool×Q00):=
.br m.A6 (.lf (false,m)) (let T1:Tree ((Bool×Q00)):= .br (e.B7==4) (.an (Qi2 m.B0 m.Mem e) (.lv (Q7l m.B0 m.Mem e) λ(x2:Q0e×Bool×List Int)=> .lf (x2.2.1,{B2:=m.B2,Mem:=x2.2.2,A3:=m.A3,A7:=m.A7,B0:=x2.1,C0:=m.C0,A2:=m.A2,A1:=m.A1,A4:=m.A4,A6:=m.A6}))) (let T3:Tree ((Bool×Q00)):= .br (e.B7==6) (.br (decide (e.D0=[])) (.lf (true,{B2:=m.B2,Mem:=m.Mem,A3:=m.A3,A7:=m.A7,B0:=m.B0,C0:=m.C0,A2:={C9:=e.N,C5:=m.A2.C5},A1:=m.A1,A4:=m.A4,A6:=m.A6})) (.lf (false,m))) (.lf (false,m)); .br (e.B7==5) (.br (e.N==0) (.an (Qhj m.C0 m.Mem e.D0) (.lv (Q7s m.C0 m.Mem e.D0) λ(x3:Q0q×Bool×List Int)=> .lf (x3.2.1,{B2:=m.B2,Mem:=x3.2.2,A3:=m.A3,A7:=m.A7,B0:=m.B0,C0:=x3.1,A2:=m.A2,A1:=m.A1,A4:=m.A4,A6:=m.A6}))) T3) T3);let T2:Tree ((Bool×Q00)):= .br (e.B7==3) (.br (decide (e.N<=255)) (.br (decide (e.D0=[])) (.an (Qlv m.A3 (wrap u8 e.N)) (.lv (Ql2 m.A3 (wrap u8 e.N)) λ(x1:Q0b×Bool)=> .lf (x1.2,{B2:=m.B2,Mem:=m.Mem,A3:=x1.1,A7:=m.A7,B0:=m.B0,C0:=m.C0,A2:=m.A2,A1:=m.A1,A4:=m.A4,A6:=m.A6}))) T1) T1) T1; .br (e.B7==2) (.br (e.N==0) (.br (decide (e.D0=[])) (.lv (Q6d m.A7) λ(x0:Q0g×Bool)=> .lf (x0.2,{B2:=m.B2,Mem:=m.Mem,A3:=m.A3,A7:=x0.1,B0:=m.B0,C0:=m.C0,A2:=m.A2,A1:=m.A1,A4:=m.A4,A6:=m.A6})) T2) T2) T2)
def Q0p(m:Q00)(e:Q0f):(Bool×Q00):=(Q45 m e).m
abbrev Qjv(m:Q00)(e:Q0f):Prop:=(Q45 m e).p
def Zbt:Q0c:=mkP 68 [true,false] true [.ptr 0, .agg Q0f.sig] [.box 41 49 (Q00.sigW (.row 1)), .arr 23 1 (.ints .u32)] (λargs rows=>Qjv (Q00.ofW (rows.getD 0 default).cs (rowL .u32 rows 1)) (Q0f.of (aC args 1))) (λargs rows=>Q0p (Q00.ofW (rows.getD 0 default).cs (rowL .u32 rows 1)) (Q0f.of (aC args 1))) (λX=> .bool (X.1)) (λX=>[⟨true,41,49, .gen [(Q00.cellsW (X.2) (.all 1))]⟩,⟨false,23,1, .ints .u32 (X.2).Mem⟩])
theorem Qt7:Q06 Tryz.prog Zbt:=Q0n Q0j Q0l (.cons Qwy (.cons Qwc (.cons Qq8 (.cons Qqo (.nil))))) Tryz.func68 Tryz.call68 (λargs rows=>Q45 (Q00.ofW (rows.getD 0 default).cs (rowL .u32 rows 1)) (Q0f.of (aC args 1))) [.row 23 1 (.ints .u32)] [] 2
def Q8g(m:Q01)(e:Q0f):Tree (Bool×Q01):=
.br m.A0.A6 (.lf (false,m)) (let T1:Tree ((Bool×Q01)):= .br (e.B7==4) (.an (Qi2 m.A0.B0 m.A0.Mem e) (.lv (Q7l m.A0.B0 m.A0.Mem e) λ(x2:Q0e×Bool×List Int)=> .lf (x2.2.1,{A0:={B2:=m.A0.B2,Mem:=x2.2.2,A3:=m.A0.A3,A7:=m.A0.A7,B0:=x2.1,C0:=m.A0.C0,A2:=m.A0.A2,A1:=m.A0.A1,A4:=m.A0.A4,A6:=m.A0.A6},B1:=m.B1,C6:=m.C6,A9:=m.A9}))) (let T3:Tree ((Bool×Q01)):= .br (e.B7==6) (.br (decide (e.D0=[])) (.lf (true,{A0:={B2:=m.A0.B2,Mem:=m.A0.Mem,A3:=m.A0.A3,A7:=m.A0.A7,B0:=m.A0.B0,C0:=m.A0.C0,A2:={C9:=e.N,C5:=m.A0.A2.C5},A1:=m.A0.A1,A4:=m.A0.A4,A6:=m.A0.A6},B1:=m.B1,C6:=m.C6,A9:=m.A9})) (.lf (false,m))) (.lf (false,m)); .br (e.B7==5) (.br (e.N==0) (.an (Qhj m.A0.C0 m.A0.Mem e.D0) (.lv (Q7s m.A0.C0 m.A0.Mem e.D0) λ(x3:Q0q×Bool×List Int)=> .lf (x3.2.1,{A0:={B2:=m.A0.B2,Mem:=x3.2.2,A3:=m.A0.A3,A7:=m.A0.A7,B0:=m.A0.B0,C0:=x3.1,A2:=m.A0.A2,A1:=m.A0.A1,A4:=m.A0.A4,A6:=m.A0.A6},B1:=m.B1,C6:=m.C6,A9:=m.A9}))) T3) T3);let T2:Tree ((Bool×Q01)):= .br (e.B7==3) (.br (decide (e.N<=255)) (.br (decide (e.D0=[])) (.an (Qlv m.A0.A3 (wrap u8 e.N)) (.lv (Ql2 m.A0.A3 (wrap u8 e.N)) λ(x1:Q0b×Bool)=> .lf (x1.2,{A0:={B2:=m.A0.B2,Mem:=m.A0.Mem,A3:=x1.1,A7:=m.A0.A7,B0:=m.A0.B0,C0:=m.A0.C0,A2:=m.A0.A2,A1:=m.A0.A1,A4:=m.A0.A4,A6:=m.A0.A6},B1:=m.B1,C6:=m.C6,A9:=m.A9}))) T1) T1) T1; .br (e.B7==2) (.br (e.N==0) (.br (decide (e.D0=[])) (.lv (Q6d m.A0.A7) λ(x0:Q0g×Bool)=> .lf (x0.2,{A0:={B2:=m.A0.B2,Mem:=m.A0.Mem,A3:=m.A0.A3,A7:=x0.1,B0:=m.A0.B0,C0:=m.A0.C0,A2:=m.A0.A2,A1:=m.A0.A1,A4:=m.A0.A4,A6:=m.A0.A6},B1:=m.B1,C6:=m.C6,A9:=m.A9})) T2) T2) T2)
def Qjb(m:Q01)(e:Q0f):(Bool×Q01):=(Q8g m e).m
abbrev Qmv(m:Q01)(e:Q0f):Prop:=(Q8g m e).p
def Z3w:Q0c:=mkP 68 [true,false] true [.ptr 0, .agg Q0f.sig] [.box 49 52 (Q01.sigW (.row 1) (.row 2) (.row 3)), .arr 23 1 (.ints .u32), .arr 72 4 (.recs .apiEntry), .arr 70 3 (.recs .apiEvent)] (λargs rows=>Qmv (Q01.ofW (rows.getD 0 default).cs (rowL .u32 rows 1) (rowR .apiEntry rows 2) (rowR .apiEvent rows 3)) (Q0f.of (aC args 1))) (λargs rows=>Qjb (Q01.ofW (rows.getD 0 default).cs (rowL .u32 rows 1) (rowR .apiEntry rows 2) (rowR .apiEvent rows 3)) (Q0f.of (aC args 1))) (λX=> .bool (X.1)) (λX=>[⟨true,49,52, .gen [(Q01.cellsW (X.2) (.all 1) (.all 2) (.all 3))]⟩,⟨false,23,1, .ints .u32 (X.2).A0.Mem⟩,⟨false,72,4, .recs .apiEntry (X.2).C6⟩,⟨false,70,3, .recs .apiEvent (X.2).A9⟩])
theorem Z2y:Q06 Tryz.prog Z3w:=Q0n Q0j Q0l (.cons Qwy (.cons Qwc (.cons Qq8 (.cons Qqo (.nil))))) Tryz.func68 Tryz.call68 (λargs rows=>Q8g (Q01.ofW (rows.getD 0 default).cs (rowL .u32 rows 1) (rowR .apiEntry rows 2) (rowR .apiEvent rows 3)) (Q0f.of (aC args 1))) [.row 23 1 (.ints .u32), .row 72 4 (.recs .apiEntry), .row 70 3 (.recs .apiEvent)] [] 2
def Q6y(m:Q01)(e:Q0f):Tree (Bool×Q01):=
.an (Qmv m e) (.lv (Qjb m e) λ(x0:Bool×Q01)=> .lf (x0.1,x0.2))
def Qg8(m:Q01)(e:Q0f):(Bool×Q01):=(Q6y m e).m
abbrev Qk1(m:Q01)(e:Q0f):Prop:=(Q6y m e).p
def Z12:Q0c:=mkP 233 [true,false] true [.ptr 0, .agg Q0f.sig] [.box 49 52 (Q01.sigW (.row 1) (.row 2) (.row 3)), .arr 23 1 (.ints .u32), .arr 72 4 (.recs .apiEntry), .arr 70 3 (.recs .apiEvent)] (λargs rows=>Qk1 (Q01.ofW (rows.getD 0 default).cs (rowL .u32 rows 1) (rowR .apiEntry rows 2) (rowR .apiEvent rows 3)) (Q0f.of (aC args 1))) (λargs rows=>Qg8 (Q01.ofW (rows.getD 0 default).cs (rowL .u32 rows 1) (rowR .apiEntry rows 2) (rowR .apiEvent rows 3)) (Q0f.of (aC args 1))) (λX=> .bool (X.1)) (λX=>[⟨true,49,52, .gen [(Q01.cellsW (X.2) (.all 1) (.all 2) (.all 3))]⟩,⟨false,23,1, .ints .u32 (X.2).A0.Mem⟩,⟨false,72,4, .recs .apiEntry (X.2).C6⟩,⟨false,70,3, .recs .apiEvent (X.2).A9⟩])
theorem Qyt:Q06 Tryz.prog Z12:=Q0n Q0j Q0l (.cons Z2y (.nil)) Tryz.func233 Tryz.call233 (λargs rows=>Q6y (Q01.ofW (rows.getD 0 default).cs (rowL .u32 rows 1) (rowR .apiEntry rows 2) (rowR .apiEvent rows 3)) (Q0f.of (aC args 1))) [.row 23 1 (.ints .u32), .row 72 4 (.recs .apiEntry), .row 70 3 (.recs .apiEvent)] [] 2
def Qa(r:Q01)(e:Q0f):Tree Q01:=
.an (Qk1 r e) (.lv (Qg8 r e) λ(x0:Bool×Q01)=> .br x0.1 (.cn (decide (40*(x0.2.C6.length+1)<=140737488355328)) (.lf ({A0:=x0.2.A0,B1:=x0.2.B1,C6:=x0.2.C6++[{At:=x0.2.A0.A1,C4:=e}],A9:=x0.2.A9}))) (.lf x0.2))
def Qha(r:Q01)(e:Q0f):Q01:=(Qa r e).m
abbrev Qhw(r:Q01)(e:Q0f):Prop:=(Qa r e).p
def Z9s:Q0c:=mkKP 1 182 [true,false] [.ptr 0, .agg Q0f.sig] [.box 49 52 (Q01.sigW (.row 1) (.row 2) (.row 3)), .arr 23 1 (.ints .u32), .arr 72 4 (.recs .apiEntry), .arr 70 3 (.recs .apiEvent)] (λargs rows=>Qhw (Q01.ofW (rows.getD 0 default).cs (rowL .u32 rows 1) (rowR .apiEntry rows 2) (rowR .apiEvent rows 3)) (Q0f.of (aC args 1))) (λargs rows=>Qha (Q01.ofW (rows.getD 0 default).cs (rowL .u32 rows 1) (rowR .apiEntry rows 2) (rowR .apiEvent rows 3)) (Q0f.of (aC args 1))) (λX=> .tup []) (λX=>[⟨true,49,52, .gen [(Q01.cellsW X (.all 1) (.all 2) (.all 3))]⟩,⟨false,23,1, .ints .u32 X.A0.Mem⟩,⟨false,72,4, .recs .apiEntry X.C6⟩,⟨false,70,3, .recs .apiEvent X.A9⟩])
theorem Z3m:Q06 Tryz.prog Z9s:=yx Q0j Q0l (.cons Qyt (.nil)) Tryz.func182 Tryz.call182 (λargs rows=>Qa (Q01.ofW (rows.getD 0 default).cs (rowL .u32 rows 1) (rowR .apiEntry rows 2) (rowR .apiEvent rows 3)) (Q0f.of (aC args 1))) [.row 23 1 (.ints .u32), .row 72 4 (.recs .apiEntry), .row 70 3 (.recs .apiEvent)] [] 2 (λ_ _ _=>by kernel_rfl) (λ_ _=>rfl) (λ_ _ h=>h)
def Qi9(is:Bool)(n:Int):Tree Int:=
.br is (.cn (decide (0<=wrap u64 n)) (.lf (ishl u32 1 (wrap u64 n)))) (.lf 0)
def Q98(is:Bool)(n:Int):Int:=(Qi9 is n).m
abbrev Q9x(is:Bool)(n:Int):Prop:=(Qi9 is n).p
def Zhl:Q0c:=mkP 97 [] true [.one (.bool), .one (.int .i64)] [] (λargs rows=>Q9x (argB args 0) (argI args 1)) (λargs rows=>Q98 (argB args 0) (argI args 1)) (λX=> .int .u32 X) (λX=>[])
theorem Zdt:Q06 Tryz.prog Zhl:=Q0n Q0j Q0l (.nil) Tryz.func97 Tryz.call97 (λargs rows=>Qi9 (argB args 0) (argI args 1)) [] [] 2
def Qhp(t:Q0g):Tree Bool:=
.lf t.D5
def Qa5(t:Q0g):Bool:=(Qhp t).m
def Qr:Q0c:=mkR 98 [] true [.agg Q0g.sig] [] (λargs rows=>Qa5 (Q0g.of (aC args 0))) (λX=> .bool X) (λX=>[])
theorem Qpu:Q06 Tryz.prog Qr:=Q0z Q0j Q0l (.nil) Tryz.func98 Tryz.call98 (λargs rows=>Qhp (Q0g.of (aC args 0))) [] [] 2
def Qf(c:Q0b):Tree Bool:=
.lf (decide ((c.D3.length:Int)>(0:Int)))
def Q5n(c:Q0b):Bool:=(Qf c).m
def Qnt:Q0c:=mkR 99 [] true [.agg Q0b.sig] [] (λargs rows=>Q5n (Q0b.of (aC args 0))) (λX=> .bool X) (λX=>[])
theorem Qmw:Q06 Tryz.prog Qnt:=Q0z Q0j Q0l (.nil) Tryz.func99 Tryz.call99 (λargs rows=>Qf (Q0b.of (aC args 0))) [] [] 2
def Qj5(d0:Q0e):Tree Bool:=
.br (d0.C1==2) (.lf true) (.lf (d0.C1==3))
def Qay(d0:Q0e):Bool:=(Qj5 d0).m
def Qs4:Q0c:=mkR 100 [] true [.agg Q0e.sig] [] (λargs rows=>Qay (Q0e.of (aC args 0))) (λX=> .bool X) (λX=>[])
theorem Qqu:Q06 Tryz.prog Qs4:=Q0z Q0j Q0l (.nil) Tryz.func100 Tryz.call100 (λargs rows=>Qj5 (Q0e.of (aC args 0))) [] [] 2
def Qjz(n:Q0q):Tree Bool:=
.lf n.B8
def Qcf(n:Q0q):Bool:=(Qjz n).m
def Qv0:Q0c:=mkR 101 [] true [.agg Q0q.sig] [] (λargs rows=>Qcf (Q0q.of (aC args 0))) (λX=> .bool X) (λX=>[])
theorem Qt9:Q06 Tryz.prog Qv0:=Q0z Q0j Q0l (.nil) Tryz.func101 Tryz.call101 (λargs rows=>Qjz (Q0q.of (aC args 0))) [] [] 2
def Qna(b:Q07)(z:(Int)×(Int)):Prop:=0<=z.2/\z.2<=32
def Qfp(b:Q07)(z:(Int)×(Int)):Nat:=(32-z.2).toNat
def Qj3(b:Q07):Tree Int:=
.lp inferInstance (Qfp b (0,0)+1) ((rZ/\rE (0:Int)/\rE (0:Int)/\True)/\(rE b.C9/\rE b.C5/\True)/\True) (0,0) λ(v0:Int×Int)=> .br (decide (v0.2<32)) (.cn (decide (0<=wrap u64 v0.2)) (.nx ((rZ/\rE ((wrap i64 (v0.1+wrap i64 (iand u32 (ishr u32 b.C5 (wrap u64 v0.2)) 1))):Int)/\rE ((wrap i64 (v0.2+1)):Int)/\True)/\(rE b.C9/\rE b.C5/\True)/\True) (Sum.inl (wrap i64 (v0.1+wrap i64 (iand u32 (ishr u32 b.C5 (wrap u64 v0.2)) 1)),wrap i64 (v0.2+1))))) (.lf (Sum.inr v0.1))
def Qe0(b:Q07):Int:=(Qj3 b).m
theorem Z4g(b:Q07):(Qj3 b).p:=by
 unfold Tree.p Qj3
 repeat'(first|refine w_lp (inv:=Qna b) (μ:=Qfp b) ?_ (Nat.lt_succ_self _) (λ_ _=> ?_)|exact trivial|refine w_br (λ_=> ?_) (λ_=> ?_)|refine w_cn ?_ ?_|refine w_an ?_ ?_|refine w_lv (λ_ _=> ?_)|refine w_nx ?_|refine w_lf ?_|refine And.intro ?_ ?_)
 all_goals((try simp only[Qna,Qfp]at*);exact fin0)
def Zaf:LInv:={
 α:=(Int)×(Int)
 F:=λst a=>([(1, .ptr 0 0 0),(3, .int i64 a.1),(4, .int i64 a.2)],[⟨true,38,2, .gen [[(cT st 1 0),(cT st 1 1)]]⟩])
 a0:=λst=>((lk st 3).toInt,(lk st 4).toInt)
 ex0:=λst=>[]++[(Q0o (lk st 1) (st.rows.length+0))]
 next:=λst=>((lk st 3).toInt,(lk st 4).toInt)
 ex:=λst=>[]++[(Q0o (lk st 1) (st.rows.length+0))]}
def Z1k:List (Nat×LInv):=[(3,Zaf)]
def Zf4:Q0c:=mkR 153 [] true [.agg Q07.sig] [] (λargs rows=>Qe0 (Q07.of (aC args 0))) (λX=> .int .i64 X) (λX=>[])
theorem Qtb:Q06 Tryz.prog Zf4:=Q0z Q0j Q0l (.nil) Tryz.func153 Tryz.call153 (λargs rows=>Qj3 (Q07.of (aC args 0))) [] Z1k 3 (λ_ _ _=>by kernel_rfl) (λ_ _=>rfl) (λargs rows=>Z4g (Q07.of (aC args 0))) (λ_ X=>by kernel_rfl)
def Q9k(b:Q07):Tree Bool:=
.lv (Qe0 b) λ(x0:Int)=> .lf (wrap u64 x0 !=wrap u64 b.C9)
def Q3r(b:Q07):Bool:=(Q9k b).m
def Qnk:Q0c:=mkR 102 [] true [.agg Q07.sig] [] (λargs rows=>Q3r (Q07.of (aC args 0))) (λX=> .bool X) (λX=>[])
theorem Qmy:Q06 Tryz.prog Qnk:=Q0z Q0j Q0l (.cons Qtb (.nil)) Tryz.func102 Tryz.call102 (λargs rows=>Q9k (Q07.of (aC args 0))) [] [] 2
def Qf5(m:Q00):Tree Int:=
.lv (Qa5 m.A7) λ(x0:Bool)=> .an (Q9x x0 0) (.lv (Q98 x0 0) λ(x1:Int)=> .lv (Q5n m.A3) λ(x2:Bool)=> .an (Q9x x2 1) (.lv (Q98 x2 1) λ(x3:Int)=> .lv (Qay m.B0) λ(x4:Bool)=> .an (Q9x x4 2) (.lv (Q98 x4 2) λ(x5:Int)=> .lv (Qcf m.C0) λ(x6:Bool)=> .an (Q9x x6 3) (.lv (Q98 x6 3) λ(x7:Int)=> .lv (Q3r m.A2) λ(x8:Bool)=> .an (Q9x x8 4) (.lv (Q98 x8 4) λ(x9:Int)=> .lf (ior u32 (ior u32 (ior u32 (ior u32 x1 x3) x5) x7) x9))))))
def Qgw(m:Q00):Int:=(Qf5 m).m
abbrev Qpz(m:Q00):Prop:=(Qf5 m).p
def Zdi:Q0c:=mkP 46 [] true [.agg Q00.sig] [] (λargs rows=>Qpz (Q00.of (aC args 0))) (λargs rows=>Qgw (Q00.of (aC args 0))) (λX=> .int .u32 X) (λX=>[])
theorem Z92:Q06 Tryz.prog Zdi:=Q0n Q0j Q0l (.cons Zdt (.cons Qpu (.cons Qmw (.cons Qqu (.cons Qt9 (.cons Qmy (.nil))))))) Tryz.func46 Tryz.call46 (λargs rows=>Qf5 (Q00.of (aC args 0))) [] [] 2
def Q8h(m:Q00):Tree Int:=
.an (Qpz m) (.lv (Qgw m) λ(x0:Int)=> .lf (iand u32 x0 m.B2.B5.a7))
def Q2y(m:Q00):Int:=(Q8h m).m
abbrev Qfv(m:Q00):Prop:=(Q8h m).p
def Z3u:Q0c:=mkP 104 [] true [.agg Q00.sig] [] (λargs rows=>Qfv (Q00.of (aC args 0))) (λargs rows=>Q2y (Q00.of (aC args 0))) (λX=> .int .u32 X) (λX=>[])
theorem Qnp:Q06 Tryz.prog Z3u:=Q0n Q0j Q0l (.cons Z92 (.nil)) Tryz.func104 Tryz.call104 (λargs rows=>Q8h (Q00.of (aC args 0))) [] [] 2
def Qdj(m:Q00):Tree Bool:=
.br m.A4 (.an (Qfv m) (.lv (Q2y m) λ(x0:Int)=> .lf (x0==0))) (.lf false)
def Q36(m:Q00):Bool:=(Qdj m).m
abbrev Qgn(m:Q00):Prop:=(Qdj m).p
def Zhe:Q0c:=mkP 48 [] true [.agg Q00.sig] [] (λargs rows=>Qgn (Q00.of (aC args 0))) (λargs rows=>Q36 (Q00.of (aC args 0))) (λX=> .bool X) (λX=>[])
theorem Qno:Q06 Tryz.prog Zhe:=Q0n Q0j Q0l (.cons Qnp (.nil)) Tryz.func48 Tryz.call48 (λargs rows=>Qdj (Q00.of (aC args 0))) [] [] 2
def Q9b(m:Q00):Tree Bool:=
.lv (Q41 m) λ(x0:Bool)=> .br (!x0) (.lf true) (.br m.A6 (.lf true) (.an (Qgn m) (.lv (Q36 m) λ(x1:Bool)=> .br x1 (.lf true) (.lf (decide (m.A1>=1152921504606846976))))))
def Q0y(m:Q00):Bool:=(Q9b m).m
abbrev Qec(m:Q00):Prop:=(Q9b m).p
def Zcz:Q0c:=mkP 108 [] true [.agg Q00.sig] [] (λargs rows=>Qec (Q00.of (aC args 0))) (λargs rows=>Q0y (Q00.of (aC args 0))) (λX=> .bool X) (λX=>[])
theorem Qtx:Q06 Tryz.prog Zcz:=Q0n Q0j Q0l (.cons Ql8 (.cons Qno (.nil))) Tryz.func108 Tryz.call108 (λargs rows=>Q9b (Q00.of (aC args 0))) [] [] 2
end
end Go.Proofs.YtjaifpiopmhmlaaGreat

import Derived.Test.YtmalmklaonainaaGreatReplayRefusesYe
set_option maxRecDepth 100000
set_option linter.all false
namespace Go.Proofs.YtmalmklaonainaaGreat
open Go Go.GD Go.IntKind
noncomputable section
def Qfb(m:(List Int)):Tree (List Int):=
.cn (Nat.blt (0:Nat) (1:Nat)&&Nat.beq (1:Nat) (1:Nat)&&List.all [D.int u32 (0:Int)] D.plain&&decide ((0:Int)<=(m.length:Int)/\(m.length:Int)<=(m.length:Int)/\(m.length:Int)<=(9223372036854775807:Int)/\(↑(4:Nat):Int)*(m.length:Int)<=(140737488355328:Int))) (let E1:=List.length (List.replicate (Int.toNat (m.length:Int)) (0:Int)); .lf (List.take (Min.min (m.length) E1) m++List.drop (Min.min (m.length) E1) (List.replicate (Int.toNat (m.length:Int)) (0:Int))))
def Quv(m:(List Int)):(List Int):=(Qfb m).m
abbrev Qsv(m:(List Int)):Prop:=(Qfb m).p
def Zho:Q0d:=mkP 122 [] true [.one (.ints .u32)] [] (λargs rows=>Qsv (argL .u32 args 0)) (λargs rows=>Quv (argL .u32 args 0)) (λX=> .all 0) (λX=>[⟨false,25,1, .ints .u32 X⟩])
theorem Zf3:Q05 Tryz.prog Zho:=Q0l drawn Q0j (.nil) Tryz.func122 Tryz.call122 (λargs rows=>Qfb (argL .u32 args 0)) [.row 25 1 (.ints .u32)] [] 2
def Qdl(m:Q00):Tree Q00:=
.an (Qsv m.Mem) (.lv (Quv m.Mem) λ(x0:List Int)=> .lf ({B2:=m.B2,Mem:=x0,A6:=m.A6,B0:=m.B0,B1:=m.B1,C4:=m.C4,A2:=m.A2,A1:=m.A1,A7:=m.A7,A9:=m.A9}))
def Qmh(m:Q00):Q00:=(Qdl m).m
abbrev Qg7(m:Q00):Prop:=(Qdl m).p
def Zmm:Q0d:=mkP 34 [] true [.agg Q00.sig] [] (λargs rows=>Qg7 (Q00.of (aC args 0))) (λargs rows=>Qmh (Q00.of (aC args 0))) (λX=> .agg (Q00.cellsW X (.all 0))) (λX=>[⟨false,25,1, .ints .u32 X.Mem⟩])
theorem Qs6:Q05 Tryz.prog Zmm:=Q0l drawn Q0j (.cons Zf3 (.nil)) Tryz.func34 Tryz.call34 (λargs rows=>Qdl (Q00.of (aC args 0))) [.row 25 1 (.ints .u32)] [] 2
def Qrp(n:Int)(k:Int)(z:(Int)×(List Int)):Prop:=0<=z.1/\(z.2.length:Int)=z.1/\(z.1<=k\/z.1=0)
def Qed(n:Int)(k:Int)(z:(Int)×(List Int)):Nat:=(k-z.1).toNat
def Qfo(n:Int)(k:Int):Tree (List UInt8):=
.lp inferInstance (Qed n k (0,[])+1) ((rE (n:Int)/\rE (k:Int)/\True/\rE (0:Int)/\True)/\rE ([]:List Int)/\True) (0,[]) λ(v0:Int×List Int)=> .br (decide (v0.1<k)) (.lv (Q3f n (wrap i64 (Int.tdiv v0.1 9))) λ(x0:Int)=> .cn (decide (1*(v0.2.length+1)<=140737488355328)) (.nx ((rE (n:Int)/\rE (k:Int)/\True/\rE ((wrap i64 (v0.1+1)):Int)/\True)/\rE ((v0.2++[wrap u8 x0]):List Int)/\True) (Sum.inl (wrap i64 (v0.1+1),v0.2++[wrap u8 x0])))) (.lf (Sum.inr (bytesOf v0.2)))
def Quc(n:Int)(k:Int):(List UInt8):=(Qfo n k).m
def Qb5(n:Int)(k:Int):Prop:=
k<=1000000000000
theorem Z9c(n:Int)(k:Int)(hw:Qb5 n k):(Qfo n k).p:=by
 simp only[Qb5]at hw
 unfold Tree.p Qfo
 repeat'(first|refine w_lp (inv:=Qrp n k) (μ:=Qed n k) ?_ (Nat.lt_succ_self _) (λ_ _=> ?_)|exact trivial|refine w_br (λ_=> ?_) (λ_=> ?_)|refine w_cn ?_ ?_|refine w_an ?_ ?_|refine w_lv (λ_ _=> ?_)|refine w_nx ?_|refine w_lf ?_|refine And.intro ?_ ?_)
 all_goals((try simp only[Qrp,Qed]at*);exact fin0)
def Zfl:LInv:={
 α:=(Int)×(List Int)
 F:=λst a=>([(0,(lk st 0)),(1,(lk st 1)),(5, .all 0),(6, .int i64 a.1)],[⟨false,5,1, .ints u8 a.2⟩])
 a0:=λst=>((lk st 6).toInt,(Q5q st.rows (rN st 5)))
 ex0:=λst=>[]++[(Q0r (lk st 5) (st.rows.length+0))]
 next:=λst=>((lk st 6).toInt,(Q5q st.rows (rN st 5)))
 ex:=λst=>[]++[(Q0r (lk st 5) (st.rows.length+0))]}
def Z55:List (Nat×LInv):=[(3,Zfl)]
def Zjj:Q0d:=mkP 84 [] true [.one (.int .i64), .one (.int .i64)] [] (λargs rows=>Qb5 (argI args 0) (argI args 1)) (λargs rows=>Quc (argI args 0) (argI args 1)) (λX=> .str X) (λX=>[])
theorem Zer:Q05 Tryz.prog Zjj:=Q0l drawn Q0j (.cons Qmj (.nil)) Tryz.func84 Tryz.call84 (λargs rows=>Qfo (argI args 0) (argI args 1)) [] Z55 3 (hp:=λargs rows h=>Z9c (argI args 0) (argI args 1) h)
def Qfg(r:Q01):Tree Q01:=
.an (Qg7 r.A0) (.lv (Qmh r.A0) λ(x0:Q00)=> .cn (decide (40*(0+r.B4.length)<=140737488355328)) (.cn (decide (32*(0+r.A3.length)<=140737488355328)) (.lf ({A0:=x0,A4:=r.A4,B4:=r.B4,A3:=r.A3}))))
def Qpq(r:Q01):Q01:=(Qfg r).m
abbrev Qn0(r:Q01):Prop:=(Qfg r).p
def Zk3:Q0d:=mkP 212 [] true [.agg Q01.sig] [] (λargs rows=>Qn0 (Q01.of (aC args 0))) (λargs rows=>Qpq (Q01.of (aC args 0))) (λX=> .agg (Q01.cellsW X (.all 0) (.all 1) (.all 2))) (λX=>[⟨false,25,1, .ints .u32 X.A0.Mem⟩,⟨false,126,4, .recs .apiEntry X.B4⟩,⟨false,66,3, .recs .apiEvent X.A3⟩])
theorem Qyy:Q05 Tryz.prog Zk3:=Q0l drawn Q0j (.cons Qs6 (.nil)) Tryz.func212 Tryz.call212 (λargs rows=>Qfg (Q01.of (aC args 0))) [.row 25 1 (.ints .u32), .row 126 4 (.recs .apiEntry), .row 66 3 (.recs .apiEvent)] [] 2
def Qmu(e:Q0a):Tree Bool:=
.br (e.B6==1) (.lf (decide (e.C6=[]))) (.br (e.B6==6) (.lf (decide (e.C6=[]))) (.br (e.B6==2) (.br (e.N==0) (.lf (decide (e.C6=[]))) (.lf false)) (.br (e.B6==3) (.br (decide (e.N<=255)) (.lf (decide (e.C6=[]))) (.lf false)) (.br (e.B6==4) (.br (decide (e.N<=1)) (.br (decide (e.C6=[])) (.lf true) (.br (e.N==1) (.lf ((e.C6.length:Int)==(128:Int))) (.lf false))) (.lf false)) (.br (e.B6==5) (.br (e.N==0) (.br (decide ((e.C6.length:Int)>=(1:Int))) (.lf (decide ((e.C6.length:Int)<=(128:Int)))) (.lf false)) (.lf false)) (.lf false))))))
def Q1w(e:Q0a):Bool:=(Qmu e).m
def Zc5:Q0d:=mkR 154 [] true [.agg Q0a.sig] [] (λargs rows=>Q1w (Q0a.of (aC args 0))) (λX=> .bool X) (λX=>[])
theorem Z5s:Q05 Tryz.prog Zc5:=Q0z drawn Q0j (.nil) Tryz.func154 Tryz.call154 (λargs rows=>Qmu (Q0a.of (aC args 0))) [] [] 2
def Q9d(r:Q01)(e:Q0a):Tree (Q01×Bool):=
.an (Qn0 r) (.lv (Qpq r) λ(x0:Q01)=> .lv (Q1w e) λ(x1:Bool)=> .br (!x1) (.lf (x0,false)) (.br (e.B6==1) (.lf (x0,false)) (.br (decide ((x0.A3.length:Int)>=(16:Int))) (.lf (x0,false)) (.cn (decide (32*(x0.A3.length+1)<=140737488355328)) (.lf ({A0:=x0.A0,A4:=x0.A4,B4:=x0.B4,A3:=x0.A3++[e]},true))))))
def Q2t(r:Q01)(e:Q0a):(Q01×Bool):=(Q9d r e).m
abbrev Qnq(r:Q01)(e:Q0a):Prop:=(Q9d r e).p
def Z66:Q0d:=mkP 146 [] true [.agg Q01.sig, .agg Q0a.sig] [] (λargs rows=>Qnq (Q01.of (aC args 0)) (Q0a.of (aC args 1))) (λargs rows=>Q2t (Q01.of (aC args 0)) (Q0a.of (aC args 1))) (λX=> .tup [.agg (Q01.cellsW (X.1) (.all 0) (.all 1) (.all 2)), .bool (X.2)]) (λX=>[⟨false,25,1, .ints .u32 (X.1).A0.Mem⟩,⟨false,126,4, .recs .apiEntry (X.1).B4⟩,⟨false,66,3, .recs .apiEvent (X.1).A3⟩])
theorem Z24:Q05 Tryz.prog Z66:=Q0l drawn Q0j (.cons Qyy (.cons Z5s (.nil))) Tryz.func146 Tryz.call146 (λargs rows=>Q9d (Q01.of (aC args 0)) (Q0a.of (aC args 1))) [.row 25 1 (.ints .u32), .row 126 4 (.recs .apiEntry), .row 66 3 (.recs .apiEvent)] [] 2
def Q9v(n:Int):Tree Q0a:=
.lv (Q3f n 2) λ(x0:Int)=> .br (Int.tmod x0 (7:Int)==(0:Int)) (.lf ({B6:=2,N:=0,C6:=[]})) (.br (Int.tmod x0 (7:Int)==(1:Int)) (.lf ({B6:=3,N:=wrap u32 (iand i64 (ishr i64 x0 8) 255),C6:=[]})) (.br (Int.tmod x0 (7:Int)==(2:Int)) (.lf ({B6:=3,N:=wrap u32 (iand i64 (ishr i64 x0 8) 255),C6:=[]})) (.br (Int.tmod x0 (7:Int)==(3:Int)) (.lf ({B6:=4,N:=1,C6:=[]})) (.br (Int.tmod x0 (7:Int)==(4:Int)) (.an (Qb5 x0 128) (.lv (Quc x0 128) λ(x1:List UInt8)=> .lf ({B6:=4,N:=1,C6:=x1}))) (.br (Int.tmod x0 (7:Int)==(5:Int)) (let E1:=wrap i64 (1+Int.tmod (ishr i64 x0 8) 40); .an (Qb5 x0 E1) (.lv (Quc x0 E1) λ(x2:List UInt8)=> .lf ({B6:=5,N:=0,C6:=x2}))) (.br (Int.tmod (ishr i64 x0 8) (4:Int)==(0:Int)) (.lf ({B6:=4,N:=0,C6:=[]})) (.lf ({B6:=6,N:=wrap u32 (Int.tmod (ishr i64 x0 8) 3),C6:=[]}))))))))
def Q3w(n:Int):Q0a:=(Q9v n).m
abbrev Ql2(n:Int):Prop:=(Q9v n).p
def Zfr:Q0d:=mkP 76 [] true [.one (.int .i64)] [] (λargs rows=>Ql2 (argI args 0)) (λargs rows=>Q3w (argI args 0)) (λX=> .agg (Q0a.cells X)) (λX=>[])
theorem Qte:Q05 Tryz.prog Zfr:=Q0l drawn Q0j (.cons Qmj (.cons Zer (.nil))) Tryz.func76 Tryz.call76 (λargs rows=>Q9v (argI args 0)) [] [] 2
def Qo9(m:(List Int)):Tree Int:=
.br (Int.tmod (m.length:Int) (32:Int) !=(0:Int)) (.lf 0) (.br (decide ((m.length:Int)>(1024:Int))) (.lf 0) (.lf (wrap i64 (Int.tdiv (m.length:Int) 32))))
def Q3z(m:(List Int)):Int:=(Qo9 m).m
def Zdu:Q0d:=mkR 93 [] true [.one (.ints .u32)] [] (λargs rows=>Q3z (argL .u32 args 0)) (λX=> .int .i64 X) (λX=>[])
theorem Qe8:Q05 Tryz.prog Zdu:=Q0z drawn Q0j (.nil) Tryz.func93 Tryz.call93 (λargs rows=>Qo9 (argL .u32 args 0)) [] [] 2
def Qlg(c:Q0c):Tree Bool:=
.lf (decide ((c.D3.length:Int)<=(16:Int)))
def Qj5(c:Q0c):Bool:=(Qlg c).m
def Qx5:Q0d:=mkR 94 [] true [.agg Q0c.sig] [] (λargs rows=>Qj5 (Q0c.of (aC args 0))) (λX=> .bool X) (λX=>[])
theorem Qtb:Q05 Tryz.prog Qx5:=Q0z drawn Q0j (.nil) Tryz.func94 Tryz.call94 (λargs rows=>Qlg (Q0c.of (aC args 0))) [] [] 2
def Qje(t:Q0h):Tree Bool:=
.br t.D1 (.br t.D5 (.lf false) (.br t.D1 (.lf (t.C7 !=0)) (.br t.D5 (.lf true) (.lf (t.C7==0))))) (.br t.D1 (.lf (t.C7 !=0)) (.br t.D5 (.lf true) (.lf (t.C7==0))))
def Qeo(t:Q0h):Bool:=(Qje t).m
def Z23:Q0d:=mkR 95 [] true [.agg Q0h.sig] [] (λargs rows=>Qeo (Q0h.of (aC args 0))) (λX=> .bool X) (λX=>[])
theorem Z0:Q05 Tryz.prog Z23:=Q0z drawn Q0j (.nil) Tryz.func95 Tryz.call95 (λargs rows=>Qje (Q0h.of (aC args 0))) [] [] 2
def Qkz(d0:Q0e)(pages:Int):Tree Bool:=
.br (decide (d0.Blocks>64)) (.lf false) (.br (decide (d0.C0<0)) (.lf false) (.br (decide (d0.C0>3)) (.lf false) (.br (d0.C0 !=1) (.br (d0.D8==0) (.br (d0.B7==0) (.br (d0.B3==0) (.lf (decide (d0.C3=[]))) (.lf false)) (.lf false)) (.lf false)) (.br (decide (d0.B7>=d0.Blocks)) (.lf false) (.br (decide (wrap i64 d0.B3>=pages)) (.lf false) (.br (d0.D8==1) (.br (decide (d0.C3=[])) (.lf true) (.br (d0.D8==2) (.lf ((d0.C3.length:Int)==(128:Int))) (.lf false))) (.br (d0.D8==2) (.lf ((d0.C3.length:Int)==(128:Int))) (.lf false))))))))
def Qg2(d0:Q0e)(pages:Int):Bool:=(Qkz d0 pages).m
def Z5m:Q0d:=mkR 96 [] true [.agg Q0e.sig, .one (.int .i64)] [] (λargs rows=>Qg2 (Q0e.of (aC args 0)) (argI args 1)) (λX=> .bool X) (λX=>[])
theorem Z2a:Q05 Tryz.prog Z5m:=Q0z drawn Q0j (.nil) Tryz.func96 Tryz.call96 (λargs rows=>Qkz (Q0e.of (aC args 0)) (argI args 1)) [] [] 2
def Qmp(n:Q0o)(pages:Int):Tree Bool:=
let T1:Tree (Bool):= .br n.B8 (.br (decide (n.F1>=1)) (.lf (decide (n.F1<=128))) (.lf false)) (.lf (n.F1==0)); .br n.C5 (.br n.B8 (.lf false) (.br (decide (wrap i64 n.B9>=pages)) (.lf false) (.br (!n.C5) (.br (n.B9 !=0) (.lf false) T1) T1))) (.br (!n.C5) (.br (n.B9 !=0) (.lf false) T1) T1)
def Qic(n:Q0o)(pages:Int):Bool:=(Qmp n pages).m
def Zao:Q0d:=mkR 97 [] true [.agg Q0o.sig, .one (.int .i64)] [] (λargs rows=>Qic (Q0o.of (aC args 0)) (argI args 1)) (λX=> .bool X) (λX=>[])
theorem Z6h:Q05 Tryz.prog Zao:=Q0z drawn Q0j (.nil) Tryz.func97 Tryz.call97 (λargs rows=>Qmp (Q0o.of (aC args 0)) (argI args 1)) [] [] 2
def Qhi(b:Q07)(pages:Int)(z:(Int)):Prop:=0<=z/\z<=32
def Q6r(b:Q07)(pages:Int)(z:(Int)):Nat:=(32-z).toNat
def Q5t(b:Q07)(pages:Int):Tree Bool:=
.lp inferInstance (Q6r b pages 0+1) ((rE (pages:Int)/\rZ/\rE (0:Int)/\True)/\(rE b.C8/\rE b.C2/\True)/\True) 0 λ(v0:Int)=> .br (decide (v0<32)) (.cn (decide (0<=wrap u64 v0)) (let T1:Tree ((Int)⊕(Bool)):= .nx ((rE (pages:Int)/\rZ/\rE ((wrap i64 (v0+1)):Int)/\True)/\(rE b.C8/\rE b.C2/\True)/\True) (Sum.inl (wrap i64 (v0+1))); .br (iand u32 (ishr u32 b.C2 (wrap u64 v0)) (1:Int)==(1:Int)) (.br (decide (v0>=pages)) (.lf (Sum.inr false)) T1) T1)) (.lf (Sum.inr true))
def Qa6(b:Q07)(pages:Int):Bool:=(Q5t b pages).m
theorem Qs3(b:Q07)(pages:Int):(Q5t b pages).p:=by
 unfold Tree.p Q5t
 repeat'(first|refine w_lp (inv:=Qhi b pages) (μ:=Q6r b pages) ?_ (Nat.lt_succ_self _) (λ_ _=> ?_)|exact trivial|refine w_br (λ_=> ?_) (λ_=> ?_)|refine w_cn ?_ ?_|refine w_an ?_ ?_|refine w_lv (λ_ _=> ?_)|refine w_nx ?_|refine w_lf ?_|refine And.intro ?_ ?_)
 all_goals((try simp only[Qhi,Q6r]at*);exact fin0)
def Qt4:LInv:={
 α:=(Int)
 F:=λst a=>([(1,(lk st 1)),(2, .ptr 0 0 0),(5, .int i64 a)],[⟨true,40,2, .gen [[(cT st 2 0),(cT st 2 1)]]⟩])
 a0:=λst=>(lk st 5).toInt
 ex0:=λst=>[]++[(Q0r (lk st 2) (st.rows.length+0))]
 next:=λst=>(lk st 5).toInt
 ex:=λst=>[]++[(Q0r (lk st 2) (st.rows.length+0))]}
def Qqu:List (Nat×LInv):=[(2,Qt4)]
def Qw0:Q0d:=mkR 98 [] true [.agg Q07.sig, .one (.int .i64)] [] (λargs rows=>Qa6 (Q07.of (aC args 0)) (argI args 1)) (λX=> .bool X) (λX=>[])
theorem Qug:Q05 Tryz.prog Qw0:=Q0z drawn Q0j (.nil) Tryz.func98 Tryz.call98 (λargs rows=>Q5t (Q07.of (aC args 0)) (argI args 1)) [] Qqu 3 (λ_ _ _=>by kernel_rfl) (λ_ _=>rfl) (λargs rows=>Qs3 (Q07.of (aC args 0)) (argI args 1)) (λ_ X=>by kernel_rfl)
def Qvn(m:Q00):Tree Bool:=
.lv (Q3z m.Mem) λ(x0:Int)=> .br (decide (x0<1)) (.lf false) (.br (m.B2.X.a0 !=0) (.lf false) (.br (decide (m.B2.B5.a0>31)) (.lf false) (.br (decide (m.B2.B5.a7>31)) (.lf false) (.br (decide (m.B2.B5.a6>255)) (.lf false) (.br (Int.tmod m.B2.B5.a1 (4:Int) !=(0:Int)) (.lf false) (.lv (Qj5 m.A6) λ(x1:Bool)=> .br (!x1) (.lf false) (.lv (Qeo m.B0) λ(x2:Bool)=> .br (!x2) (.lf false) (.lv (Qg2 m.B1 x0) λ(x3:Bool)=> .br (!x3) (.lf false) (.lv (Qic m.C4 x0) λ(x4:Bool)=> .br (!x4) (.lf false) (.lv (Qa6 m.A2 x0) λ(x5:Bool)=> .br (!x5) (.lf false) (.br (decide (m.A1<=1152921504606846976)) (.br m.A7 (.lf (!m.A9)) (.lf true)) (.lf false))))))))))))
def Q8h(m:Q00):Bool:=(Qvn m).m
def Zo9:Q0d:=mkR 25 [] true [.agg Q00.sig] [] (λargs rows=>Q8h (Q00.of (aC args 0))) (λX=> .bool X) (λX=>[])
theorem Qs:Q05 Tryz.prog Zo9:=Q0z drawn Q0j (.cons Qe8 (.cons Qtb (.cons Z0 (.cons Z2a (.cons Z6h (.cons Qug (.nil))))))) Tryz.func25 Tryz.call25 (λargs rows=>Qvn (Q00.of (aC args 0))) [] [] 2
def Q9x(t:Q0h):Tree (Q0h×Bool):=
.br (!t.D1) (.lf (t,false)) (.lf ({D1:=false,C7:=t.C7,D5:=true},true))
def Q6s(t:Q0h):(Q0h×Bool):=(Q9x t).m
def Zjt:Q0d:=mkR 221 [] true [.agg Q0h.sig] [] (λargs rows=>Q6s (Q0h.of (aC args 0))) (λX=> .tup [.agg (Q0h.cells (X.1)), .bool (X.2)]) (λX=>[])
theorem Qya:Q05 Tryz.prog Zjt:=Q0z drawn Q0j (.nil) Tryz.func221 Tryz.call221 (λargs rows=>Q9x (Q0h.of (aC args 0))) [] [] 2
def Qct(c:Q0c)(b:Int):Tree (Q0c×Bool):=
.br (decide ((c.D3.length:Int)>=(16:Int))) (.lf (c,false)) (.cn (decide (c.D3.length+1<=maxLen)) (.lf ({D3:=c.D3++[(λ(n:Int)=>UInt8.ofNat n.toNat) b]},true)))
def Qm1(c:Q0c)(b:Int):(Q0c×Bool):=(Qct c b).m
abbrev Qn6(c:Q0c)(b:Int):Prop:=(Qct c b).p
def Ziu:Q0d:=mkP 222 [] true [.agg Q0c.sig, .one (.int .u8)] [] (λargs rows=>Qn6 (Q0c.of (aC args 0)) (argI args 1)) (λargs rows=>Qm1 (Q0c.of (aC args 0)) (argI args 1)) (λX=> .tup [.agg (Q0c.cells (X.1)), .bool (X.2)]) (λX=>[])
theorem Qy2:Q05 Tryz.prog Ziu:=Q0l drawn Q0j (.nil) Tryz.func222 Tryz.call222 (λargs rows=>Qct (Q0c.of (aC args 0)) (argI args 1)) [] [] 2
def Qia(m:(List Int))(frame:Int):Tree Bool:=
.lv (Q3z m) λ(x0:Int)=> .lf (decide (wrap u64 frame<wrap u64 x0))
def Q27(m:(List Int))(frame:Int):Bool:=(Qia m frame).m
def Zka:Q0d:=mkR 269 [] true [.one (.ints .u32), .one (.int .u32)] [] (λargs rows=>Q27 (argL .u32 args 0) (argI args 1)) (λX=> .bool X) (λX=>[])
theorem Qgf:Q05 Tryz.prog Zka:=Q0z drawn Q0j (.cons Qe8 (.nil)) Tryz.func269 Tryz.call269 (λargs rows=>Qia (argL .u32 args 0) (argI args 1)) [] [] 2
def Qfm(m:(List Int))(addr:Int)(size:Int)(v:Int):Tree (List Int):=
let E1:=Nat.beq 1 1&&Nat.blt 0 1&&decide (0<=wrap u32 (Int.tdiv addr 4)/\wrap u32 (Int.tdiv addr 4)<(m.length:Int));let E2:=Int.toNat (wrap u32 (Int.tdiv addr 4)); .br (size==4) (.cn E1 (.lf (List.set m E2 v))) (.cn E1 (let E3:=decide (0<=wrap u32 (8*Int.tmod addr 4)); .cn E3 (.cn E3 (.cn E1 (.lf (List.set m E2 (ior u32 (Qhp u32 (m.getD E2 0) (ishl u32 255 (wrap u32 (8*Int.tmod addr 4)))) (ishl u32 (iand u32 v 255) (wrap u32 (8*Int.tmod addr 4))))))))))
def Qaz(m:(List Int))(addr:Int)(size:Int)(v:Int):(List Int):=(Qfm m addr size v).m
abbrev Qgw(m:(List Int))(addr:Int)(size:Int)(v:Int):Prop:=(Qfm m addr size v).p
def Zmu:Q0d:=mkP 300 [true,false,false,false] true [.one (.row 0), .one (.int .u32), .one (.int .i64), .one (.int .u32)] [.arr 25 1 (.ints .u32)] (λargs rows=>Qgw (rowL .u32 rows 0) (argI args 1) (argI args 2) (argI args 3)) (λargs rows=>Qaz (rowL .u32 rows 0) (argI args 1) (argI args 2) (argI args 3)) (λX=> .tup []) (λX=>[⟨false,25,1, .ints .u32 X⟩])
theorem Z2r:Q05 Tryz.prog Zmu:=Q0l drawn Q0j (.nil) Tryz.func300 Tryz.call300 (λargs rows=>Qfm (rowL .u32 rows 0) (argI args 1) (argI args 2) (argI args 3)) [] [] 2
def Qjm(m:(List Int))(frame:Int)(s:(List UInt8))(z:(Int)×(List Int)):Nat:=(128-z.1).toNat
def Q9q(m:(List Int))(frame:Int)(s:(List UInt8)):Tree (List Int):=
.lp inferInstance (Qjm m frame s (0,m)+1) ((True/\rE (frame:Int)/\rE (s:List UInt8)/\rE (0:Int)/\True)/\rE (m:List Int)/\True) (0,m) λ(v0:Int×List Int)=> .br (decide (v0.1<(s.length:Int))) (.br (decide (v0.1<128)) (.cn (decide (0<=v0.1/\v0.1<(s.length:Int))) (let E1:=wrap u32 (↑(UInt8.toNat (s.getD v0.1.toNat (0:UInt8))):Int);let E2:=wrap u32 (wrap i64 (wrap i64 (frame*128)+v0.1)); .an (Qgw v0.2 E2 1 E1) (.lv (Qaz v0.2 E2 1 E1) λ(x0:List Int)=> .nx ((True/\rE (frame:Int)/\rE (s:List UInt8)/\rE ((wrap i64 (v0.1+1)):Int)/\True)/\rE (x0:List Int)/\True) (Sum.inl (wrap i64 (v0.1+1),x0))))) (.lf (Sum.inr v0.2))) (.lf (Sum.inr v0.2))
def Qlr(m:(List Int))(frame:Int)(s:(List UInt8)):(List Int):=(Q9q m frame s).m
abbrev Qn(m:(List Int))(frame:Int)(s:(List UInt8)):Prop:=(Q9q m frame s).p
def Zdr:LInv:={
 α:=(Int)×(List Int)
 F:=λst a=>([(0, .all 0),(1,(lk st 1)),(2,(lk st 2)),(6, .int i64 a.1)],[⟨false,25,1, .ints u32 a.2⟩])
 a0:=λst=>((lk st 6).toInt,(Q5q st.rows 0))
 ex0:=λst=>[0]++[]
 next:=λst=>((lk st 6).toInt,(Q5q st.rows 0))
 ex:=λst=>[0]++[]}
def Z61:List (Nat×LInv):=[(1,Zdr)]
def Zhv:Q0d:=mkP 270 [true,false,false] true [.one (.row 0), .one (.int .i64), .one (.str)] [.arr 25 1 (.ints .u32)] (λargs rows=>Qn (rowL .u32 rows 0) (argI args 1) (argS args 2)) (λargs rows=>Qlr (rowL .u32 rows 0) (argI args 1) (argS args 2)) (λX=> .tup []) (λX=>[⟨false,25,1, .ints .u32 X⟩])
theorem Qy3:Q05 Tryz.prog Zhv:=Q0l drawn Q0j (.cons Z2r (.nil)) Tryz.func270 Tryz.call270 (λargs rows=>Q9q (rowL .u32 rows 0) (argI args 1) (argS args 2)) [] Z61 3
def Q6w(d0:Q0e)(m:(List Int))(e:Q0a):Tree (Q0e×Bool×(List Int)):=
.br (d0.C0 !=1) (.lf (d0,false,m)) (.br (e.B6 !=4) (.lf (d0,false,m)) (.br (decide (e.N>1)) (.lf (d0,false,m)) (let E4:=({Blocks:=d0.Blocks,C1:=d0.C1,Frame:=d0.Frame,C0:=2,D8:=0,B7:=0,B3:=0,C3:=[]}:Q0e);let E5:=({Blocks:=d0.Blocks,C1:=d0.C1,Frame:=d0.Frame,C0:=3,D8:=0,B7:=0,B3:=0,C3:=[]}:Q0e);let T2:Tree ((Q0e×Bool×(List Int))):= .br (e.N==1) (.lf (E4,true,m)) (.lf (E5,true,m));let E6:=decide ((e.C6.length:Int)>(0:Int)); .br (e.N==1) (let T1:Tree ((Q0e×Bool×(List Int))):= .br (d0.D8==1) (.an (Qn m (wrap i64 d0.B3) e.C6) (.lv (Qlr m (wrap i64 d0.B3) e.C6) λ(x1:List Int)=> .br (e.N==1) (.lf (E4,true,x1)) (.lf (E5,true,x1)))) T2;let T3:Tree ((Q0e×Bool×(List Int))):= .br (!d0.D8==1) (.br E6 (.lf (d0,false,m)) T1) T1; .br (d0.D8==1) (.br ((e.C6.length:Int) !=(128:Int)) (.lf (d0,false,m)) (.lv (Q27 m d0.B3) λ(x0:Bool)=> .br (!x0) (.lf (d0,false,m)) T3)) T3) (.br E6 (.lf (d0,false,m)) T2))))
def Q8o(d0:Q0e)(m:(List Int))(e:Q0a):(Q0e×Bool×(List Int)):=(Q6w d0 m e).m
abbrev Qin(d0:Q0e)(m:(List Int))(e:Q0a):Prop:=(Q6w d0 m e).p
def Za2:Q0d:=mkP 223 [false,true,false] true [.agg Q0e.sig, .one (.row 0), .agg Q0a.sig] [.arr 25 1 (.ints .u32)] (λargs rows=>Qin (Q0e.of (aC args 0)) (rowL .u32 rows 0) (Q0a.of (aC args 2))) (λargs rows=>Q8o (Q0e.of (aC args 0)) (rowL .u32 rows 0) (Q0a.of (aC args 2))) (λX=> .tup [.agg (Q0e.cells (X.1)), .bool (X.2.1)]) (λX=>[⟨false,25,1, .ints .u32 (X.2.2)⟩])
theorem Qr7:Q05 Tryz.prog Za2:=Q0l drawn Q0j (.cons Qgf (.cons Qy3 (.nil))) Tryz.func223 Tryz.call223 (λargs rows=>Q6w (Q0e.of (aC args 0)) (rowL .u32 rows 0) (Q0a.of (aC args 2))) [] [] 2
def Q73(n:Q0o)(m:(List Int))(frame:(List UInt8)):Tree (Q0o×Bool×(List Int)):=
.br (!n.C5) (.lf (n,false,m)) (.br (decide ((frame.length:Int)<(1:Int))) (.lf (n,false,m)) (.br (decide ((frame.length:Int)>(128:Int))) (.lf (n,false,m)) (.lv (Q27 m n.B9) λ(x0:Bool)=> .br (!x0) (.lf (n,false,m)) (.an (Qn m (wrap i64 n.B9) frame) (.lv (Qlr m (wrap i64 n.B9) frame) λ(x1:List Int)=> .lf ({Frame:=n.Frame,E0:=n.E0,C5:=false,B9:=0,B8:=true,F1:=wrap u32 (frame.length:Int)},true,x1))))))
def Q8c(n:Q0o)(m:(List Int))(frame:(List UInt8)):(Q0o×Bool×(List Int)):=(Q73 n m frame).m
abbrev Qjg(n:Q0o)(m:(List Int))(frame:(List UInt8)):Prop:=(Q73 n m frame).p
def Za:Q0d:=mkP 224 [false,true,false] true [.agg Q0o.sig, .one (.row 0), .one (.str)] [.arr 25 1 (.ints .u32)] (λargs rows=>Qjg (Q0o.of (aC args 0)) (rowL .u32 rows 0) (argS args 2)) (λargs rows=>Q8c (Q0o.of (aC args 0)) (rowL .u32 rows 0) (argS args 2)) (λX=> .tup [.agg (Q0o.cells (X.1)), .bool (X.2.1)]) (λX=>[⟨false,25,1, .ints .u32 (X.2.2)⟩])
theorem Qr2:Q05 Tryz.prog Za:=Q0l drawn Q0j (.cons Qgf (.cons Qy3 (.nil))) Tryz.func224 Tryz.call224 (λargs rows=>Q73 (Q0o.of (aC args 0)) (rowL .u32 rows 0) (argS args 2)) [] [] 2
def Q4n(m:Q00)(e:Q0a):Tree (Bool×Q00):=
.br m.A9 (.lf (false,m)) (let T1:Tree ((Bool×Q00)):= .br (e.B6==4) (.an (Qin m.B1 m.Mem e) (.lv (Q8o m.B1 m.Mem e) λ(x2:Q0e×Bool×List Int)=> .lf (x2.2.1,{B2:=m.B2,Mem:=x2.2.2,A6:=m.A6,B0:=m.B0,B1:=x2.1,C4:=m.C4,A2:=m.A2,A1:=m.A1,A7:=m.A7,A9:=m.A9}))) (let T3:Tree ((Bool×Q00)):= .br (e.B6==6) (.br (decide (e.C6=[])) (.lf (true,{B2:=m.B2,Mem:=m.Mem,A6:=m.A6,B0:=m.B0,B1:=m.B1,C4:=m.C4,A2:={C8:=e.N,C2:=m.A2.C2},A1:=m.A1,A7:=m.A7,A9:=m.A9})) (.lf (false,m))) (.lf (false,m)); .br (e.B6==5) (.br (e.N==0) (.an (Qjg m.C4 m.Mem e.C6) (.lv (Q8c m.C4 m.Mem e.C6) λ(x3:Q0o×Bool×List Int)=> .lf (x3.2.1,{B2:=m.B2,Mem:=x3.2.2,A6:=m.A6,B0:=m.B0,B1:=m.B1,C4:=x3.1,A2:=m.A2,A1:=m.A1,A7:=m.A7,A9:=m.A9}))) T3) T3);let T2:Tree ((Bool×Q00)):= .br (e.B6==3) (.br (decide (e.N<=255)) (.br (decide (e.C6=[])) (.an (Qn6 m.A6 (wrap u8 e.N)) (.lv (Qm1 m.A6 (wrap u8 e.N)) λ(x1:Q0c×Bool)=> .lf (x1.2,{B2:=m.B2,Mem:=m.Mem,A6:=x1.1,B0:=m.B0,B1:=m.B1,C4:=m.C4,A2:=m.A2,A1:=m.A1,A7:=m.A7,A9:=m.A9}))) T1) T1) T1; .br (e.B6==2) (.br (e.N==0) (.br (decide (e.C6=[])) (.lv (Q6s m.B0) λ(x0:Q0h×Bool)=> .lf (x0.2,{B2:=m.B2,Mem:=m.Mem,A6:=m.A6,B0:=x0.1,B1:=m.B1,C4:=m.C4,A2:=m.A2,A1:=m.A1,A7:=m.A7,A9:=m.A9})) T2) T2) T2)
def Q0p(m:Q00)(e:Q0a):(Bool×Q00):=(Q4n m e).m
abbrev Qrh(m:Q00)(e:Q0a):Prop:=(Q4n m e).p
def Zgg:Q0d:=mkP 161 [true,false] true [.ptr 0, .agg Q0a.sig] [.box 43 49 (Q00.sigW (.row 1)), .arr 25 1 (.ints .u32)] (λargs rows=>Qrh (Q00.ofW (rows.getD 0 default).cs (rowL .u32 rows 1)) (Q0a.of (aC args 1))) (λargs rows=>Q0p (Q00.ofW (rows.getD 0 default).cs (rowL .u32 rows 1)) (Q0a.of (aC args 1))) (λX=> .bool (X.1)) (λX=>[⟨true,43,49, .gen [(Q00.cellsW (X.2) (.all 1))]⟩,⟨false,25,1, .ints .u32 (X.2).Mem⟩])
theorem Zbn:Q05 Tryz.prog Zgg:=Q0l drawn Q0j (.cons Qya (.cons Qy2 (.cons Qr7 (.cons Qr2 (.nil))))) Tryz.func161 Tryz.call161 (λargs rows=>Q4n (Q00.ofW (rows.getD 0 default).cs (rowL .u32 rows 1)) (Q0a.of (aC args 1))) [.row 25 1 (.ints .u32)] [] 2
def Q95(m:Q01)(e:Q0a):Tree (Bool×Q01):=
.br m.A0.A9 (.lf (false,m)) (let T1:Tree ((Bool×Q01)):= .br (e.B6==4) (.an (Qin m.A0.B1 m.A0.Mem e) (.lv (Q8o m.A0.B1 m.A0.Mem e) λ(x2:Q0e×Bool×List Int)=> .lf (x2.2.1,{A0:={B2:=m.A0.B2,Mem:=x2.2.2,A6:=m.A0.A6,B0:=m.A0.B0,B1:=x2.1,C4:=m.A0.C4,A2:=m.A0.A2,A1:=m.A0.A1,A7:=m.A0.A7,A9:=m.A0.A9},A4:=m.A4,B4:=m.B4,A3:=m.A3}))) (let T3:Tree ((Bool×Q01)):= .br (e.B6==6) (.br (decide (e.C6=[])) (.lf (true,{A0:={B2:=m.A0.B2,Mem:=m.A0.Mem,A6:=m.A0.A6,B0:=m.A0.B0,B1:=m.A0.B1,C4:=m.A0.C4,A2:={C8:=e.N,C2:=m.A0.A2.C2},A1:=m.A0.A1,A7:=m.A0.A7,A9:=m.A0.A9},A4:=m.A4,B4:=m.B4,A3:=m.A3})) (.lf (false,m))) (.lf (false,m)); .br (e.B6==5) (.br (e.N==0) (.an (Qjg m.A0.C4 m.A0.Mem e.C6) (.lv (Q8c m.A0.C4 m.A0.Mem e.C6) λ(x3:Q0o×Bool×List Int)=> .lf (x3.2.1,{A0:={B2:=m.A0.B2,Mem:=x3.2.2,A6:=m.A0.A6,B0:=m.A0.B0,B1:=m.A0.B1,C4:=x3.1,A2:=m.A0.A2,A1:=m.A0.A1,A7:=m.A0.A7,A9:=m.A0.A9},A4:=m.A4,B4:=m.B4,A3:=m.A3}))) T3) T3);let T2:Tree ((Bool×Q01)):= .br (e.B6==3) (.br (decide (e.N<=255)) (.br (decide (e.C6=[])) (.an (Qn6 m.A0.A6 (wrap u8 e.N)) (.lv (Qm1 m.A0.A6 (wrap u8 e.N)) λ(x1:Q0c×Bool)=> .lf (x1.2,{A0:={B2:=m.A0.B2,Mem:=m.A0.Mem,A6:=x1.1,B0:=m.A0.B0,B1:=m.A0.B1,C4:=m.A0.C4,A2:=m.A0.A2,A1:=m.A0.A1,A7:=m.A0.A7,A9:=m.A0.A9},A4:=m.A4,B4:=m.B4,A3:=m.A3}))) T1) T1) T1; .br (e.B6==2) (.br (e.N==0) (.br (decide (e.C6=[])) (.lv (Q6s m.A0.B0) λ(x0:Q0h×Bool)=> .lf (x0.2,{A0:={B2:=m.A0.B2,Mem:=m.A0.Mem,A6:=m.A0.A6,B0:=x0.1,B1:=m.A0.B1,C4:=m.A0.C4,A2:=m.A0.A2,A1:=m.A0.A1,A7:=m.A0.A7,A9:=m.A0.A9},A4:=m.A4,B4:=m.B4,A3:=m.A3})) T2) T2) T2)
def Qkt(m:Q01)(e:Q0a):(Bool×Q01):=(Q95 m e).m
abbrev Qnh(m:Q01)(e:Q0a):Prop:=(Q95 m e).p
def Z6s:Q0d:=mkP 161 [true,false] true [.ptr 0, .agg Q0a.sig] [.box 96 52 (Q01.sigW (.row 1) (.row 2) (.row 3)), .arr 25 1 (.ints .u32), .arr 126 4 (.recs .apiEntry), .arr 66 3 (.recs .apiEvent)] (λargs rows=>Qnh (Q01.ofW (rows.getD 0 default).cs (rowL .u32 rows 1) (rowR .apiEntry rows 2) (rowR .apiEvent rows 3)) (Q0a.of (aC args 1))) (λargs rows=>Qkt (Q01.ofW (rows.getD 0 default).cs (rowL .u32 rows 1) (rowR .apiEntry rows 2) (rowR .apiEvent rows 3)) (Q0a.of (aC args 1))) (λX=> .bool (X.1)) (λX=>[⟨true,96,52, .gen [(Q01.cellsW (X.2) (.all 1) (.all 2) (.all 3))]⟩,⟨false,25,1, .ints .u32 (X.2).A0.Mem⟩,⟨false,126,4, .recs .apiEntry (X.2).B4⟩,⟨false,66,3, .recs .apiEvent (X.2).A3⟩])
theorem Z1a:Q05 Tryz.prog Z6s:=Q0l drawn Q0j (.cons Qya (.cons Qy2 (.cons Qr7 (.cons Qr2 (.nil))))) Tryz.func161 Tryz.call161 (λargs rows=>Q95 (Q01.ofW (rows.getD 0 default).cs (rowL .u32 rows 1) (rowR .apiEntry rows 2) (rowR .apiEvent rows 3)) (Q0a.of (aC args 1))) [.row 25 1 (.ints .u32), .row 126 4 (.recs .apiEntry), .row 66 3 (.recs .apiEvent)] [] 2
def Q82(m:Q01)(e:Q0a):Tree (Bool×Q01):=
.an (Qnh m e) (.lv (Qkt m e) λ(x0:Bool×Q01)=> .lf (x0.1,x0.2))
def Qi(m:Q01)(e:Q0a):(Bool×Q01):=(Q82 m e).m
abbrev Qlc(m:Q01)(e:Q0a):Prop:=(Q82 m e).p
def Z3j:Q0d:=mkP 159 [true,false] true [.ptr 0, .agg Q0a.sig] [.box 96 52 (Q01.sigW (.row 1) (.row 2) (.row 3)), .arr 25 1 (.ints .u32), .arr 126 4 (.recs .apiEntry), .arr 66 3 (.recs .apiEvent)] (λargs rows=>Qlc (Q01.ofW (rows.getD 0 default).cs (rowL .u32 rows 1) (rowR .apiEntry rows 2) (rowR .apiEvent rows 3)) (Q0a.of (aC args 1))) (λargs rows=>Qi (Q01.ofW (rows.getD 0 default).cs (rowL .u32 rows 1) (rowR .apiEntry rows 2) (rowR .apiEvent rows 3)) (Q0a.of (aC args 1))) (λX=> .bool (X.1)) (λX=>[⟨true,96,52, .gen [(Q01.cellsW (X.2) (.all 1) (.all 2) (.all 3))]⟩,⟨false,25,1, .ints .u32 (X.2).A0.Mem⟩,⟨false,126,4, .recs .apiEntry (X.2).B4⟩,⟨false,66,3, .recs .apiEvent (X.2).A3⟩])
theorem Qz7:Q05 Tryz.prog Z3j:=Q0l drawn Q0j (.cons Z1a (.nil)) Tryz.func159 Tryz.call159 (λargs rows=>Q82 (Q01.ofW (rows.getD 0 default).cs (rowL .u32 rows 1) (rowR .apiEntry rows 2) (rowR .apiEvent rows 3)) (Q0a.of (aC args 1))) [.row 25 1 (.ints .u32), .row 126 4 (.recs .apiEntry), .row 66 3 (.recs .apiEvent)] [] 2
def Qbd(r:Q01)(e:Q0a):Tree Q01:=
.an (Qlc r e) (.lv (Qi r e) λ(x0:Bool×Q01)=> .br x0.1 (.cn (decide (40*(x0.2.B4.length+1)<=140737488355328)) (.lf ({A0:=x0.2.A0,A4:=x0.2.A4,B4:=x0.2.B4++[{At:=x0.2.A0.A1,C9:=e}],A3:=x0.2.A3}))) (.lf x0.2))
def Qix(r:Q01)(e:Q0a):Q01:=(Qbd r e).m
abbrev Qj2(r:Q01)(e:Q0a):Prop:=(Qbd r e).p
def Zc:Q0d:=mkKP 1 213 [true,false] [.ptr 0, .agg Q0a.sig] [.box 96 52 (Q01.sigW (.row 1) (.row 2) (.row 3)), .arr 25 1 (.ints .u32), .arr 126 4 (.recs .apiEntry), .arr 66 3 (.recs .apiEvent)] (λargs rows=>Qj2 (Q01.ofW (rows.getD 0 default).cs (rowL .u32 rows 1) (rowR .apiEntry rows 2) (rowR .apiEvent rows 3)) (Q0a.of (aC args 1))) (λargs rows=>Qix (Q01.ofW (rows.getD 0 default).cs (rowL .u32 rows 1) (rowR .apiEntry rows 2) (rowR .apiEvent rows 3)) (Q0a.of (aC args 1))) (λX=> .tup []) (λX=>[⟨true,96,52, .gen [(Q01.cellsW X (.all 1) (.all 2) (.all 3))]⟩,⟨false,25,1, .ints .u32 X.A0.Mem⟩,⟨false,126,4, .recs .apiEntry X.B4⟩,⟨false,66,3, .recs .apiEvent X.A3⟩])
theorem Z6a:Q05 Tryz.prog Zc:=zx drawn Q0j (.cons Qz7 (.nil)) Tryz.func213 Tryz.call213 (λargs rows=>Qbd (Q01.ofW (rows.getD 0 default).cs (rowL .u32 rows 1) (rowR .apiEntry rows 2) (rowR .apiEvent rows 3)) (Q0a.of (aC args 1))) [.row 25 1 (.ints .u32), .row 126 4 (.recs .apiEntry), .row 66 3 (.recs .apiEvent)] [] 2 (λ_ _ _=>by kernel_rfl) (λ_ _=>rfl) (λ_ _ h=>h)
def Qjl(is:Bool)(n:Int):Tree Int:=
.br is (.cn (decide (0<=wrap u64 n)) (.lf (ishl u32 1 (wrap u64 n)))) (.lf 0)
def Qaj(is:Bool)(n:Int):Int:=(Qjl is n).m
abbrev Qb0(is:Bool)(n:Int):Prop:=(Qjl is n).p
def Ziw:Q0d:=mkP 104 [] true [.one (.bool), .one (.int .i64)] [] (λargs rows=>Qb0 (argB args 0) (argI args 1)) (λargs rows=>Qaj (argB args 0) (argI args 1)) (λX=> .int .u32 X) (λX=>[])
theorem Zcr:Q05 Tryz.prog Ziw:=Q0l drawn Q0j (.nil) Tryz.func104 Tryz.call104 (λargs rows=>Qjl (argB args 0) (argI args 1)) [] [] 2
def Qir(t:Q0h):Tree Bool:=
.lf t.D5
def Qap(t:Q0h):Bool:=(Qir t).m
def Qry:Q0d:=mkR 105 [] true [.agg Q0h.sig] [] (λargs rows=>Qap (Q0h.of (aC args 0))) (λX=> .bool X) (λX=>[])
theorem Qqw:Q05 Tryz.prog Qry:=Q0z drawn Q0j (.nil) Tryz.func105 Tryz.call105 (λargs rows=>Qir (Q0h.of (aC args 0))) [] [] 2
def Qgp(c:Q0c):Tree Bool:=
.lf (decide ((c.D3.length:Int)>(0:Int)))
def Q63(c:Q0c):Bool:=(Qgp c).m
def Qpr:Q0d:=mkR 106 [] true [.agg Q0c.sig] [] (λargs rows=>Q63 (Q0c.of (aC args 0))) (λX=> .bool X) (λX=>[])
theorem Qo4:Q05 Tryz.prog Qpr:=Q0z drawn Q0j (.nil) Tryz.func106 Tryz.call106 (λargs rows=>Qgp (Q0c.of (aC args 0))) [] [] 2
def Qkk(d0:Q0e):Tree Bool:=
.br (d0.C0==2) (.lf true) (.lf (d0.C0==3))
def Qch(d0:Q0e):Bool:=(Qkk d0).m
def Qsu:Q0d:=mkR 107 [] true [.agg Q0e.sig] [] (λargs rows=>Qch (Q0e.of (aC args 0))) (λX=> .bool X) (λX=>[])
theorem Qs2:Q05 Tryz.prog Qsu:=Q0z drawn Q0j (.nil) Tryz.func107 Tryz.call107 (λargs rows=>Qkk (Q0e.of (aC args 0))) [] [] 2
def Qm7(n:Q0o):Tree Bool:=
.lf n.B8
def Qdw(n:Q0o):Bool:=(Qm7 n).m
def Qwj:Q0d:=mkR 108 [] true [.agg Q0o.sig] [] (λargs rows=>Qdw (Q0o.of (aC args 0))) (λX=> .bool X) (λX=>[])
theorem Qt7:Q05 Tryz.prog Qwj:=Q0z drawn Q0j (.nil) Tryz.func108 Tryz.call108 (λargs rows=>Qm7 (Q0o.of (aC args 0))) [] [] 2
def Qom(b:Q07)(z:(Int)×(Int)):Prop:=0<=z.2/\z.2<=32
def Qh5(b:Q07)(z:(Int)×(Int)):Nat:=(32-z.2).toNat
def Qku(b:Q07):Tree Int:=
.lp inferInstance (Qh5 b (0,0)+1) ((rZ/\rE (0:Int)/\rE (0:Int)/\True)/\(rE b.C8/\rE b.C2/\True)/\True) (0,0) λ(v0:Int×Int)=> .br (decide (v0.2<32)) (.cn (decide (0<=wrap u64 v0.2)) (.nx ((rZ/\rE ((wrap i64 (v0.1+wrap i64 (iand u32 (ishr u32 b.C2 (wrap u64 v0.2)) 1))):Int)/\rE ((wrap i64 (v0.2+1)):Int)/\True)/\(rE b.C8/\rE b.C2/\True)/\True) (Sum.inl (wrap i64 (v0.1+wrap i64 (iand u32 (ishr u32 b.C2 (wrap u64 v0.2)) 1)),wrap i64 (v0.2+1))))) (.lf (Sum.inr v0.1))
def Qf2(b:Q07):Int:=(Qku b).m
theorem Z5z(b:Q07):(Qku b).p:=by
 unfold Tree.p Qku
 repeat'(first|refine w_lp (inv:=Qom b) (μ:=Qh5 b) ?_ (Nat.lt_succ_self _) (λ_ _=> ?_)|exact trivial|refine w_br (λ_=> ?_) (λ_=> ?_)|refine w_cn ?_ ?_|refine w_an ?_ ?_|refine w_lv (λ_ _=> ?_)|refine w_nx ?_|refine w_lf ?_|refine And.intro ?_ ?_)
 all_goals((try simp only[Qom,Qh5]at*);exact fin0)
def Zbx:LInv:={
 α:=(Int)×(Int)
 F:=λst a=>([(1, .ptr 0 0 0),(3, .int i64 a.1),(4, .int i64 a.2)],[⟨true,40,2, .gen [[(cT st 1 0),(cT st 1 1)]]⟩])
 a0:=λst=>((lk st 3).toInt,(lk st 4).toInt)
 ex0:=λst=>[]++[(Q0r (lk st 1) (st.rows.length+0))]
 next:=λst=>((lk st 3).toInt,(lk st 4).toInt)
 ex:=λst=>[]++[(Q0r (lk st 1) (st.rows.length+0))]}
def Z1s:List (Nat×LInv):=[(3,Zbx)]
def Zde:Q0d:=mkR 177 [] true [.agg Q07.sig] [] (λargs rows=>Qf2 (Q07.of (aC args 0))) (λX=> .int .i64 X) (λX=>[])
theorem Qsx:Q05 Tryz.prog Zde:=Q0z drawn Q0j (.nil) Tryz.func177 Tryz.call177 (λargs rows=>Qku (Q07.of (aC args 0))) [] Z1s 3 (λ_ _ _=>by kernel_rfl) (λ_ _=>rfl) (λargs rows=>Z5z (Q07.of (aC args 0))) (λ_ X=>by kernel_rfl)
def Qaa(b:Q07):Tree Bool:=
.lv (Qf2 b) λ(x0:Int)=> .lf (wrap u64 x0 !=wrap u64 b.C8)
def Q4(b:Q07):Bool:=(Qaa b).m
def Qp8:Q0d:=mkR 109 [] true [.agg Q07.sig] [] (λargs rows=>Q4 (Q07.of (aC args 0))) (λX=> .bool X) (λX=>[])
theorem Qo2:Q05 Tryz.prog Qp8:=Q0z drawn Q0j (.cons Qsx (.nil)) Tryz.func109 Tryz.call109 (λargs rows=>Qaa (Q07.of (aC args 0))) [] [] 2
def Qg5(m:Q00):Tree Int:=
.lv (Qap m.B0) λ(x0:Bool)=> .an (Qb0 x0 0) (.lv (Qaj x0 0) λ(x1:Int)=> .lv (Q63 m.A6) λ(x2:Bool)=> .an (Qb0 x2 1) (.lv (Qaj x2 1) λ(x3:Int)=> .lv (Qch m.B1) λ(x4:Bool)=> .an (Qb0 x4 2) (.lv (Qaj x4 2) λ(x5:Int)=> .lv (Qdw m.C4) λ(x6:Bool)=> .an (Qb0 x6 3) (.lv (Qaj x6 3) λ(x7:Int)=> .lv (Q4 m.A2) λ(x8:Bool)=> .an (Qb0 x8 4) (.lv (Qaj x8 4) λ(x9:Int)=> .lf (ior u32 (ior u32 (ior u32 (ior u32 x1 x3) x5) x7) x9))))))
def Qi1(m:Q00):Int:=(Qg5 m).m
abbrev Qrj(m:Q00):Prop:=(Qg5 m).p
def Zft:Q0d:=mkP 27 [] true [.agg Q00.sig] [] (λargs rows=>Qrj (Q00.of (aC args 0))) (λargs rows=>Qi1 (Q00.of (aC args 0))) (λX=> .int .u32 X) (λX=>[])
theorem Za9:Q05 Tryz.prog Zft:=Q0l drawn Q0j (.cons Zcr (.cons Qqw (.cons Qo4 (.cons Qs2 (.cons Qt7 (.cons Qo2 (.nil))))))) Tryz.func27 Tryz.call27 (λargs rows=>Qg5 (Q00.of (aC args 0))) [] [] 2
def Q99(m:Q00):Tree Int:=
.an (Qrj m) (.lv (Qi1 m) λ(x0:Int)=> .lf (iand u32 x0 m.B2.B5.a7))
def Q31(m:Q00):Int:=(Q99 m).m
abbrev Qh6(m:Q00):Prop:=(Q99 m).p
def Z4w:Q0d:=mkP 111 [] true [.agg Q00.sig] [] (λargs rows=>Qh6 (Q00.of (aC args 0))) (λargs rows=>Q31 (Q00.of (aC args 0))) (λX=> .int .u32 X) (λX=>[])
theorem Qpo:Q05 Tryz.prog Z4w:=Q0l drawn Q0j (.cons Za9 (.nil)) Tryz.func111 Tryz.call111 (λargs rows=>Q99 (Q00.of (aC args 0))) [] [] 2
def Qfk(m:Q00):Tree Bool:=
.br m.A7 (.an (Qh6 m) (.lv (Q31 m) λ(x0:Int)=> .lf (x0==0))) (.lf false)
def Qgo(m:Q00):Bool:=(Qfk m).m
abbrev Qmo(m:Q00):Prop:=(Qfk m).p
def Zk4:Q0d:=mkP 29 [] true [.agg Q00.sig] [] (λargs rows=>Qmo (Q00.of (aC args 0))) (λargs rows=>Qgo (Q00.of (aC args 0))) (λX=> .bool X) (λX=>[])
theorem Qy:Q05 Tryz.prog Zk4:=Q0l drawn Q0j (.cons Qpo (.nil)) Tryz.func29 Tryz.call29 (λargs rows=>Qfk (Q00.of (aC args 0))) [] [] 2
def Qa(m:Q00):Tree Bool:=
.lv (Q8h m) λ(x0:Bool)=> .br (!x0) (.lf true) (.br m.A9 (.lf true) (.an (Qmo m) (.lv (Qgo m) λ(x1:Bool)=> .br x1 (.lf true) (.lf (decide (m.A1>=1152921504606846976))))))
def Q1f(m:Q00):Bool:=(Qa m).m
abbrev Qfs(m:Q00):Prop:=(Qa m).p
def Zf6:Q0d:=mkP 115 [] true [.agg Q00.sig] [] (λargs rows=>Qfs (Q00.of (aC args 0))) (λargs rows=>Q1f (Q00.of (aC args 0))) (λX=> .bool X) (λX=>[])
theorem Qut:Q05 Tryz.prog Zf6:=Q0l drawn Q0j (.cons Qs (.cons Qy (.nil))) Tryz.func115 Tryz.call115 (λargs rows=>Qa (Q00.of (aC args 0))) [] [] 2

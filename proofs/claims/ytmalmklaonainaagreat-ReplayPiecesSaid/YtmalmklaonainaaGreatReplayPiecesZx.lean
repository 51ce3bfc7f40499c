import Derived.Test.YtmalmklaonainaaGreatReplayPiecesYz
set_option maxRecDepth 100000
set_option linter.all false
namespace Go.Proofs.YtmalmklaonainaaGreat
open Go Go.GD Go.IntKind
noncomputable section
def Qf8(m:(List Int)):Tree (List Int):=
.cn (Nat.blt (0:Nat) (1:Nat)&&Nat.beq (1:Nat) (1:Nat)&&List.all [D.int u32 (0:Int)] D.plain&&decide ((0:Int)<=(m.length:Int)/\(m.length:Int)<=(m.length:Int)/\(m.length:Int)<=(9223372036854775807:Int)/\(↑(4:Nat):Int)*(m.length:Int)<=(140737488355328:Int))) (let E1:=List.length (List.replicate (Int.toNat (m.length:Int)) (0:Int)); .lf (List.take (Min.min (m.length) E1) m++List.drop (Min.min (m.length) E1) (List.replicate (Int.toNat (m.length:Int)) (0:Int))))
def Qtd(m:(List Int)):(List Int):=(Qf8 m).m
abbrev Qv0(m:(List Int)):Prop:=(Qf8 m).p
def Zkp:Q0d:=mkP 122 [] true [.one (.ints .u32)] [] (λargs rows=>Qv0 (argL .u32 args 0)) (λargs rows=>Qtd (argL .u32 args 0)) (λX=> .all 0) (λX=>[⟨false,25,1, .ints .u32 X⟩])
theorem Zdt:Q06 pG Zkp:=Q0p drawn Q0k (.nil) Tryz.func122 Tryz.call122 (λargs rows=>Qf8 (argL .u32 args 0)) [.row 25 1 (.ints .u32)] [] 2
def Qd5(m:Q00):Tree Q00:=
.an (Qv0 m.Mem) (.lv (Qtd m.Mem) λ(x0:List Int)=> .lf ({B2:=m.B2,Mem:=x0,A4:=m.A4,B0:=m.B0,B1:=m.B1,C4:=m.C4,A2:=m.A2,A1:=m.A1,A7:=m.A7,A9:=m.A9}))
def Qmf(m:Q00):Q00:=(Qd5 m).m
abbrev Qgc(m:Q00):Prop:=(Qd5 m).p
def Zo5:Q0d:=mkP 34 [] true [.agg Q00.sig] [] (λargs rows=>Qgc (Q00.of (aC args 0))) (λargs rows=>Qmf (Q00.of (aC args 0))) (λX=> .agg (Q00.cellsW X (.all 0))) (λX=>[⟨false,25,1, .ints .u32 X.Mem⟩])
theorem Qsa:Q06 pG Zo5:=Q0p drawn Q0k (.cons Zdt (.nil)) Tryz.func34 Tryz.call34 (λargs rows=>Qd5 (Q00.of (aC args 0))) [.row 25 1 (.ints .u32)] [] 2
def Qrv(n:Int)(k:Int)(z:(Int)×(List Int)):Prop:=0<=z.1/\(z.2.length:Int)=z.1/\(z.1<=k\/z.1=0)
def Qe6(n:Int)(k:Int)(z:(Int)×(List Int)):Nat:=(k-z.1).toNat
def Qeq(n:Int)(k:Int):Tree (List UInt8):=
.lp inferInstance (Qe6 n k (0,[])+1) ((rE (n:Int)/\rE (k:Int)/\True/\rE (0:Int)/\True)/\rE ([]:List Int)/\True) (0,[]) λ(v0:Int×List Int)=> .br (decide (v0.1<k)) (.lv (Q3f n (wrap i64 (Int.tdiv v0.1 9))) λ(x0:Int)=> .cn (decide (1*(v0.2.length+1)<=140737488355328)) (.nx ((rE (n:Int)/\rE (k:Int)/\True/\rE ((wrap i64 (v0.1+1)):Int)/\True)/\rE ((v0.2++[wrap u8 x0]):List Int)/\True) (Sum.inl (wrap i64 (v0.1+1),v0.2++[wrap u8 x0])))) (.lf (Sum.inr (bytesOf v0.2)))
def Qtl(n:Int)(k:Int):(List UInt8):=(Qeq n k).m
def Qax(n:Int)(k:Int):Prop:=
k<=1000000000000
theorem Zbv(n:Int)(k:Int)(hw:Qax n k):(Qeq n k).p:=by
 simp only[Qax]at hw
 unfold Tree.p Qeq
 repeat'(first|refine w_lp (inv:=Qrv n k) (μ:=Qe6 n k) ?_ (Nat.lt_succ_self _) (λ_ _=> ?_)|exact trivial|refine w_br (λ_=> ?_) (λ_=> ?_)|refine w_cn ?_ ?_|refine w_an ?_ ?_|refine w_lv (λ_ _=> ?_)|refine w_nx ?_|refine w_lf ?_|refine And.intro ?_ ?_)
 all_goals((try simp only[Qrv,Qe6]at*);exact fin0)
def Zh0:LInv:={
 α:=(Int)×(List Int)
 F:=λst a=>([(0,(lk st 0)),(1,(lk st 1)),(5, .all 0),(6, .int i64 a.1)],[⟨false,5,1, .ints u8 a.2⟩])
 a0:=λst=>((lk st 6).toInt,(Q5k st.rows (rN st 5)))
 ex0:=λst=>[]++[(rX st 5 0)]}
def Z5l:List (Nat×LInv):=[(3,Zh0)]
def Zj3:Q0d:=mkP 84 [] true [.one (.int .i64), .one (.int .i64)] [] (λargs rows=>Qax (argI args 0) (argI args 1)) (λargs rows=>Qtl (argI args 0) (argI args 1)) (λX=> .str X) (λX=>[])
theorem Zhd:Q06 pG Zj3:=Q0p drawn Q0k (.cons Qmi (.nil)) Tryz.func84 Tryz.call84 (λargs rows=>Qeq (argI args 0) (argI args 1)) [] Z5l 3 (hp:=λargs rows h=>Zbv (argI args 0) (argI args 1) h)
def Qf4(r:Q01):Tree Q01:=
.an (Qgc r.A0) (.lv (Qmf r.A0) λ(x0:Q00)=> .cn (decide (40*(0+r.B4.length)<=140737488355328)) (.cn (decide (32*(0+r.A6.length)<=140737488355328)) (.lf ({A0:=x0,A3:=r.A3,B4:=r.B4,A6:=r.A6}))))
def Qom(r:Q01):Q01:=(Qf4 r).m
abbrev Qmj(r:Q01):Prop:=(Qf4 r).p
def Zkn:Q0d:=mkP 212 [] true [.agg Q01.sig] [] (λargs rows=>Qmj (Q01.of (aC args 0))) (λargs rows=>Qom (Q01.of (aC args 0))) (λX=> .agg (Q01.cellsW X (.all 0) (.all 1) (.all 2))) (λX=>[⟨false,25,1, .ints .u32 X.A0.Mem⟩,⟨false,126,4, .recs .apiEntry X.B4⟩,⟨false,66,3, .recs .apiEvent X.A6⟩])
theorem Qyt:Q06 pG Zkn:=Q0p drawn Q0k (.cons Qsa (.nil)) Tryz.func212 Tryz.call212 (λargs rows=>Qf4 (Q01.of (aC args 0))) [.row 25 1 (.ints .u32), .row 126 4 (.recs .apiEntry), .row 66 3 (.recs .apiEvent)] [] 2
def Qn4(e:Q0a):Tree Bool:=
.br (e.B6==1) (.lf (decide (e.C8=[]))) (.br (e.B6==6) (.lf (decide (e.C8=[]))) (.br (e.B6==2) (.br (e.N==0) (.lf (decide (e.C8=[]))) (.lf false)) (.br (e.B6==3) (.br (decide (e.N<=255)) (.lf (decide (e.C8=[]))) (.lf false)) (.br (e.B6==4) (.br (decide (e.N<=1)) (.br (decide (e.C8=[])) (.lf true) (.br (e.N==1) (.lf ((e.C8.length:Int)==(128:Int))) (.lf false))) (.lf false)) (.br (e.B6==5) (.br (e.N==0) (.br (decide ((e.C8.length:Int)>=(1:Int))) (.lf (decide ((e.C8.length:Int)<=(128:Int)))) (.lf false)) (.lf false)) (.lf false))))))
def Q1w(e:Q0a):Bool:=(Qn4 e).m
def Zbs:Q0d:=mkR 154 [] true [.agg Q0a.sig] [] (λargs rows=>Q1w (Q0a.of (aC args 0))) (λX=> .bool X) (λX=>[])
theorem Z5m:Q06 pG Zbs:=Q11 drawn Q0k (.nil) Tryz.func154 Tryz.call154 (λargs rows=>Qn4 (Q0a.of (aC args 0))) [] [] 2
def Q8r(r:Q01)(e:Q0a):Tree (Q01×Bool):=
.an (Qmj r) (.lv (Qom r) λ(x0:Q01)=> .lv (Q1w e) λ(x1:Bool)=> .br (!x1) (.lf (x0,false)) (.br (e.B6==1) (.lf (x0,false)) (.br (decide ((x0.A6.length:Int)>=(16:Int))) (.lf (x0,false)) (.cn (decide (32*(x0.A6.length+1)<=140737488355328)) (.lf ({A0:=x0.A0,A3:=x0.A3,B4:=x0.B4,A6:=x0.A6++[e]},true))))))
def Q2p(r:Q01)(e:Q0a):(Q01×Bool):=(Q8r r e).m
abbrev Qnp(r:Q01)(e:Q0a):Prop:=(Q8r r e).p
def Z5x:Q0d:=mkP 146 [] true [.agg Q01.sig, .agg Q0a.sig] [] (λargs rows=>Qnp (Q01.of (aC args 0)) (Q0a.of (aC args 1))) (λargs rows=>Q2p (Q01.of (aC args 0)) (Q0a.of (aC args 1))) (λX=> .tup [.agg (Q01.cellsW (X.1) (.all 0) (.all 1) (.all 2)), .bool (X.2)]) (λX=>[⟨false,25,1, .ints .u32 (X.1).A0.Mem⟩,⟨false,126,4, .recs .apiEntry (X.1).B4⟩,⟨false,66,3, .recs .apiEvent (X.1).A6⟩])
theorem Z2f:Q06 pG Z5x:=Q0p drawn Q0k (.cons Qyt (.cons Z5m (.nil))) Tryz.func146 Tryz.call146 (λargs rows=>Q8r (Q01.of (aC args 0)) (Q0a.of (aC args 1))) [.row 25 1 (.ints .u32), .row 126 4 (.recs .apiEntry), .row 66 3 (.recs .apiEvent)] [] 2
def Q9h(n:Int):Tree Q0a:=
.lv (Q3f n 2) λ(x0:Int)=> .br (Int.tmod x0 (7:Int)==(0:Int)) (.lf ({B6:=2,N:=0,C8:=[]})) (.br (Int.tmod x0 (7:Int)==(1:Int)) (.lf ({B6:=3,N:=wrap u32 (iand i64 (ishr i64 x0 8) 255),C8:=[]})) (.br (Int.tmod x0 (7:Int)==(2:Int)) (.lf ({B6:=3,N:=wrap u32 (iand i64 (ishr i64 x0 8) 255),C8:=[]})) (.br (Int.tmod x0 (7:Int)==(3:Int)) (.lf ({B6:=4,N:=1,C8:=[]})) (.br (Int.tmod x0 (7:Int)==(4:Int)) (.an (Qax x0 128) (.lv (Qtl x0 128) λ(x1:List UInt8)=> .lf ({B6:=4,N:=1,C8:=x1}))) (.br (Int.tmod x0 (7:Int)==(5:Int)) (let E1:=wrap i64 (1+Int.tmod (ishr i64 x0 8) 40); .an (Qax x0 E1) (.lv (Qtl x0 E1) λ(x2:List UInt8)=> .lf ({B6:=5,N:=0,C8:=x2}))) (.br (Int.tmod (ishr i64 x0 8) (4:Int)==(0:Int)) (.lf ({B6:=4,N:=0,C8:=[]})) (.lf ({B6:=6,N:=wrap u32 (Int.tmod (ishr i64 x0 8) 3),C8:=[]}))))))))
def Q4w(n:Int):Q0a:=(Q9h n).m
abbrev Qr4(n:Int):Prop:=(Q9h n).p
def Zdm:Q0d:=mkP 76 [] true [.one (.int .i64)] [] (λargs rows=>Qr4 (argI args 0)) (λargs rows=>Q4w (argI args 0)) (λX=> .agg (Q0a.cells X)) (λX=>[])
theorem Zct:Q06 pG Zdm:=Q0p drawn Q0k (.cons Qmi (.cons Zhd (.nil))) Tryz.func76 Tryz.call76 (λargs rows=>Q9h (argI args 0)) [] [] 2
def Qoh(m:(List Int)):Tree Int:=
.br (Int.tmod (m.length:Int) (32:Int) !=(0:Int)) (.lf 0) (.br (decide ((m.length:Int)>(1024:Int))) (.lf 0) (.lf (wrap i64 (Int.tdiv (m.length:Int) 32))))
def Q40(m:(List Int)):Int:=(Qoh m).m
def Zgt:Q0d:=mkR 93 [] true [.one (.ints .u32)] [] (λargs rows=>Q40 (argL .u32 args 0)) (λX=> .int .i64 X) (λX=>[])
theorem Qdj:Q06 pG Zgt:=Q11 drawn Q0k (.nil) Tryz.func93 Tryz.call93 (λargs rows=>Qoh (argL .u32 args 0)) [] [] 2
def Qm1(c:Q0c):Tree Bool:=
.lf (decide ((c.D3.length:Int)<=(16:Int)))
def Qi7(c:Q0c):Bool:=(Qm1 c).m
def Qwa:Q0d:=mkR 94 [] true [.agg Q0c.sig] [] (λargs rows=>Qi7 (Q0c.of (aC args 0))) (λX=> .bool X) (λX=>[])
theorem Qua:Q06 pG Qwa:=Q11 drawn Q0k (.nil) Tryz.func94 Tryz.call94 (λargs rows=>Qm1 (Q0c.of (aC args 0))) [] [] 2
def Qil(t:Q0i):Tree Bool:=
.br t.D2 (.br t.D5 (.lf false) (.br t.D2 (.lf (t.C9 !=0)) (.br t.D5 (.lf true) (.lf (t.C9==0))))) (.br t.D2 (.lf (t.C9 !=0)) (.br t.D5 (.lf true) (.lf (t.C9==0))))
def Qe0(t:Q0i):Bool:=(Qil t).m
def Z5f:Q0d:=mkR 95 [] true [.agg Q0i.sig] [] (λargs rows=>Qe0 (Q0i.of (aC args 0))) (λX=> .bool X) (λX=>[])
theorem Z01:Q06 pG Z5f:=Q11 drawn Q0k (.nil) Tryz.func95 Tryz.call95 (λargs rows=>Qil (Q0i.of (aC args 0))) [] [] 2
def Qkz(d0:Q0f)(pages:Int):Tree Bool:=
.br (decide (d0.Blocks>64)) (.lf false) (.br (decide (d0.C1<0)) (.lf false) (.br (decide (d0.C1>3)) (.lf false) (.br (d0.C1 !=1) (.br (d0.D8==0) (.br (d0.B7==0) (.br (d0.B3==0) (.lf (decide (d0.C3=[]))) (.lf false)) (.lf false)) (.lf false)) (.br (decide (d0.B7>=d0.Blocks)) (.lf false) (.br (decide (wrap i64 d0.B3>=pages)) (.lf false) (.br (d0.D8==1) (.br (decide (d0.C3=[])) (.lf true) (.br (d0.D8==2) (.lf ((d0.C3.length:Int)==(128:Int))) (.lf false))) (.br (d0.D8==2) (.lf ((d0.C3.length:Int)==(128:Int))) (.lf false))))))))
def Qfx(d0:Q0f)(pages:Int):Bool:=(Qkz d0 pages).m
def Z7e:Q0d:=mkR 96 [] true [.agg Q0f.sig, .one (.int .i64)] [] (λargs rows=>Qfx (Q0f.of (aC args 0)) (argI args 1)) (λX=> .bool X) (λX=>[])
theorem Z1p:Q06 pG Z7e:=Q11 drawn Q0k (.nil) Tryz.func96 Tryz.call96 (λargs rows=>Qkz (Q0f.of (aC args 0)) (argI args 1)) [] [] 2
def Qn0(n:Q0r)(pages:Int):Tree Bool:=
let T1:Tree (Bool):= .br n.B8 (.br (decide (n.F1>=1)) (.lf (decide (n.F1<=128))) (.lf false)) (.lf (n.F1==0)); .br n.C6 (.br n.B8 (.lf false) (.br (decide (wrap i64 n.B9>=pages)) (.lf false) (.br (!n.C6) (.br (n.B9 !=0) (.lf false) T1) T1))) (.br (!n.C6) (.br (n.B9 !=0) (.lf false) T1) T1)
def Qjz(n:Q0r)(pages:Int):Bool:=(Qn0 n pages).m
def Zav:Q0d:=mkR 97 [] true [.agg Q0r.sig, .one (.int .i64)] [] (λargs rows=>Qjz (Q0r.of (aC args 0)) (argI args 1)) (λX=> .bool X) (λX=>[])
theorem Z6x:Q06 pG Zav:=Q11 drawn Q0k (.nil) Tryz.func97 Tryz.call97 (λargs rows=>Qn0 (Q0r.of (aC args 0)) (argI args 1)) [] [] 2
def Qha(b:Q09)(pages:Int)(z:(Int)):Prop:=0<=z/\z<=32
def Q6l(b:Q09)(pages:Int)(z:(Int)):Nat:=(32-z).toNat
def Q5r(b:Q09)(pages:Int):Tree Bool:=
.lp inferInstance (Q6l b pages 0+1) ((rE (pages:Int)/\rZ/\rE (0:Int)/\True)/\(rE b.D0/\rE b.C2/\True)/\True) 0 λ(v0:Int)=> .br (decide (v0<32)) (.cn (decide (0<=wrap u64 v0)) (let T1:Tree ((Int)⊕(Bool)):= .nx ((rE (pages:Int)/\rZ/\rE ((wrap i64 (v0+1)):Int)/\True)/\(rE b.D0/\rE b.C2/\True)/\True) (Sum.inl (wrap i64 (v0+1))); .br (iand u32 (ishr u32 b.C2 (wrap u64 v0)) (1:Int)==(1:Int)) (.br (decide (v0>=pages)) (.lf (Sum.inr false)) T1) T1)) (.lf (Sum.inr true))
def Q9c(b:Q09)(pages:Int):Bool:=(Q5r b pages).m
theorem Qsf(b:Q09)(pages:Int):(Q5r b pages).p:=by
 unfold Tree.p Q5r
 repeat'(first|refine w_lp (inv:=Qha b pages) (μ:=Q6l b pages) ?_ (Nat.lt_succ_self _) (λ_ _=> ?_)|exact trivial|refine w_br (λ_=> ?_) (λ_=> ?_)|refine w_cn ?_ ?_|refine w_an ?_ ?_|refine w_lv (λ_ _=> ?_)|refine w_nx ?_|refine w_lf ?_|refine And.intro ?_ ?_)
 all_goals((try simp only[Qha,Q6l]at*);exact fin0)
def Qv5:LInv:={
 α:=(Int)
 F:=λst a=>([(1,(lk st 1)),(2, .ptr 0 0 0),(5, .int i64 a)],[⟨true,40,2, .gen [[(cT st 2 0),(cT st 2 1)]]⟩])
 a0:=λst=>(lk st 5).toInt
 ex0:=λst=>[]++[(rX st 2 0)]}
def Qqw:List (Nat×LInv):=[(2,Qv5)]
def Qxg:Q0d:=mkR 98 [] true [.agg Q09.sig, .one (.int .i64)] [] (λargs rows=>Q9c (Q09.of (aC args 0)) (argI args 1)) (λX=> .bool X) (λX=>[])
theorem Quf:Q06 pG Qxg:=Q11 drawn Q0k (.nil) Tryz.func98 Tryz.call98 (λargs rows=>Q5r (Q09.of (aC args 0)) (argI args 1)) [] Qqw 3 (λ_ _ _=>by kernel_rfl) (λ_ _=>rfl) (λargs rows=>Qsf (Q09.of (aC args 0)) (argI args 1)) (λ_ X=>by kernel_rfl)
def Qx(m:Q00):Tree Bool:=
.lv (Q40 m.Mem) λ(x0:Int)=> .br (decide (x0<1)) (.lf false) (.br (m.B2.X.a0 !=0) (.lf false) (.br (decide (m.B2.B5.a0>31)) (.lf false) (.br (decide (m.B2.B5.a7>31)) (.lf false) (.br (decide (m.B2.B5.a6>255)) (.lf false) (.br (Int.tmod m.B2.B5.a1 (4:Int) !=(0:Int)) (.lf false) (.lv (Qi7 m.A4) λ(x1:Bool)=> .br (!x1) (.lf false) (.lv (Qe0 m.B0) λ(x2:Bool)=> .br (!x2) (.lf false) (.lv (Qfx m.B1 x0) λ(x3:Bool)=> .br (!x3) (.lf false) (.lv (Qjz m.C4 x0) λ(x4:Bool)=> .br (!x4) (.lf false) (.lv (Q9c m.A2 x0) λ(x5:Bool)=> .br (!x5) (.lf false) (.br (decide (m.A1<=1152921504606846976)) (.br m.A7 (.lf (!m.A9)) (.lf true)) (.lf false))))))))))))
def Q6r(m:Q00):Bool:=(Qx m).m
def Znu:Q0d:=mkR 25 [] true [.agg Q00.sig] [] (λargs rows=>Q6r (Q00.of (aC args 0))) (λX=> .bool X) (λX=>[])
theorem Qs2:Q06 pG Znu:=Q11 drawn Q0k (.cons Qdj (.cons Qua (.cons Z01 (.cons Z1p (.cons Z6x (.cons Quf (.nil))))))) Tryz.func25 Tryz.call25 (λargs rows=>Qx (Q00.of (aC args 0))) [] [] 2
def Qa5(t:Q0i):Tree (Q0i×Bool):=
.br (!t.D2) (.lf (t,false)) (.lf ({D2:=false,C9:=t.C9,D5:=true},true))
def Q70(t:Q0i):(Q0i×Bool):=(Qa5 t).m
def Zi8:Q0d:=mkR 221 [] true [.agg Q0i.sig] [] (λargs rows=>Q70 (Q0i.of (aC args 0))) (λX=> .tup [.agg (Q0i.cells (X.1)), .bool (X.2)]) (λX=>[])
theorem Qzk:Q06 pG Zi8:=Q11 drawn Q0k (.nil) Tryz.func221 Tryz.call221 (λargs rows=>Qa5 (Q0i.of (aC args 0))) [] [] 2
def Qc8(c:Q0c)(b:Int):Tree (Q0c×Bool):=
.br (decide ((c.D3.length:Int)>=(16:Int))) (.lf (c,false)) (.cn (decide (c.D3.length+1<=maxLen)) (.lf ({D3:=c.D3++[(λ(n:Int)=>UInt8.ofNat n.toNat) b]},true)))
def Qlf(c:Q0c)(b:Int):(Q0c×Bool):=(Qc8 c b).m
abbrev Qne(c:Q0c)(b:Int):Prop:=(Qc8 c b).p
def Zkx:Q0d:=mkP 222 [] true [.agg Q0c.sig, .one (.int .u8)] [] (λargs rows=>Qne (Q0c.of (aC args 0)) (argI args 1)) (λargs rows=>Qlf (Q0c.of (aC args 0)) (argI args 1)) (λX=> .tup [.agg (Q0c.cells (X.1)), .bool (X.2)]) (λX=>[])
theorem Qy7:Q06 pG Zkx:=Q0p drawn Q0k (.nil) Tryz.func222 Tryz.call222 (λargs rows=>Qc8 (Q0c.of (aC args 0)) (argI args 1)) [] [] 2
def Qjm(m:(List Int))(frame:Int):Tree Bool:=
.lv (Q40 m) λ(x0:Int)=> .lf (decide (wrap u64 frame<wrap u64 x0))
def Q27(m:(List Int))(frame:Int):Bool:=(Qjm m frame).m
def Zky:Q0d:=mkR 269 [] true [.one (.ints .u32), .one (.int .u32)] [] (λargs rows=>Q27 (argL .u32 args 0) (argI args 1)) (λX=> .bool X) (λX=>[])
theorem Qgk:Q06 pG Zky:=Q11 drawn Q0k (.cons Qdj (.nil)) Tryz.func269 Tryz.call269 (λargs rows=>Qjm (argL .u32 args 0) (argI args 1)) [] [] 2
def Qew(m:(List Int))(addr:Int)(size:Int)(v:Int):Tree (List Int):=
let E1:=Nat.beq 1 1&&Nat.blt 0 1&&decide (0<=wrap u32 (Int.tdiv addr 4)/\wrap u32 (Int.tdiv addr 4)<(m.length:Int));let E2:=Int.toNat (wrap u32 (Int.tdiv addr 4)); .br (size==4) (.cn E1 (.lf (List.set m E2 v))) (.cn E1 (let E3:=decide (0<=wrap u32 (8*Int.tmod addr 4)); .cn E3 (.cn E3 (.cn E1 (.lf (List.set m E2 (ior u32 (Qhu u32 (m.getD E2 0) (ishl u32 255 (wrap u32 (8*Int.tmod addr 4)))) (ishl u32 (iand u32 v 255) (wrap u32 (8*Int.tmod addr 4))))))))))
def Qar(m:(List Int))(addr:Int)(size:Int)(v:Int):(List Int):=(Qew m addr size v).m
abbrev Qg6(m:(List Int))(addr:Int)(size:Int)(v:Int):Prop:=(Qew m addr size v).p
def Zni:Q0d:=mkP 300 [true,false,false,false] true [.one (.row 0), .one (.int .u32), .one (.int .i64), .one (.int .u32)] [.arr 25 1 (.ints .u32)] (λargs rows=>Qg6 (rowL .u32 rows 0) (argI args 1) (argI args 2) (argI args 3)) (λargs rows=>Qar (rowL .u32 rows 0) (argI args 1) (argI args 2) (argI args 3)) (λX=> .tup []) (λX=>[⟨false,25,1, .ints .u32 X⟩])
theorem Z3l:Q06 pG Zni:=Q0p drawn Q0k (.nil) Tryz.func300 Tryz.call300 (λargs rows=>Qew (rowL .u32 rows 0) (argI args 1) (argI args 2) (argI args 3)) [] [] 2
def Qjf(m:(List Int))(frame:Int)(s:(List UInt8))(z:(Int)×(List Int)):Nat:=(128-z.1).toNat
def Q9x(m:(List Int))(frame:Int)(s:(List UInt8)):Tree (List Int):=
.lp inferInstance (Qjf m frame s (0,m)+1) ((True/\rE (frame:Int)/\rE (s:List UInt8)/\rE (0:Int)/\True)/\rE (m:List Int)/\True) (0,m) λ(v0:Int×List Int)=> .br (decide (v0.1<(s.length:Int))) (.br (decide (v0.1<128)) (.cn (decide (0<=v0.1/\v0.1<(s.length:Int))) (let E1:=wrap u32 (↑(UInt8.toNat (s.getD v0.1.toNat (0:UInt8))):Int);let E2:=wrap u32 (wrap i64 (wrap i64 (frame*128)+v0.1)); .an (Qg6 v0.2 E2 1 E1) (.lv (Qar v0.2 E2 1 E1) λ(x0:List Int)=> .nx ((True/\rE (frame:Int)/\rE (s:List UInt8)/\rE ((wrap i64 (v0.1+1)):Int)/\True)/\rE (x0:List Int)/\True) (Sum.inl (wrap i64 (v0.1+1),x0))))) (.lf (Sum.inr v0.2))) (.lf (Sum.inr v0.2))
def Qld(m:(List Int))(frame:Int)(s:(List UInt8)):(List Int):=(Q9x m frame s).m
abbrev Qnd(m:(List Int))(frame:Int)(s:(List UInt8)):Prop:=(Q9x m frame s).p
def Zhl:LInv:={
 α:=(Int)×(List Int)
 F:=λst a=>([(0, .all 0),(1,(lk st 1)),(2,(lk st 2)),(6, .int i64 a.1)],[⟨false,25,1, .ints u32 a.2⟩])
 a0:=λst=>((lk st 6).toInt,(Q5k st.rows 0))
 ex0:=λst=>[0]++[]}
def Z68:List (Nat×LInv):=[(1,Zhl)]
def Zj1:Q0d:=mkP 270 [true,false,false] true [.one (.row 0), .one (.int .i64), .one (.str)] [.arr 25 1 (.ints .u32)] (λargs rows=>Qnd (rowL .u32 rows 0) (argI args 1) (argS args 2)) (λargs rows=>Qld (rowL .u32 rows 0) (argI args 1) (argS args 2)) (λX=> .tup []) (λX=>[⟨false,25,1, .ints .u32 X⟩])
theorem Qz6:Q06 pG Zj1:=Q0p drawn Q0k (.cons Z3l (.nil)) Tryz.func270 Tryz.call270 (λargs rows=>Q9x (rowL .u32 rows 0) (argI args 1) (argS args 2)) [] Z68 3
def Q6h(d0:Q0f)(m:(List Int))(e:Q0a):Tree (Q0f×Bool×(List Int)):=
.br (d0.C1 !=1) (.lf (d0,false,m)) (.br (e.B6 !=4) (.lf (d0,false,m)) (.br (decide (e.N>1)) (.lf (d0,false,m)) (let E4:=({Blocks:=d0.Blocks,C0:=d0.C0,Frame:=d0.Frame,C1:=2,D8:=0,B7:=0,B3:=0,C3:=[]}:Q0f);let E5:=({Blocks:=d0.Blocks,C0:=d0.C0,Frame:=d0.Frame,C1:=3,D8:=0,B7:=0,B3:=0,C3:=[]}:Q0f);let T2:Tree ((Q0f×Bool×(List Int))):= .br (e.N==1) (.lf (E4,true,m)) (.lf (E5,true,m));let E6:=decide ((e.C8.length:Int)>(0:Int)); .br (e.N==1) (let T1:Tree ((Q0f×Bool×(List Int))):= .br (d0.D8==1) (.an (Qnd m (wrap i64 d0.B3) e.C8) (.lv (Qld m (wrap i64 d0.B3) e.C8) λ(x1:List Int)=> .br (e.N==1) (.lf (E4,true,x1)) (.lf (E5,true,x1)))) T2;let T3:Tree ((Q0f×Bool×(List Int))):= .br (!d0.D8==1) (.br E6 (.lf (d0,false,m)) T1) T1; .br (d0.D8==1) (.br ((e.C8.length:Int) !=(128:Int)) (.lf (d0,false,m)) (.lv (Q27 m d0.B3) λ(x0:Bool)=> .br (!x0) (.lf (d0,false,m)) T3)) T3) (.br E6 (.lf (d0,false,m)) T2))))
def Q8b(d0:Q0f)(m:(List Int))(e:Q0a):(Q0f×Bool×(List Int)):=(Q6h d0 m e).m
abbrev Qix(d0:Q0f)(m:(List Int))(e:Q0a):Prop:=(Q6h d0 m e).p
def Zbm:Q0d:=mkP 223 [false,true,false] true [.agg Q0f.sig, .one (.row 0), .agg Q0a.sig] [.arr 25 1 (.ints .u32)] (λargs rows=>Qix (Q0f.of (aC args 0)) (rowL .u32 rows 0) (Q0a.of (aC args 2))) (λargs rows=>Q8b (Q0f.of (aC args 0)) (rowL .u32 rows 0) (Q0a.of (aC args 2))) (λX=> .tup [.agg (Q0f.cells (X.1)), .bool (X.2.1)]) (λX=>[⟨false,25,1, .ints .u32 (X.2.2)⟩])
theorem Qrn:Q06 pG Zbm:=Q0p drawn Q0k (.cons Qgk (.cons Qz6 (.nil))) Tryz.func223 Tryz.call223 (λargs rows=>Q6h (Q0f.of (aC args 0)) (rowL .u32 rows 0) (Q0a.of (aC args 2))) [] [] 2
def Q7(n:Q0r)(m:(List Int))(frame:(List UInt8)):Tree (Q0r×Bool×(List Int)):=
.br (!n.C6) (.lf (n,false,m)) (.br (decide ((frame.length:Int)<(1:Int))) (.lf (n,false,m)) (.br (decide ((frame.length:Int)>(128:Int))) (.lf (n,false,m)) (.lv (Q27 m n.B9) λ(x0:Bool)=> .br (!x0) (.lf (n,false,m)) (.an (Qnd m (wrap i64 n.B9) frame) (.lv (Qld m (wrap i64 n.B9) frame) λ(x1:List Int)=> .lf ({Frame:=n.Frame,E0:=n.E0,C6:=false,B9:=0,B8:=true,F1:=wrap u32 (frame.length:Int)},true,x1))))))
def Q8h(n:Q0r)(m:(List Int))(frame:(List UInt8)):(Q0r×Bool×(List Int)):=(Q7 n m frame).m
abbrev Qjp(n:Q0r)(m:(List Int))(frame:(List UInt8)):Prop:=(Q7 n m frame).p
def Zb5:Q0d:=mkP 224 [false,true,false] true [.agg Q0r.sig, .one (.row 0), .one (.str)] [.arr 25 1 (.ints .u32)] (λargs rows=>Qjp (Q0r.of (aC args 0)) (rowL .u32 rows 0) (argS args 2)) (λargs rows=>Q8h (Q0r.of (aC args 0)) (rowL .u32 rows 0) (argS args 2)) (λX=> .tup [.agg (Q0r.cells (X.1)), .bool (X.2.1)]) (λX=>[⟨false,25,1, .ints .u32 (X.2.2)⟩])
theorem Qro:Q06 pG Zb5:=Q0p drawn Q0k (.cons Qgk (.cons Qz6 (.nil))) Tryz.func224 Tryz.call224 (λargs rows=>Q7 (Q0r.of (aC args 0)) (rowL .u32 rows 0) (argS args 2)) [] [] 2
def Q4l(m:Q00)(e:Q0a):Tree (Bool×Q00):=
.br m.A9 (.lf (false,m)) (let T1:Tree ((Bool×Q00)):= .br (e.B6==4) (.an (Qix m.B1 m.Mem e) (.lv (Q8b m.B1 m.Mem e) λ(x2:Q0f×Bool×List Int)=> .lf (x2.2.1,{B2:=m.B2,Mem:=x2.2.2,A4:=m.A4,B0:=m.B0,B1:=x2.1,C4:=m.C4,A2:=m.A2,A1:=m.A1,A7:=m.A7,A9:=m.A9}))) (let T3:Tree ((Bool×Q00)):= .br (e.B6==6) (.br (decide (e.C8=[])) (.lf (true,{B2:=m.B2,Mem:=m.Mem,A4:=m.A4,B0:=m.B0,B1:=m.B1,C4:=m.C4,A2:={D0:=e.N,C2:=m.A2.C2},A1:=m.A1,A7:=m.A7,A9:=m.A9})) (.lf (false,m))) (.lf (false,m)); .br (e.B6==5) (.br (e.N==0) (.an (Qjp m.C4 m.Mem e.C8) (.lv (Q8h m.C4 m.Mem e.C8) λ(x3:Q0r×Bool×List Int)=> .lf (x3.2.1,{B2:=m.B2,Mem:=x3.2.2,A4:=m.A4,B0:=m.B0,B1:=m.B1,C4:=x3.1,A2:=m.A2,A1:=m.A1,A7:=m.A7,A9:=m.A9}))) T3) T3);let T2:Tree ((Bool×Q00)):= .br (e.B6==3) (.br (decide (e.N<=255)) (.br (decide (e.C8=[])) (.an (Qne m.A4 (wrap u8 e.N)) (.lv (Qlf m.A4 (wrap u8 e.N)) λ(x1:Q0c×Bool)=> .lf (x1.2,{B2:=m.B2,Mem:=m.Mem,A4:=x1.1,B0:=m.B0,B1:=m.B1,C4:=m.C4,A2:=m.A2,A1:=m.A1,A7:=m.A7,A9:=m.A9}))) T1) T1) T1; .br (e.B6==2) (.br (e.N==0) (.br (decide (e.C8=[])) (.lv (Q70 m.B0) λ(x0:Q0i×Bool)=> .lf (x0.2,{B2:=m.B2,Mem:=m.Mem,A4:=m.A4,B0:=x0.1,B1:=m.B1,C4:=m.C4,A2:=m.A2,A1:=m.A1,A7:=m.A7,A9:=m.A9})) T2) T2) T2)
def Q0q(m:Q00)(e:Q0a):(Bool×Q00):=(Q4l m e).m
abbrev Qri(m:Q00)(e:Q0a):Prop:=(Q4l m e).p
def Zf4:Q0d:=mkP 161 [true,false] true [.ptr 0, .agg Q0a.sig] [.box 43 49 (Q00.sigW (.row 1)), .arr 25 1 (.ints .u32)] (λargs rows=>Qri (Q00.ofW (rows.getD 0 default).cs (rowL .u32 rows 1)) (Q0a.of (aC args 1))) (λargs rows=>Q0q (Q00.ofW (rows.getD 0 default).cs (rowL .u32 rows 1)) (Q0a.of (aC args 1))) (λX=> .bool (X.1)) (λX=>[⟨true,43,49, .gen [(Q00.cellsW (X.2) (.all 1))]⟩,⟨false,25,1, .ints .u32 (X.2).Mem⟩])
theorem Zab:Q06 pG Zf4:=Q0p drawn Q0k (.cons Qzk (.cons Qy7 (.cons Qrn (.cons Qro (.nil))))) Tryz.func161 Tryz.call161 (λargs rows=>Q4l (Q00.ofW (rows.getD 0 default).cs (rowL .u32 rows 1)) (Q0a.of (aC args 1))) [.row 25 1 (.ints .u32)] [] 2
def Q8t(m:Q01)(e:Q0a):Tree (Bool×Q01):=
.br m.A0.A9 (.lf (false,m)) (let T1:Tree ((Bool×Q01)):= .br (e.B6==4) (.an (Qix m.A0.B1 m.A0.Mem e) (.lv (Q8b m.A0.B1 m.A0.Mem e) λ(x2:Q0f×Bool×List Int)=> .lf (x2.2.1,{A0:={B2:=m.A0.B2,Mem:=x2.2.2,A4:=m.A0.A4,B0:=m.A0.B0,B1:=x2.1,C4:=m.A0.C4,A2:=m.A0.A2,A1:=m.A0.A1,A7:=m.A0.A7,A9:=m.A0.A9},A3:=m.A3,B4:=m.B4,A6:=m.A6}))) (let T3:Tree ((Bool×Q01)):= .br (e.B6==6) (.br (decide (e.C8=[])) (.lf (true,{A0:={B2:=m.A0.B2,Mem:=m.A0.Mem,A4:=m.A0.A4,B0:=m.A0.B0,B1:=m.A0.B1,C4:=m.A0.C4,A2:={D0:=e.N,C2:=m.A0.A2.C2},A1:=m.A0.A1,A7:=m.A0.A7,A9:=m.A0.A9},A3:=m.A3,B4:=m.B4,A6:=m.A6})) (.lf (false,m))) (.lf (false,m)); .br (e.B6==5) (.br (e.N==0) (.an (Qjp m.A0.C4 m.A0.Mem e.C8) (.lv (Q8h m.A0.C4 m.A0.Mem e.C8) λ(x3:Q0r×Bool×List Int)=> .lf (x3.2.1,{A0:={B2:=m.A0.B2,Mem:=x3.2.2,A4:=m.A0.A4,B0:=m.A0.B0,B1:=m.A0.B1,C4:=x3.1,A2:=m.A0.A2,A1:=m.A0.A1,A7:=m.A0.A7,A9:=m.A0.A9},A3:=m.A3,B4:=m.B4,A6:=m.A6}))) T3) T3);let T2:Tree ((Bool×Q01)):= .br (e.B6==3) (.br (decide (e.N<=255)) (.br (decide (e.C8=[])) (.an (Qne m.A0.A4 (wrap u8 e.N)) (.lv (Qlf m.A0.A4 (wrap u8 e.N)) λ(x1:Q0c×Bool)=> .lf (x1.2,{A0:={B2:=m.A0.B2,Mem:=m.A0.Mem,A4:=x1.1,B0:=m.A0.B0,B1:=m.A0.B1,C4:=m.A0.C4,A2:=m.A0.A2,A1:=m.A0.A1,A7:=m.A0.A7,A9:=m.A0.A9},A3:=m.A3,B4:=m.B4,A6:=m.A6}))) T1) T1) T1; .br (e.B6==2) (.br (e.N==0) (.br (decide (e.C8=[])) (.lv (Q70 m.A0.B0) λ(x0:Q0i×Bool)=> .lf (x0.2,{A0:={B2:=m.A0.B2,Mem:=m.A0.Mem,A4:=m.A0.A4,B0:=x0.1,B1:=m.A0.B1,C4:=m.A0.C4,A2:=m.A0.A2,A1:=m.A0.A1,A7:=m.A0.A7,A9:=m.A0.A9},A3:=m.A3,B4:=m.B4,A6:=m.A6})) T2) T2) T2)
def Qkb(m:Q01)(e:Q0a):(Bool×Q01):=(Q8t m e).m
abbrev Qnx(m:Q01)(e:Q0a):Prop:=(Q8t m e).p
def Z5t:Q0d:=mkP 161 [true,false] true [.ptr 0, .agg Q0a.sig] [.box 96 52 (Q01.sigW (.row 1) (.row 2) (.row 3)), .arr 25 1 (.ints .u32), .arr 126 4 (.recs .apiEntry), .arr 66 3 (.recs .apiEvent)] (λargs rows=>Qnx (Q01.ofW (rows.getD 0 default).cs (rowL .u32 rows 1) (rowR .apiEntry rows 2) (rowR .apiEvent rows 3)) (Q0a.of (aC args 1))) (λargs rows=>Qkb (Q01.ofW (rows.getD 0 default).cs (rowL .u32 rows 1) (rowR .apiEntry rows 2) (rowR .apiEvent rows 3)) (Q0a.of (aC args 1))) (λX=> .bool (X.1)) (λX=>[⟨true,96,52, .gen [(Q01.cellsW (X.2) (.all 1) (.all 2) (.all 3))]⟩,⟨false,25,1, .ints .u32 (X.2).A0.Mem⟩,⟨false,126,4, .recs .apiEntry (X.2).B4⟩,⟨false,66,3, .recs .apiEvent (X.2).A6⟩])
theorem Z1k:Q06 pG Z5t:=Q0p drawn Q0k (.cons Qzk (.cons Qy7 (.cons Qrn (.cons Qro (.nil))))) Tryz.func161 Tryz.call161 (λargs rows=>Q8t (Q01.ofW (rows.getD 0 default).cs (rowL .u32 rows 1) (rowR .apiEntry rows 2) (rowR .apiEvent rows 3)) (Q0a.of (aC args 1))) [.row 25 1 (.ints .u32), .row 126 4 (.recs .apiEntry), .row 66 3 (.recs .apiEvent)] [] 2
def Q7m(m:Q01)(e:Q0a):Tree (Bool×Q01):=
.an (Qnx m e) (.lv (Qkb m e) λ(x0:Bool×Q01)=> .lf (x0.1,x0.2))
def Qhm(m:Q01)(e:Q0a):(Bool×Q01):=(Q7m m e).m
abbrev Qlw(m:Q01)(e:Q0a):Prop:=(Q7m m e).p
def Z4:Q0d:=mkP 159 [true,false] true [.ptr 0, .agg Q0a.sig] [.box 96 52 (Q01.sigW (.row 1) (.row 2) (.row 3)), .arr 25 1 (.ints .u32), .arr 126 4 (.recs .apiEntry), .arr 66 3 (.recs .apiEvent)] (λargs rows=>Qlw (Q01.ofW (rows.getD 0 default).cs (rowL .u32 rows 1) (rowR .apiEntry rows 2) (rowR .apiEvent rows 3)) (Q0a.of (aC args 1))) (λargs rows=>Qhm (Q01.ofW (rows.getD 0 default).cs (rowL .u32 rows 1) (rowR .apiEntry rows 2) (rowR .apiEvent rows 3)) (Q0a.of (aC args 1))) (λX=> .bool (X.1)) (λX=>[⟨true,96,52, .gen [(Q01.cellsW (X.2) (.all 1) (.all 2) (.all 3))]⟩,⟨false,25,1, .ints .u32 (X.2).A0.Mem⟩,⟨false,126,4, .recs .apiEntry (X.2).B4⟩,⟨false,66,3, .recs .apiEvent (X.2).A6⟩])
theorem Qzy:Q06 pG Z4:=Q0p drawn Q0k (.cons Z1k (.nil)) Tryz.func159 Tryz.call159 (λargs rows=>Q7m (Q01.ofW (rows.getD 0 default).cs (rowL .u32 rows 1) (rowR .apiEntry rows 2) (rowR .apiEvent rows 3)) (Q0a.of (aC args 1))) [.row 25 1 (.ints .u32), .row 126 4 (.recs .apiEntry), .row 66 3 (.recs .apiEvent)] [] 2
def Qab(r:Q01)(e:Q0a):Tree Q01:=
.an (Qlw r e) (.lv (Qhm r e) λ(x0:Bool×Q01)=> .br x0.1 (.cn (decide (40*(x0.2.B4.length+1)<=140737488355328)) (.lf ({A0:=x0.2.A0,A3:=x0.2.A3,B4:=x0.2.B4++[{At:=x0.2.A0.A1,C5:=e}],A6:=x0.2.A6}))) (.lf x0.2))
def Qim(r:Q01)(e:Q0a):Q01:=(Qab r e).m
abbrev Qj6(r:Q01)(e:Q0a):Prop:=(Qab r e).p
def Zcx:Q0d:=mkKP 1 213 [true,false] [.ptr 0, .agg Q0a.sig] [.box 96 52 (Q01.sigW (.row 1) (.row 2) (.row 3)), .arr 25 1 (.ints .u32), .arr 126 4 (.recs .apiEntry), .arr 66 3 (.recs .apiEvent)] (λargs rows=>Qj6 (Q01.ofW (rows.getD 0 default).cs (rowL .u32 rows 1) (rowR .apiEntry rows 2) (rowR .apiEvent rows 3)) (Q0a.of (aC args 1))) (λargs rows=>Qim (Q01.ofW (rows.getD 0 default).cs (rowL .u32 rows 1) (rowR .apiEntry rows 2) (rowR .apiEvent rows 3)) (Q0a.of (aC args 1))) (λX=> .tup []) (λX=>[⟨true,96,52, .gen [(Q01.cellsW X (.all 1) (.all 2) (.all 3))]⟩,⟨false,25,1, .ints .u32 X.A0.Mem⟩,⟨false,126,4, .recs .apiEntry X.B4⟩,⟨false,66,3, .recs .apiEvent X.A6⟩])
theorem Z5n:Q06 pG Zcx:=yz drawn Q0k (.cons Qzy (.nil)) Tryz.func213 Tryz.call213 (λargs rows=>Qab (Q01.ofW (rows.getD 0 default).cs (rowL .u32 rows 1) (rowR .apiEntry rows 2) (rowR .apiEvent rows 3)) (Q0a.of (aC args 1))) [.row 25 1 (.ints .u32), .row 126 4 (.recs .apiEntry), .row 66 3 (.recs .apiEvent)] [] 2 (λ_ _ _=>by kernel_rfl) (λ_ _=>rfl) (λ_ _ h=>h)
def Qig(is:Bool)(n:Int):Tree Int:=
.br is (.cn (decide (0<=wrap u64 n)) (.lf (ishl u32 1 (wrap u64 n)))) (.lf 0)
def Q9u(is:Bool)(n:Int):Int:=(Qig is n).m
abbrev Qah(is:Bool)(n:Int):Prop:=(Qig is n).p
def Zi4:Q0d:=mkP 104 [] true [.one (.bool), .one (.int .i64)] [] (λargs rows=>Qah (argB args 0) (argI args 1)) (λargs rows=>Q9u (argB args 0) (argI args 1)) (λX=> .int .u32 X) (λX=>[])
theorem Zg4:Q06 pG Zi4:=Q0p drawn Q0k (.nil) Tryz.func104 Tryz.call104 (λargs rows=>Qig (argB args 0) (argI args 1)) [] [] 2
def Qjh(t:Q0i):Tree Bool:=
.lf t.D5
def Qap(t:Q0i):Bool:=(Qjh t).m
def Qsk:Q0d:=mkR 105 [] true [.agg Q0i.sig] [] (λargs rows=>Qap (Q0i.of (aC args 0))) (λX=> .bool X) (λX=>[])
theorem Qqx:Q06 pG Qsk:=Q11 drawn Q0k (.nil) Tryz.func105 Tryz.call105 (λargs rows=>Qjh (Q0i.of (aC args 0))) [] [] 2
def Qg8(c:Q0c):Tree Bool:=
.lf (decide ((c.D3.length:Int)>(0:Int)))
def Q5v(c:Q0c):Bool:=(Qg8 c).m
def Qop:Q0d:=mkR 106 [] true [.agg Q0c.sig] [] (λargs rows=>Q5v (Q0c.of (aC args 0))) (λX=> .bool X) (λX=>[])
theorem Qo4:Q06 pG Qop:=Q11 drawn Q0k (.nil) Tryz.func106 Tryz.call106 (λargs rows=>Qg8 (Q0c.of (aC args 0))) [] [] 2
def Qkp(d0:Q0f):Tree Bool:=
.br (d0.C1==2) (.lf true) (.lf (d0.C1==3))
def Qc5(d0:Q0f):Bool:=(Qkp d0).m
def Qtr:Q0d:=mkR 107 [] true [.agg Q0f.sig] [] (λargs rows=>Qc5 (Q0f.of (aC args 0))) (λX=> .bool X) (λX=>[])
theorem Qsm:Q06 pG Qtr:=Q11 drawn Q0k (.nil) Tryz.func107 Tryz.call107 (λargs rows=>Qkp (Q0f.of (aC args 0))) [] [] 2
def Qm9(n:Q0r):Tree Bool:=
.lf n.B8
def Qdk(n:Q0r):Bool:=(Qm9 n).m
def Qxw:Q0d:=mkR 108 [] true [.agg Q0r.sig] [] (λargs rows=>Qdk (Q0r.of (aC args 0))) (λX=> .bool X) (λX=>[])
theorem Qt4:Q06 pG Qxw:=Q11 drawn Q0k (.nil) Tryz.func108 Tryz.call108 (λargs rows=>Qm9 (Q0r.of (aC args 0))) [] [] 2
def Qp8(b:Q09)(z:(Int)×(Int)):Prop:=0<=z.2/\z.2<=32
def Qgu(b:Q09)(z:(Int)×(Int)):Nat:=(32-z.2).toNat
def Qk9(b:Q09):Tree Int:=
.lp inferInstance (Qgu b (0,0)+1) ((rZ/\rE (0:Int)/\rE (0:Int)/\True)/\(rE b.D0/\rE b.C2/\True)/\True) (0,0) λ(v0:Int×Int)=> .br (decide (v0.2<32)) (.cn (decide (0<=wrap u64 v0.2)) (.nx ((rZ/\rE ((wrap i64 (v0.1+wrap i64 (iand u32 (ishr u32 b.C2 (wrap u64 v0.2)) 1))):Int)/\rE ((wrap i64 (v0.2+1)):Int)/\True)/\(rE b.D0/\rE b.C2/\True)/\True) (Sum.inl (wrap i64 (v0.1+wrap i64 (iand u32 (ishr u32 b.C2 (wrap u64 v0.2)) 1)),wrap i64 (v0.2+1))))) (.lf (Sum.inr v0.1))
def Qfa(b:Q09):Int:=(Qk9 b).m
theorem Z67(b:Q09):(Qk9 b).p:=by
 unfold Tree.p Qk9
 repeat'(first|refine w_lp (inv:=Qp8 b) (μ:=Qgu b) ?_ (Nat.lt_succ_self _) (λ_ _=> ?_)|exact trivial|refine w_br (λ_=> ?_) (λ_=> ?_)|refine w_cn ?_ ?_|refine w_an ?_ ?_|refine w_lv (λ_ _=> ?_)|refine w_nx ?_|refine w_lf ?_|refine And.intro ?_ ?_)
 all_goals((try simp only[Qp8,Qgu]at*);exact fin0)
def Zb1:LInv:={
 α:=(Int)×(Int)
 F:=λst a=>([(1, .ptr 0 0 0),(3, .int i64 a.1),(4, .int i64 a.2)],[⟨true,40,2, .gen [[(cT st 1 0),(cT st 1 1)]]⟩])
 a0:=λst=>((lk st 3).toInt,(lk st 4).toInt)
 ex0:=λst=>[]++[(rX st 1 0)]}
def Z1o:List (Nat×LInv):=[(3,Zb1)]
def Zfk:Q0d:=mkR 177 [] true [.agg Q09.sig] [] (λargs rows=>Qfa (Q09.of (aC args 0))) (λX=> .int .i64 X) (λX=>[])
theorem Qtu:Q06 pG Zfk:=Q11 drawn Q0k (.nil) Tryz.func177 Tryz.call177 (λargs rows=>Qk9 (Q09.of (aC args 0))) [] Z1o 3 (λ_ _ _=>by kernel_rfl) (λ_ _=>rfl) (λargs rows=>Z67 (Q09.of (aC args 0))) (λ_ X=>by kernel_rfl)
def Q9v(b:Q09):Tree Bool:=
.lv (Qfa b) λ(x0:Int)=> .lf (wrap u64 x0 !=wrap u64 b.D0)
def Q3w(b:Q09):Bool:=(Q9v b).m
def Qpx:Q0d:=mkR 109 [] true [.agg Q09.sig] [] (λargs rows=>Q3w (Q09.of (aC args 0))) (λX=> .bool X) (λX=>[])
theorem Qo5:Q06 pG Qpx:=Q11 drawn Q0k (.cons Qtu (.nil)) Tryz.func109 Tryz.call109 (λargs rows=>Q9v (Q09.of (aC args 0))) [] [] 2
def Qgp(m:Q00):Tree Int:=
.lv (Qap m.B0) λ(x0:Bool)=> .an (Qah x0 0) (.lv (Q9u x0 0) λ(x1:Int)=> .lv (Q5v m.A4) λ(x2:Bool)=> .an (Qah x2 1) (.lv (Q9u x2 1) λ(x3:Int)=> .lv (Qc5 m.B1) λ(x4:Bool)=> .an (Qah x4 2) (.lv (Q9u x4 2) λ(x5:Int)=> .lv (Qdk m.C4) λ(x6:Bool)=> .an (Qah x6 3) (.lv (Q9u x6 3) λ(x7:Int)=> .lv (Q3w m.A2) λ(x8:Bool)=> .an (Qah x8 4) (.lv (Q9u x8 4) λ(x9:Int)=> .lf (ior u32 (ior u32 (ior u32 (ior u32 x1 x3) x5) x7) x9))))))
def Qhy(m:Q00):Int:=(Qgp m).m
abbrev Qrk(m:Q00):Prop:=(Qgp m).p
def Zhh:Q0d:=mkP 27 [] true [.agg Q00.sig] [] (λargs rows=>Qrk (Q00.of (aC args 0))) (λargs rows=>Qhy (Q00.of (aC args 0))) (λX=> .int .u32 X) (λX=>[])
theorem Zcl:Q06 pG Zhh:=Q0p drawn Q0k (.cons Zg4 (.cons Qqx (.cons Qo4 (.cons Qsm (.cons Qt4 (.cons Qo5 (.nil))))))) Tryz.func27 Tryz.call27 (λargs rows=>Qgp (Q00.of (aC args 0))) [] [] 2
def Q8s(m:Q00):Tree Int:=
.an (Qrk m) (.lv (Qhy m) λ(x0:Int)=> .lf (iand u32 x0 m.B2.B5.a7))
def Q33(m:Q00):Int:=(Q8s m).m
abbrev Qgy(m:Q00):Prop:=(Q8s m).p
def Z65:Q0d:=mkP 111 [] true [.agg Q00.sig] [] (λargs rows=>Qgy (Q00.of (aC args 0))) (λargs rows=>Q33 (Q00.of (aC args 0))) (λX=> .int .u32 X) (λX=>[])
theorem Qpj:Q06 pG Z65:=Q0p drawn Q0k (.cons Zcl (.nil)) Tryz.func111 Tryz.call111 (λargs rows=>Q8s (Q00.of (aC args 0))) [] [] 2
def Qer(m:Q00):Tree Bool:=
.br m.A7 (.an (Qgy m) (.lv (Q33 m) λ(x0:Int)=> .lf (x0==0))) (.lf false)
def Qds(m:Q00):Bool:=(Qer m).m
abbrev Qmg(m:Q00):Prop:=(Qer m).p
def Zjz:Q0d:=mkP 29 [] true [.agg Q00.sig] [] (λargs rows=>Qmg (Q00.of (aC args 0))) (λargs rows=>Qds (Q00.of (aC args 0))) (λX=> .bool X) (λX=>[])
theorem Qz8:Q06 pG Zjz:=Q0p drawn Q0k (.cons Qpj (.nil)) Tryz.func29 Tryz.call29 (λargs rows=>Qer (Q00.of (aC args 0))) [] [] 2
def Q7y(m:Q00):Tree Bool:=
.lv (Q6r m) λ(x0:Bool)=> .br (!x0) (.lf true) (.br m.A9 (.lf true) (.an (Qmg m) (.lv (Qds m) λ(x1:Bool)=> .br x1 (.lf true) (.lf (decide (m.A1>=1152921504606846976))))))
def Q0v(m:Q00):Bool:=(Q7y m).m
abbrev Qfj(m:Q00):Prop:=(Q7y m).p
def Zev:Q0d:=mkP 115 [] true [.agg Q00.sig] [] (λargs rows=>Qfj (Q00.of (aC args 0))) (λargs rows=>Q0v (Q00.of (aC args 0))) (λX=> .bool X) (λX=>[])
theorem Qtc:Q06 pG Zev:=Q0p drawn Q0k (.cons Qs2 (.cons Qz8 (.nil))) Tryz.func115 Tryz.call115 (λargs rows=>Q7y (Q00.of (aC args 0))) [] [] 2
end
noncomputable section
def Z9g(b:Bool):Tree Int:=
.br b (.lf 1) (.lf 0)
def Qc2(b:Bool):Int:=(Z9g b).m
def Zo2:Q0d:=mkR 281 [] true [.one (.bool)] [] (λargs rows=>Qc2 (argB args 0)) (λX=> .int .u32 X) (λX=>[])
theorem Qs0:Q06 pG Zo2:=Q11 drawn Q0k (.nil) Tryz.func281 Tryz.call281 (λargs rows=>Z9g (argB args 0)) [] [] 2
def Qjy(c:Q05)(cause:Int)(bad:Int):Tree Q05:=
.lv (Qc2 (iand u32 c.B5.a0 (1:Int) !=(0:Int))) λ(x0:Int)=> .lv (Qc2 (iand u32 c.B5.a0 (2:Int) !=(0:Int))) λ(x1:Int)=> .lf ({X:=c.X,Pc:=c.B5.a1,B5:={a0:=ior u32 (Qhu u32 (ior u32 (ior u32 (Qhu u32 c.B5.a0 24) (wrap u32 (8*x0))) (wrap u32 (16*x1))) 2) 1,a1:=c.B5.a1,a2:=c.Pc,a3:=wrap u32 cause,a4:=bad,a5:=c.B5.a5,a6:=c.B5.a6,a7:=c.B5.a7}})
def Q2w(c:Q05)(cause:Int)(bad:Int):Q05:=(Qjy c cause bad).m
def Zjv:Q0d:=mkR 244 [] true [.agg Q05.sig, .one (.int .i64), .one (.int .u32)] [] (λargs rows=>Q2w (Q05.of (aC args 0)) (argI args 1) (argI args 2)) (λX=> .agg (Q05.cells X)) (λX=>[])
theorem Qkn:Q06 pG Zjv:=Q11 drawn Q0k (.cons Qs0 (.nil)) Tryz.func244 Tryz.call244 (λargs rows=>Qjy (Q05.of (aC args 0)) (argI args 1) (argI args 2)) [] [] 2
def Q8f(m:(List Int))(addr:Int)(size:Int):Tree Bool:=
let T1:Tree (Bool):= .cn (decide (wrap u32 size≠0)) (.br (Int.tmod addr (wrap u32 size)==0) (.lv (Q40 m) λ(x0:Int)=> .lf (decide (addr<wrap u32 (wrap i64 (128*x0))))) (.lf false)); .br (size !=1) (.br (size !=4) (.lf false) T1) T1
def Q24(m:(List Int))(addr:Int)(size:Int):Bool:=(Q8f m addr size).m
abbrev Qdl(m:(List Int))(addr:Int)(size:Int):Prop:=(Q8f m addr size).p
def Zat:Q0d:=mkP 245 [] true [.one (.ints .u32), .one (.int .u32), .one (.int .i64)] [] (λargs rows=>Qdl (argL .u32 args 0) (argI args 1) (argI args 2)) (λargs rows=>Q24 (argL .u32 args 0) (argI args 1) (argI args 2)) (λX=> .bool X) (λX=>[])
theorem Qks:Q06 pG Zat:=Q0p drawn Q0k (.cons Qdj (.nil)) Tryz.func245 Tryz.call245 (λargs rows=>Q8f (argL .u32 args 0) (argI args 1) (argI args 2)) [] [] 2
def Q3t(m:(List Int))(addr:Int)(size:Int):Tree (Int×Bool):=
.an (Qdl m addr size) (.lv (Q24 m addr size) λ(x0:Bool)=> .br (!x0) (.lf (0,false)) (.cn (Nat.beq 1 1&&Nat.blt 0 1&&decide (0<=wrap u32 (Int.tdiv addr 4)/\wrap u32 (Int.tdiv addr 4)<(m.length:Int))) (.br (size==1) (.cn (decide (0<=wrap u32 (8*Int.tmod addr 4))) (.lf (iand u32 (ishr u32 (m.getD (Int.toNat (wrap u32 (Int.tdiv addr 4))) 0) (wrap u32 (8*Int.tmod addr 4))) 255,true))) (.lf (m.getD (Int.toNat (wrap u32 (Int.tdiv addr 4))) 0,true)))))
def Q1e(m:(List Int))(addr:Int)(size:Int):(Int×Bool):=(Q3t m addr size).m
abbrev Qde(m:(List Int))(addr:Int)(size:Int):Prop:=(Q3t m addr size).p
def Zjk:Q0d:=mkP 187 [] true [.one (.ints .u32), .one (.int .u32), .one (.int .i64)] [] (λargs rows=>Qde (argL .u32 args 0) (argI args 1) (argI args 2)) (λargs rows=>Q1e (argL .u32 args 0) (argI args 1) (argI args 2)) (λX=> .tup [.int .u32 (X.1), .bool (X.2)]) (λX=>[])
theorem Qpw:Q06 pG Zjk:=Q0p drawn Q0k (.cons Qks (.nil)) Tryz.func187 Tryz.call187 (λargs rows=>Q3t (argL .u32 args 0) (argI args 1) (argI args 2)) [] [] 2
def Q6o(w:Int):Tree (Q0l×Bool):=
.lv (Q2d (wrap i64 (ishr u32 w 24))) λ(x0:Int)=>let E5:=({Op:=0,A:=0,B:=0,C:=0,Imm:=0}:Q0l); .br (x0==0) (.lf (E5,false)) (.br (x0==2) (let E3:=({Op:=wrap i64 (ishr u32 w 24),A:=wrap i64 (iand u32 (ishr u32 w 20) 15),B:=wrap i64 (iand u32 (ishr u32 w 16) 15),C:=wrap i64 (iand u32 w 65535),Imm:=0}:Q0l); .lv (Q7w E3) λ(x1:Bool)=> .br (!x1) (.lf (E5,false)) (.lf (E3,true))) (let T1:Tree ((Q0l×Bool)):=let E2:=({Op:=wrap i64 (ishr u32 w 24),A:=wrap i64 (iand u32 (ishr u32 w 20) 15),B:=wrap i64 (iand u32 (ishr u32 w 16) 15),C:=0,Imm:=wrap i32 (wrap i16 (iand u32 w 65535))}:Q0l); .lv (Q7w E2) λ(x2:Bool)=> .br (!x2) (.lf (E5,false)) (.lf (E2,true)); .br (x0==3) T1 (.br (x0==7) T1 (let E4:=({Op:=wrap i64 (ishr u32 w 24),A:=wrap i64 (iand u32 (ishr u32 w 20) 15),B:=wrap i64 (iand u32 (ishr u32 w 16) 15),C:=0,Imm:=wrap i32 (iand u32 w 65535)}:Q0l); .lv (Q7w E4) λ(x4:Bool)=> .br (!x4) (.lf (E5,false)) (.lf (E4,true))))))
def Q20(w:Int):(Q0l×Bool):=(Q6o w).m
def Zbp:Q0d:=mkR 188 [] true [.one (.int .u32)] [] (λargs rows=>Q20 (argI args 0)) (λX=> .tup [.agg (Q0l.cells (X.1)), .bool (X.2)]) (λX=>[])
theorem Qra:Q06 pG Zbp:=Q11 drawn Q0k (.cons Qfw (.cons Quq (.nil))) Tryz.func188 Tryz.call188 (λargs rows=>Q6o (argI args 0)) [] [] 2
def Qze(access:Int):Tree Bool:=
.br (decide (access>=1)) (.lf (decide (access<=3))) (.lf false)
def Qes(access:Int):Bool:=(Qze access).m
def Zgp:Q0d:=mkR 292 [] true [.one (.int .i64)] [] (λargs rows=>Qes (argI args 0)) (λX=> .bool X) (λX=>[])
theorem Qtk:Q06 pG Zgp:=Q11 drawn Q0k (.nil) Tryz.func292 Tryz.call292 (λargs rows=>Qze (argI args 0)) [] [] 2
def Qzd(c:Q05):Tree Bool:=
.lf (iand u32 c.B5.a0 (5:Int)==(4:Int))
def Qm4(c:Q05):Bool:=(Qzd c).m
def Zeo:Q0d:=mkR 293 [] true [.agg Q05.sig] [] (λargs rows=>Qm4 (Q05.of (aC args 0))) (λX=> .bool X) (λX=>[])
theorem Za3:Q06 pG Zeo:=Q11 drawn Q0k (.nil) Tryz.func293 Tryz.call293 (λargs rows=>Qzd (Q05.of (aC args 0))) [] [] 2
def Q8w(access:Int):Tree Int:=
.br (access==1) (.lf 4) (.br (access==3) (.lf 6) (.lf 5))
def Q22(access:Int):Int:=(Q8w access).m
def Z64:Q0d:=mkR 294 [] true [.one (.int .i64)] [] (λargs rows=>Q22 (argI args 0)) (λX=> .int .i64 X) (λX=>[])
theorem Qoe:Q06 pG Z64:=Q11 drawn Q0k (.nil) Tryz.func294 Tryz.call294 (λargs rows=>Q8w (argI args 0)) [] [] 2
def Qa(m:(List Int))(root:Int)(va:Int)(access:Int):Tree Q19:=
.lv (Q22 access) λ(x0:Int)=> .lv (Q40 m) λ(x1:Int)=> .lv (Qes access) λ(x2:Bool)=>let E4:=({Addr:=0,F2:=0,F0:=x0}:Q19); .br (!x2) (.lf (E4)) (.br (decide (va>=4096)) (.lf (E4)) (.br (decide (root>=wrap u32 x1)) (.lf (E4)) (let E6:=wrap u32 (root*128)+wrap u32 (4*wrap u32 (Int.tdiv va 128));let E3:=Int.tdiv (wrap u32 E6) 4; .cn (Nat.beq 1 1&&Nat.blt 0 1&&decide (0<=wrap u32 E3/\wrap u32 E3<(m.length:Int))) (let E5:=m.getD (Int.toNat (wrap u32 E3)) 0; .br (iand u32 E5 (1:Int)==(0:Int)) (.lf (E4)) (let T1:Tree (Q19):= .br (decide (iand u32 (ishr u32 E5 8) 255>=wrap u32 x1)) (.lf (E4)) (.lf ({Addr:=wrap u32 (wrap u32 (iand u32 (ishr u32 E5 8) (255:Int)*(128:Int))+Int.tmod va 128),F2:=wrap u32 E6,F0:=0}));let T2:Tree (Q19):= .br (access==1) (.br (iand u32 E5 (4:Int)==(0:Int)) (.lf (E4)) T1) T1; .br (access==3) (.br (iand u32 E5 (2:Int)==(0:Int)) (.lf (E4)) T2) T2)))))
def Q71(m:(List Int))(root:Int)(va:Int)(access:Int):Q19:=(Qa m root va access).m
abbrev Qu8(m:(List Int))(root:Int)(va:Int)(access:Int):Prop:=(Qa m root va access).p
def Zj6:Q0d:=mkP 295 [] true [.one (.ints .u32), .one (.int .u32), .one (.int .u32), .one (.int .i64)] [] (λargs rows=>Qu8 (argL .u32 args 0) (argI args 1) (argI args 2) (argI args 3)) (λargs rows=>Q71 (argL .u32 args 0) (argI args 1) (argI args 2) (argI args 3)) (λX=> .agg (Q19.cells X)) (λX=>[])
theorem Zdk:Q06 pG Zj6:=Q0p drawn Q0k (.cons Qoe (.cons Qdj (.cons Qtk (.nil)))) Tryz.func295 Tryz.call295 (λargs rows=>Qa (argL .u32 args 0) (argI args 1) (argI args 2) (argI args 3)) [] [] 2
def Qet(m:(List Int))(entry:Int)(access:Int):Tree (List Int):=
.an (Qdl m entry 4) (.lv (Q24 m entry 4) λ(x0:Bool)=> .br (!x0) (.lf m) (let E3:=Nat.beq 1 1&&Nat.blt 0 1&&decide (0<=wrap u32 (Int.tdiv entry 4)/\wrap u32 (Int.tdiv entry 4)<(m.length:Int)); .cn E3 (.cn E3 (let E4:=Int.toNat (wrap u32 (Int.tdiv entry 4));let E1:=List.set m E4 (ior u32 (m.getD E4 0) 8); .br (access==3) (let E2:=Nat.beq 1 1&&Nat.blt 0 1&&decide (0<=wrap u32 (Int.tdiv entry 4)/\wrap u32 (Int.tdiv entry 4)<(↑(List.length E1):Int)); .cn E2 (.cn E2 (.lf (List.set E1 E4 (ior u32 (List.getD E1 E4 0) 16))))) (.lf E1)))))
def Qoq(m:(List Int))(entry:Int)(access:Int):(List Int):=(Qet m entry access).m
abbrev Qva(m:(List Int))(entry:Int)(access:Int):Prop:=(Qet m entry access).p
def Zi0:Q0d:=mkP 296 [true,false,false] true [.one (.row 0), .one (.int .u32), .one (.int .i64)] [.arr 25 1 (.ints .u32)] (λargs rows=>Qva (rowL .u32 rows 0) (argI args 1) (argI args 2)) (λargs rows=>Qoq (rowL .u32 rows 0) (argI args 1) (argI args 2)) (λX=> .tup []) (λX=>[⟨false,25,1, .ints .u32 X⟩])
theorem Zey:Q06 pG Zi0:=Q0p drawn Q0k (.cons Qks (.nil)) Tryz.func296 Tryz.call296 (λargs rows=>Qet (rowL .u32 rows 0) (argI args 1) (argI args 2)) [] [] 2
def Q7z(c:Q05)(m:(List Int))(va:Int)(size:Int)(access:Int):Tree (Int×Int×(List Int)):=
.lv (Qes access) λ(x0:Bool)=> .br (!x0) (.lf (0,5,m)) (let T1:Tree ((Int×Int×(List Int))):= .cn (decide (wrap u32 size≠0)) (.br (Int.tmod va (wrap u32 size) !=0) (.lf (0,3,m)) (.lv (Qm4 c) λ(x1:Bool)=> .br (!x1) (.an (Qdl m va size) (.lv (Q24 m va size) λ(x2:Bool)=> .br (!x2) (.lv (Q22 access) λ(x3:Int)=> .lf (0,x3,m)) (.lf (va,0,m)))) (.an (Qu8 m c.B5.a6 va access) (.lv (Q71 m c.B5.a6 va access) λ(x4:Q19)=> .br (x4.F0 !=0) (.lf (0,x4.F0,m)) (.an (Qva m x4.F2 access) (.lv (Qoq m x4.F2 access) λ(x5:List Int)=> .lf (x4.Addr,0,x5))))))); .br (size !=1) (.br (size !=4) (.lf (0,5,m)) T1) T1)
def Q17(c:Q05)(m:(List Int))(va:Int)(size:Int)(access:Int):(Int×Int×(List Int)):=(Q7z c m va size access).m
abbrev Q8v(c:Q05)(m:(List Int))(va:Int)(size:Int)(access:Int):Prop:=(Q7z c m va size access).p
def Zh4:Q0d:=mkP 254 [false,true,false,false,false] true [.agg Q05.sig, .one (.row 0), .one (.int .u32), .one (.int .i64), .one (.int .i64)] [.arr 25 1 (.ints .u32)] (λargs rows=>Q8v (Q05.of (aC args 0)) (rowL .u32 rows 0) (argI args 2) (argI args 3) (argI args 4)) (λargs rows=>Q17 (Q05.of (aC args 0)) (rowL .u32 rows 0) (argI args 2) (argI args 3) (argI args 4)) (λX=> .tup [.int .u32 (X.1), .int .i64 (X.2.1)]) (λX=>[⟨false,25,1, .ints .u32 (X.2.2)⟩])
theorem Qt9:Q06 pG Zh4:=Q0p drawn Q0k (.cons Qtk (.cons Za3 (.cons Qks (.cons Qoe (.cons Zdk (.cons Zey (.nil))))))) Tryz.func254 Tryz.call254 (λargs rows=>Q7z (Q05.of (aC args 0)) (rowL .u32 rows 0) (argI args 2) (argI args 3) (argI args 4)) [] [] 2
def Qlk(op:Int):Tree Bool:=
.br (decide (op>=57)) (.lf (decide (op<=64))) (.lf false)
def Q3g(op:Int):Bool:=(Qlk op).m
def Qwo:Q0d:=mkR 255 [] true [.one (.int .i64)] [] (λargs rows=>Q3g (argI args 0)) (λX=> .bool X) (λX=>[])
theorem Qt5:Q06 pG Qwo:=Q11 drawn Q0k (.nil) Tryz.func255 Tryz.call255 (λargs rows=>Qlk (argI args 0)) [] [] 2
def Qdr(c:Q05):Tree Q05:=
.lv (Qc2 (iand u32 c.B5.a0 (8:Int) !=(0:Int))) λ(x0:Int)=> .lv (Qc2 (iand u32 c.B5.a0 (16:Int) !=(0:Int))) λ(x1:Int)=> .lf ({X:=c.X,Pc:=c.B5.a2,B5:={a0:=ior u32 (ior u32 (Qhu u32 c.B5.a0 3) (wrap u32 (1*x0))) (wrap u32 (2*x1)),a1:=c.B5.a1,a2:=c.B5.a2,a3:=c.B5.a3,a4:=c.B5.a4,a5:=c.B5.a5,a6:=c.B5.a6,a7:=c.B5.a7}})
def Qia(c:Q05):Q05:=(Qdr c).m
def Zbq:Q0d:=mkR 297 [] true [.agg Q05.sig] [] (λargs rows=>Qia (Q05.of (aC args 0))) (λX=> .agg (Q05.cells X)) (λX=>[])
theorem Z78:Q06 pG Zbq:=Q11 drawn Q0k (.cons Qs0 (.nil)) Tryz.func297 Tryz.call297 (λargs rows=>Qdr (Q05.of (aC args 0))) [] [] 2
def Qf7(c:Q05)(r:Int)(v:Int):Tree Q05:=
.br (decide (r>0)) (.br (decide (r<16)) (.cn (Nat.blt 0 1&&decide (0<=r/\r<(↑16:Int))) (.lf ({X:=A16.of 0 (List.set (A16.l c.X) r.toNat v),Pc:=c.Pc,B5:=c.B5}))) (.lf c)) (.lf c)
def Q1x(c:Q05)(r:Int)(v:Int):Q05:=(Qf7 c r v).m
abbrev Q31(c:Q05)(r:Int)(v:Int):Prop:=(Qf7 c r v).p
def Zpk:Q0d:=mkP 219 [] true [.agg Q05.sig, .one (.int .i64), .one (.int .u32)] [] (λargs rows=>Q31 (Q05.of (aC args 0)) (argI args 1) (argI args 2)) (λargs rows=>Q1x (Q05.of (aC args 0)) (argI args 1) (argI args 2)) (λX=> .agg (Q05.cells X)) (λX=>[])
theorem Qfd:Q06 pG Zpk:=Q0p drawn Q0k (.nil) Tryz.func219 Tryz.call219 (λargs rows=>Qf7 (Q05.of (aC args 0)) (argI args 1) (argI args 2)) [] [] 2
def Qcy(c:Q05)(csr:Int)(v:Int):Tree Q05:=
let E4:=Nat.blt 0 1&&decide (0<=csr/\csr<(↑8:Int));let T2:Tree (Q05):= .cn E4 (.lf ({X:=c.X,Pc:=c.Pc,B5:=A8.of 0 (List.set (A8.l c.B5) csr.toNat (iand u32 v 31))})); .br (csr==0) T2 (.br (csr==7) T2 (.br (csr==6) (.cn E4 (.lf ({X:=c.X,Pc:=c.Pc,B5:=A8.of 0 (List.set (A8.l c.B5) csr.toNat (iand u32 v 255))}))) (let T3:Tree (Q05):= .cn E4 (.lf ({X:=c.X,Pc:=c.Pc,B5:=A8.of 0 (List.set (A8.l c.B5) csr.toNat (Qhu u32 v 3))})); .br (csr==1) T3 (.br (csr==2) T3 (let T1:Tree (Q05):= .cn E4 (.lf ({X:=c.X,Pc:=c.Pc,B5:=A8.of 0 (List.set (A8.l c.B5) csr.toNat v)})); .br (csr==3) T1 (.br (csr==4) T1 (.br (csr==5) T1 (.lf c))))))))
def Qi1(c:Q05)(csr:Int)(v:Int):Q05:=(Qcy c csr v).m
abbrev Qr9(c:Q05)(csr:Int)(v:Int):Prop:=(Qcy c csr v).p
def Zdw:Q0d:=mkP 298 [] true [.agg Q05.sig, .one (.int .i64), .one (.int .u32)] [] (λargs rows=>Qr9 (Q05.of (aC args 0)) (argI args 1) (argI args 2)) (λargs rows=>Qi1 (Q05.of (aC args 0)) (argI args 1) (argI args 2)) (λX=> .agg (Q05.cells X)) (λX=>[])
theorem Zc1:Q06 pG Zdw:=Q0p drawn Q0k (.nil) Tryz.func298 Tryz.call298 (λargs rows=>Qcy (Q05.of (aC args 0)) (argI args 1) (argI args 2)) [] [] 2
def Q8e(c:Q05)(i:Q0l):Tree (Q05×Q16):=
.br (i.Op==56) (.lv (Q2w c 7 0) λ(x0:Q05)=> .lf (x0,{B6:=0,D1:=0,D9:=0,Value:=0})) (.br (i.Op==57) (.lv (Qia c) λ(x1:Q05)=> .lf (x1,{B6:=0,D1:=0,D9:=0,Value:=0})) (.br (i.Op==58) (.cn (Nat.blt 0 1&&decide (0<=i.Imm/\i.Imm<(↑8:Int))) (let E3:=List.getD (A8.l c.B5) i.Imm.toNat 0; .an (Q31 c i.A E3) (.lv (Q1x c i.A E3) λ(x2:Q05)=> .lf ({X:=x2.X,Pc:=wrap u32 (x2.Pc+4),B5:=x2.B5},{B6:=0,D1:=0,D9:=0,Value:=0})))) (let E2:=Nat.blt 0 1&&decide (0<=i.A/\i.A<(↑16:Int)); .br (i.Op==59) (.cn E2 (let E4:=List.getD (A16.l c.X) i.A.toNat 0; .an (Qr9 c (wrap i64 i.Imm) E4) (.lv (Qi1 c (wrap i64 i.Imm) E4) λ(x3:Q05)=> .lf ({X:=x3.X,Pc:=wrap u32 (x3.Pc+4),B5:=x3.B5},{B6:=0,D1:=0,D9:=0,Value:=0})))) (let E1:=({X:=c.X,Pc:=wrap u32 (c.Pc+4),B5:=c.B5}:Q05); .br (i.Op==60) (.lf (E1,{B6:=1,D1:=wrap i64 i.Imm,D9:=i.A,Value:=0})) (.br (i.Op==61) (.cn E2 (.lf (E1,{B6:=2,D1:=wrap i64 i.Imm,D9:=0,Value:=List.getD (A16.l c.X) i.A.toNat 0}))) (.br (i.Op==62) (.lf (E1,{B6:=3,D1:=0,D9:=0,Value:=0})) (.br (i.Op==63) (.lf (E1,{B6:=5,D1:=0,D9:=0,Value:=0})) (.br (i.Op==64) (.lf (E1,{B6:=4,D1:=0,D9:=0,Value:=0})) (.lf (E1,{B6:=0,D1:=0,D9:=0,Value:=0}))))))))))
def Qj8(c:Q05)(i:Q0l):(Q05×Q16):=(Q8e c i).m
abbrev Qp6(c:Q05)(i:Q0l):Prop:=(Q8e c i).p
def Z9x:Q0d:=mkP 256 [] true [.agg Q05.sig, .agg Q0l.sig] [] (λargs rows=>Qp6 (Q05.of (aC args 0)) (Q0l.of (aC args 1))) (λargs rows=>Qj8 (Q05.of (aC args 0)) (Q0l.of (aC args 1))) (λX=> .tup [.agg (Q05.cells (X.1)), .agg (Q16.cells (X.2))]) (λX=>[])
theorem Z6n:Q06 pG Z9x:=Q0p drawn Q0k (.cons Qkn (.cons Z78 (.cons Qfd (.cons Zc1 (.nil))))) Tryz.func256 Tryz.call256 (λargs rows=>Q8e (Q05.of (aC args 0)) (Q0l.of (aC args 1))) [] [] 2
def Qzg(op:Int)(a:Int)(b:Int):Tree Bool:=
.br (op==40) (.lf (a==b)) (.br (op==41) (.lf (a !=b)) (.br (op==42) (.lf (decide (wrap i32 a<wrap i32 b))) (.br (op==43) (.lf (decide (wrap i32 a>=wrap i32 b))) (.br (op==44) (.lf (decide (a<b))) (.lf (decide (a>=b)))))))
def Q29(op:Int)(a:Int)(b:Int):Bool:=(Qzg op a b).m
def Zfw:Q0d:=mkR 299 [] true [.one (.int .i64), .one (.int .u32), .one (.int .u32)] [] (λargs rows=>Q29 (argI args 0) (argI args 1) (argI args 2)) (λX=> .bool X) (λX=>[])
theorem Zaz:Q06 pG Zfw:=Q11 drawn Q0k (.nil) Tryz.func299 Tryz.call299 (λargs rows=>Qzg (argI args 0) (argI args 1) (argI args 2)) [] [] 2
def Qjg(c:Q05)(i:Q0l):Tree Q05:=
.br (i.Op==48) (.an (Q31 c i.A (wrap u32 (c.Pc+4))) (.lv (Q1x c i.A (wrap u32 (c.Pc+4))) λ(x0:Q05)=> .lf ({X:=x0.X,Pc:=wrap u32 (c.Pc+wrap u32 (4*wrap u32 i.Imm)),B5:=x0.B5}))) (let E1:=Nat.blt 0 1&&decide (0<=i.B/\i.B<(↑16:Int)); .br (i.Op==49) (.cn E1 (.an (Q31 c i.A (wrap u32 (c.Pc+4))) (.lv (Q1x c i.A (wrap u32 (c.Pc+4))) λ(x1:Q05)=> .lf ({X:=x1.X,Pc:=wrap u32 (List.getD (A16.l c.X) i.B.toNat 0+wrap u32 i.Imm),B5:=x1.B5})))) (.cn (Nat.blt 0 1&&decide (0<=i.A/\i.A<(↑16:Int))) (.cn E1 (.lv (Q29 i.Op (List.getD (A16.l c.X) i.A.toNat 0) (List.getD (A16.l c.X) i.B.toNat 0)) λ(x2:Bool)=> .br x2 (.lf ({X:=c.X,Pc:=wrap u32 (c.Pc+wrap u32 (4*wrap u32 i.Imm)),B5:=c.B5})) (.lf ({X:=c.X,Pc:=wrap u32 (c.Pc+4),B5:=c.B5}))))))
def Z5e(c:Q05)(i:Q0l):Q05:=(Qjg c i).m
abbrev Quj(c:Q05)(i:Q0l):Prop:=(Qjg c i).p
def Zj7:Q0d:=mkP 257 [] true [.agg Q05.sig, .agg Q0l.sig] [] (λargs rows=>Quj (Q05.of (aC args 0)) (Q0l.of (aC args 1))) (λargs rows=>Z5e (Q05.of (aC args 0)) (Q0l.of (aC args 1))) (λX=> .agg (Q05.cells X)) (λX=>[])
theorem Zen:Q06 pG Zj7:=Q0p drawn Q0k (.cons Qfd (.cons Zaz (.nil))) Tryz.func257 Tryz.call257 (λargs rows=>Qjg (Q05.of (aC args 0)) (Q0l.of (aC args 1))) [] [] 2
def Q7p(x:Int)(n:Int):Tree Int:=
.br (decide (n<1)) (.lf 0) (.br (decide (n>=32)) (.lf x) (.cn (decide (0<=wrap u64 n)) (.cn (decide (0<=wrap u64 (wrap i64 (n-1)))) (let E1:=iand u32 x (wrap u32 (ishl u32 1 (wrap u64 n)-1)); .br (ishr u32 E1 (wrap u64 (wrap i64 (n-1)))==1) (.cn (decide (0<=wrap u64 n)) (.lf (ior u32 E1 (ishl u32 4294967295 (wrap u64 n))))) (.lf E1)))))
def Q3d(x:Int)(n:Int):Int:=(Q7p x n).m
abbrev Qcm(x:Int)(n:Int):Prop:=(Q7p x n).p
def Qxx:Q0d:=mkP 301 [] true [.one (.int .u32), .one (.int .i64)] [] (λargs rows=>Qcm (argI args 0) (argI args 1)) (λargs rows=>Q3d (argI args 0) (argI args 1)) (λX=> .int .u32 X) (λX=>[])
theorem Qvi:Q06 pG Qxx:=Q0p drawn Q0k (.nil) Tryz.func301 Tryz.call301 (λargs rows=>Q7p (argI args 0) (argI args 1)) [] [] 2
def Qa4(c:Q05)(m:(List Int))(i:Q0l):Tree (Q05×(List Int)):=
.cn (Nat.blt 0 1&&decide (0<=i.B/\i.B<(↑16:Int))) (let E4:=wrap u32 (List.getD (A16.l c.X) i.B.toNat 0+wrap u32 i.Imm);let E5:=List.getD (A16.l c.X) i.A.toNat 0;let E6:=Nat.blt 0 1&&decide (0<=i.A/\i.A<(↑16:Int));let E7:=({X:=c.X,Pc:=wrap u32 (c.Pc+4),B5:=c.B5}:Q05);let T1:Tree ((Q05×(List Int))):=let T3:Tree ((Q05×(List Int))):= .an (Q8v c m E4 4 3) (.lv (Q17 c m E4 4 3) λ(x0:Int×Int×List Int)=> .br (x0.2.1 !=0) (.lv (Q2w c x0.2.1 E4) λ(x1:Q05)=> .lf (x1,x0.2.2)) (.cn E6 (.an (Qg6 x0.2.2 x0.1 4 E5) (.lv (Qar x0.2.2 x0.1 4 E5) λ(x2:List Int)=> .lf (E7,x2))))); .br (i.Op==35) T3 (.br (i.Op==36) T3 (.an (Q8v c m E4 4 2) (.lv (Q17 c m E4 4 2) λ(x6:Int×Int×List Int)=> .br (x6.2.1 !=0) (.lv (Q2w c x6.2.1 E4) λ(x7:Q05)=> .lf (x7,x6.2.2)) (.an (Qde x6.2.2 x6.1 4) (.lv (Q1e x6.2.2 x6.1 4) λ(x8:Int×Bool)=> .br (i.Op==33) (.an (Qcm x8.1 8) (.lv (Q3d x8.1 8) λ(x9:Int)=> .an (Q31 c i.A x9) (.lv (Q1x c i.A x9) λ(x10:Q05)=> .lf ({X:=x10.X,Pc:=wrap u32 (x10.Pc+4),B5:=x10.B5},x6.2.2)))) (.an (Q31 c i.A x8.1) (.lv (Q1x c i.A x8.1) λ(x11:Q05)=> .lf ({X:=x11.X,Pc:=wrap u32 (x11.Pc+4),B5:=x11.B5},x6.2.2)))))))); .br (i.Op==32) T1 (.br (i.Op==35) T1 (let T2:Tree ((Q05×(List Int))):= .an (Q8v c m E4 1 3) (.lv (Q17 c m E4 1 3) λ(x24:Int×Int×List Int)=> .br (x24.2.1 !=0) (.lv (Q2w c x24.2.1 E4) λ(x25:Q05)=> .lf (x25,x24.2.2)) (.cn E6 (.an (Qg6 x24.2.2 x24.1 1 E5) (.lv (Qar x24.2.2 x24.1 1 E5) λ(x26:List Int)=> .lf (E7,x26))))); .br (i.Op==35) T2 (.br (i.Op==36) T2 (.an (Q8v c m E4 1 2) (.lv (Q17 c m E4 1 2) λ(x30:Int×Int×List Int)=> .br (x30.2.1 !=0) (.lv (Q2w c x30.2.1 E4) λ(x31:Q05)=> .lf (x31,x30.2.2)) (.an (Qde x30.2.2 x30.1 1) (.lv (Q1e x30.2.2 x30.1 1) λ(x32:Int×Bool)=> .br (i.Op==33) (.an (Qcm x32.1 8) (.lv (Q3d x32.1 8) λ(x33:Int)=> .an (Q31 c i.A x33) (.lv (Q1x c i.A x33) λ(x34:Q05)=> .lf ({X:=x34.X,Pc:=wrap u32 (x34.Pc+4),B5:=x34.B5},x30.2.2)))) (.an (Q31 c i.A x32.1) (.lv (Q1x c i.A x32.1) λ(x35:Q05)=> .lf ({X:=x35.X,Pc:=wrap u32 (x35.Pc+4),B5:=x35.B5},x30.2.2)))))))))))
def Q5b(c:Q05)(m:(List Int))(i:Q0l):(Q05×(List Int)):=(Qa4 c m i).m
abbrev Qln(c:Q05)(m:(List Int))(i:Q0l):Prop:=(Qa4 c m i).p
def Z1r:Q0d:=mkP 258 [false,true,false] true [.agg Q05.sig, .one (.row 0), .agg Q0l.sig] [.arr 25 1 (.ints .u32)] (λargs rows=>Qln (Q05.of (aC args 0)) (rowL .u32 rows 0) (Q0l.of (aC args 2))) (λargs rows=>Q5b (Q05.of (aC args 0)) (rowL .u32 rows 0) (Q0l.of (aC args 2))) (λX=> .agg (Q05.cells (X.1))) (λX=>[⟨false,25,1, .ints .u32 (X.2)⟩])
theorem Z0o:Q06 pG Z1r:=Q0p drawn Q0k (.cons Qt9 (.cons Qkn (.cons Z3l (.cons Qpw (.cons Qvi (.cons Qfd (.nil))))))) Tryz.func258 Tryz.call258 (λargs rows=>Qa4 (Q05.of (aC args 0)) (rowL .u32 rows 0) (Q0l.of (aC args 2))) [] [] 2
def Qyv(op:Int):Tree Int:=
.br (op==16) (.lf 1) (.br (op==17) (.lf 3) (.br (op==18) (.lf 4) (.br (op==19) (.lf 5) (.br (op==20) (.lf 6) (.br (op==21) (.lf 7) (.br (op==22) (.lf 8) (.br (op==23) (.lf 12) (.lf op))))))))
def Z9o(op:Int):Int:=(Qyv op).m
def Zdj:Q0d:=mkR 302 [] true [.one (.int .i64)] [] (λargs rows=>Z9o (argI args 0)) (λX=> .int .i64 X) (λX=>[])
theorem Zbw:Q06 pG Zdj:=Q11 drawn Q0k (.nil) Tryz.func302 Tryz.call302 (λargs rows=>Qyv (argI args 0)) [] [] 2
def Qaw(a:Int)(b:Int):Tree (Int×Int):=
.br (b==0) (.lf (4294967295,a)) (.cn (decide (wrap i64 (wrap i32 b)≠0)) (.cn (decide (wrap i64 (wrap i32 b)≠0)) (.lf (wrap u32 (wrap i64 (Int.tdiv (wrap i64 (wrap i32 a)) (wrap i64 (wrap i32 b)))),wrap u32 (Int.tmod (wrap i64 (wrap i32 a)) (wrap i64 (wrap i32 b)))))))
def Qcv(a:Int)(b:Int):(Int×Int):=(Qaw a b).m
abbrev Qit(a:Int)(b:Int):Prop:=(Qaw a b).p
def Zc9:Q0d:=mkP 303 [] true [.one (.int .u32), .one (.int .u32)] [] (λargs rows=>Qit (argI args 0) (argI args 1)) (λargs rows=>Qcv (argI args 0) (argI args 1)) (λX=> .tup [.int .u32 (X.1), .int .u32 (X.2)]) (λX=>[])
theorem Z69:Q06 pG Zc9:=Q0p drawn Q0k (.nil) Tryz.func303 Tryz.call303 (λargs rows=>Qaw (argI args 0) (argI args 1)) [] [] 2
def Qlz(op:Int)(a:Int)(b:Int):Tree (Int×Bool):=
.lv (Z9o op) λ(x0:Int)=> .br (x0==1) (.lf (wrap u32 (a+b),true)) (.br (x0==2) (.lf (wrap u32 (a-b),true)) (.br (x0==3) (.lf (iand u32 a b,true)) (.br (x0==4) (.lf (ior u32 a b,true)) (.br (x0==5) (.lf (ixor u32 a b,true)) (.br (x0==6) (.lf (ishl u32 a (iand u32 b 31),true)) (.br (x0==7) (.lf (ishr u32 a (iand u32 b 31),true)) (.br (x0==8) (.lf (wrap u32 (ishr i32 (wrap i32 a) (iand u32 b 31)),true)) (.br (x0==9) (.lf (wrap u32 (a*b),true)) (.br (x0==10) (.an (Qit a b) (.lv (Qcv a b) λ(x1:Int×Int)=> .lf (x1.1,true))) (.br (x0==11) (.an (Qit a b) (.lv (Qcv a b) λ(x2:Int×Int)=> .lf (x2.2,true))) (.br (x0==12) (.lv (Qc2 (decide (wrap i32 a<wrap i32 b))) λ(x3:Int)=> .lf (x3,true)) (.br (x0==13) (.lv (Qc2 (decide (a<b))) λ(x4:Int)=> .lf (x4,true)) (.lf (0,false))))))))))))))
def Qdv(op:Int)(a:Int)(b:Int):(Int×Bool):=(Qlz op a b).m
abbrev Qpi(op:Int)(a:Int)(b:Int):Prop:=(Qlz op a b).p
def Zo4:Q0d:=mkP 259 [] true [.one (.int .i64), .one (.int .u32), .one (.int .u32)] [] (λargs rows=>Qpi (argI args 0) (argI args 1) (argI args 2)) (λargs rows=>Qdv (argI args 0) (argI args 1) (argI args 2)) (λX=> .tup [.int .u32 (X.1), .bool (X.2)]) (λX=>[])
theorem Zjb:Q06 pG Zo4:=Q0p drawn Q0k (.cons Zbw (.cons Z69 (.cons Qs0 (.nil)))) Tryz.func259 Tryz.call259 (λargs rows=>Qlz (argI args 0) (argI args 1) (argI args 2)) [] [] 2
def Qol(c:Q05)(m:(List Int)):Tree (Q05×Q16×(List Int)):=
.an (Q8v c m c.Pc 4 1) (.lv (Q17 c m c.Pc 4 1) λ(x0:Int×Int×List Int)=> .br (x0.2.1 !=0) (.lv (Q2w c x0.2.1 c.Pc) λ(x1:Q05)=> .lf (x1,{B6:=0,D1:=0,D9:=0,Value:=0},x0.2.2)) (.an (Qde x0.2.2 x0.1 4) (.lv (Q1e x0.2.2 x0.1 4) λ(x2:Int×Bool)=> .lv (Q20 x2.1) λ(x3:Q0l×Bool)=> .br (!x3.2) (.lv (Q2w c 1 x2.1) λ(x4:Q05)=> .lf (x4,{B6:=0,D1:=0,D9:=0,Value:=0},x0.2.2)) (.lv (Q3g x3.1.Op) λ(x5:Bool)=>let T1:Tree ((Q05×Q16×(List Int))):= .br (decide (x3.1.Op>=56)) (.an (Qp6 c x3.1) (.lv (Qj8 c x3.1) λ(x7:Q05×Q16)=> .lf (x7.1,x7.2,x0.2.2))) (.br (decide (x3.1.Op>=40)) (.an (Quj c x3.1) (.lv (Z5e c x3.1) λ(x8:Q05)=> .lf (x8,{B6:=0,D1:=0,D9:=0,Value:=0},x0.2.2))) (.br (decide (x3.1.Op>=32)) (.an (Qln c x0.2.2 x3.1) (.lv (Q5b c x0.2.2 x3.1) λ(x9:Q05×List Int)=> .lf (x9.1,{B6:=0,D1:=0,D9:=0,Value:=0},x9.2))) (.br (x3.1.Op==24) (.an (Q31 c x3.1.A (ishl u32 (wrap u32 x3.1.Imm) 16)) (.lv (Q1x c x3.1.A (ishl u32 (wrap u32 x3.1.Imm) 16)) λ(x10:Q05)=> .lf ({X:=x10.X,Pc:=wrap u32 (x10.Pc+4),B5:=x10.B5},{B6:=0,D1:=0,D9:=0,Value:=0},x0.2.2))) (let E2:=List.getD (A16.l c.X) x3.1.B.toNat 0;let E3:=Nat.blt 0 1&&decide (0<=x3.1.B/\x3.1.B<(↑16:Int)); .br (decide (x3.1.Op<=13)) (.cn (Nat.blt 0 1&&decide (0<=x3.1.C/\x3.1.C<(↑16:Int))) (.cn E3 (let E4:=List.getD (A16.l c.X) x3.1.C.toNat 0; .an (Qpi x3.1.Op E2 E4) (.lv (Qdv x3.1.Op E2 E4) λ(x11:Int×Bool)=> .an (Q31 c x3.1.A x11.1) (.lv (Q1x c x3.1.A x11.1) λ(x12:Q05)=> .lf ({X:=x12.X,Pc:=wrap u32 (x12.Pc+4),B5:=x12.B5},{B6:=0,D1:=0,D9:=0,Value:=0},x0.2.2)))))) (.cn E3 (.an (Qpi x3.1.Op E2 (wrap u32 x3.1.Imm)) (.lv (Qdv x3.1.Op E2 (wrap u32 x3.1.Imm)) λ(x13:Int×Bool)=> .an (Q31 c x3.1.A x13.1) (.lv (Q1x c x3.1.A x13.1) λ(x14:Q05)=> .lf ({X:=x14.X,Pc:=wrap u32 (x14.Pc+4),B5:=x14.B5},{B6:=0,D1:=0,D9:=0,Value:=0},x0.2.2))))))))); .br x5 (.br (iand u32 c.B5.a0 (1:Int)==(0:Int)) (.lv (Q2w c 2 x2.1) λ(x6:Q05)=> .lf (x6,{B6:=0,D1:=0,D9:=0,Value:=0},x0.2.2)) T1) T1))))
def Q7q(c:Q05)(m:(List Int)):(Q05×Q16×(List Int)):=(Qol c m).m
abbrev Qrz(c:Q05)(m:(List Int)):Prop:=(Qol c m).p
def yB:Q0d:=mkP 217 [false,true] true [.agg Q05.sig, .one (.row 0)] [.arr 25 1 (.ints .u32)] (λargs rows=>Qrz (Q05.of (aC args 0)) (rowL .u32 rows 0)) (λargs rows=>Q7q (Q05.of (aC args 0)) (rowL .u32 rows 0)) (λX=> .tup [.agg (Q05.cells (X.1)), .agg (Q16.cells (X.2.1))]) (λX=>[⟨false,25,1, .ints .u32 (X.2.2)⟩])
theorem Z7v:Q06 pG yB:=Q0p drawn Q0k (.cons Qt9 (.cons Qkn (.cons Qpw (.cons Qra (.cons Qt5 (.cons Z6n (.cons Zen (.cons Z0o (.cons Qfd (.cons Zjb (.nil))))))))))) Tryz.func217 Tryz.call217 (λargs rows=>Qol (Q05.of (aC args 0)) (rowL .u32 rows 0)) [] [] 2
end
noncomputable section
def Qdf(steps:Int):Tree Int:=
.lf (if 4000<if 0>steps then 0 else steps then 4000 else if 0>steps then 0 else steps)
def Q0m(steps:Int):Int:=(Qdf steps).m
def Z2p:Q0d:=mkR 158 [] true [.one (.int .i64)] [] (λargs rows=>Q0m (argI args 0)) (λX=> .int .i64 X) (λX=>[])
theorem Z06:Q06 pG Z2p:=Q11 drawn Q0k (.nil) Tryz.func158 Tryz.call158 (λargs rows=>Qdf (argI args 0)) [] [] 2
def Qwn(t:Q0i)(now:Int):Tree Bool:=
.br t.D2 (.lf (decide (now>=t.C9))) (.lf false)
def Q8d(t:Q0i)(now:Int):Bool:=(Qwn t now).m
def Zoh:Q0d:=mkR 214 [] true [.agg Q0i.sig, .one (.int .u32)] [] (λargs rows=>Q8d (Q0i.of (aC args 0)) (argI args 1)) (λX=> .bool X) (λX=>[])
theorem Zir:Q06 pG Zoh:=Q11 drawn Q0k (.nil) Tryz.func214 Tryz.call214 (λargs rows=>Qwn (Q0i.of (aC args 0)) (argI args 1)) [] [] 2
def Qek(m:Q00)(z:(Int)):Nat:=(32-z).toNat
def Q4v(m:Q00):Tree Q05:=
.an (Qgy m) (.lv (Q33 m) λ(x0:Int)=> .br (iand u32 m.B2.B5.a0 (2:Int)==(0:Int)) (.lf m.B2) (.br (x0==0) (.lf m.B2) (.lp inferInstance (Qek m 0+1) ((rZ/\rZ/\rE (x0:Int)/\rE (0:Int)/\True)/\(mE m (((Els.Nil (Els.ints u32 m.Mem)\/rE (1:Nat))/\rE m.Mem)) True)/\(rE (0:Int)/\rE (0:Int)/\rE (0:Int)/\rE (0:Int)/\rE (0:Int)/\rE (0:Int)/\rE (0:Int)/\rE (0:Int)/\rE (0:Int)/\rE (0:Int)/\rE (0:Int)/\rE (0:Int)/\rE (0:Int)/\rE (0:Int)/\rE (0:Int)/\rE (0:Int)/\rE (0:Int)/\rE (0:Int)/\rE (0:Int)/\rE (0:Int)/\rE (0:Int)/\rE (0:Int)/\rE (0:Int)/\rE (0:Int)/\rE (0:Int)/\True)/\True) 0 λ(v0:Int)=> .cn (decide (0<=wrap u64 v0)) (.br (iand u32 (ishr u32 x0 (wrap u64 v0)) (1:Int)==(0:Int)) (.nx ((rZ/\rZ/\rE (x0:Int)/\rE ((wrap i64 (v0+1)):Int)/\True)/\(mE m (((Els.Nil (Els.ints u32 m.Mem)\/rE (1:Nat))/\rE m.Mem)) True)/\(rE (0:Int)/\rE (0:Int)/\rE (0:Int)/\rE (0:Int)/\rE (0:Int)/\rE (0:Int)/\rE (0:Int)/\rE (0:Int)/\rE (0:Int)/\rE (0:Int)/\rE (0:Int)/\rE (0:Int)/\rE (0:Int)/\rE (0:Int)/\rE (0:Int)/\rE (0:Int)/\rE (0:Int)/\rE (0:Int)/\rE (0:Int)/\rE (0:Int)/\rE (0:Int)/\rE (0:Int)/\rE (0:Int)/\rE (0:Int)/\rE (0:Int)/\True)/\True) (Sum.inl (wrap i64 (v0+1)))) (.lv (Q2w m.B2 (wrap i64 (16+v0)) 0) λ(x1:Q05)=> .lf (Sum.inr x1))))))
def Q0n(m:Q00):Q05:=(Q4v m).m
abbrev Q7f(m:Q00):Prop:=(Q4v m).p
def Qsp:LInv:={
 α:=(Int)
 F:=λst a=>([(1, .ptr 0 0 0),(2, .ptr 1 0 0),(3,(lk st 3)),(4, .int i64 a)],[⟨true,43,49, .gen [mB (cT st 1)]⟩,⟨true,29,25, .gen [[(cT st 2 0),(cT st 2 1),(cT st 2 2),(cT st 2 3),(cT st 2 4),(cT st 2 5),(cT st 2 6),(cT st 2 7),(cT st 2 8),(cT st 2 9),(cT st 2 10),(cT st 2 11),(cT st 2 12),(cT st 2 13),(cT st 2 14),(cT st 2 15),(cT st 2 16),(cT st 2 17),(cT st 2 18),(cT st 2 19),(cT st 2 20),(cT st 2 21),(cT st 2 22),(cT st 2 23),(cT st 2 24)]]⟩])
 a0:=λst=>(lk st 4).toInt
 ex0:=λst=>[]++[(rX st 1 0),(rX st 2 1)]}
def Qpe:List (Nat×LInv):=[(5,Qsp)]
def Qt7:Q0d:=mkP 186 [] true [.agg Q00.sig] [] (λargs rows=>Q7f (Q00.of (aC args 0))) (λargs rows=>Q0n (Q00.of (aC args 0))) (λX=> .agg (Q05.cells X)) (λX=>[])
theorem Qcw:Q06 pG Qt7:=Q0p drawn Q0k (.cons Qpj (.cons Qkn (.nil))) Tryz.func186 Tryz.call186 (λargs rows=>Q4v (Q00.of (aC args 0))) [] Qpe 3
def Qgf(m:Q00):Tree Bool:=
.an (Q7f m) (.lv (Q0n m) λ(x0:Q05)=> .br (iand u32 x0.B5.a0 (1:Int)==(0:Int)) (.lf false) (.an (Qde m.Mem x0.Pc 4) (.lv (Q1e m.Mem x0.Pc 4) λ(x1:Int×Bool)=> .lv (Q20 x1.1) λ(x2:Q0l×Bool)=> .br x1.2 (.br x2.2 (.br (x2.1.Op==60) (.lf (x2.1.Imm==2)) (.lf false)) (.lf false)) (.lf false))))
def Qfb(m:Q00):Bool:=(Qgf m).m
abbrev Qkx(m:Q00):Prop:=(Qgf m).p
def Zeq:Q0d:=mkP 116 [] true [.agg Q00.sig] [] (λargs rows=>Qkx (Q00.of (aC args 0))) (λargs rows=>Qfb (Q00.of (aC args 0))) (λX=> .bool X) (λX=>[])
theorem Qun:Q06 pG Zeq:=Q0p drawn Q0k (.cons Qcw (.cons Qpw (.cons Qra (.nil)))) Tryz.func116 Tryz.call116 (λargs rows=>Qgf (Q00.of (aC args 0))) [] [] 2
def Q7t(m:Q00):Tree Bool:=
.an (Qfj m) (.lv (Q0v m) λ(x0:Bool)=> .br x0 (.lf false) (.an (Qkx m) (.lv (Qfb m) λ(x1:Bool)=> .lf x1)))
def Q0h(m:Q00):Bool:=(Q7t m).m
abbrev Qcs(m:Q00):Prop:=(Q7t m).p
def Qxj:Q0d:=mkP 31 [] true [.agg Q00.sig] [] (λargs rows=>Qcs (Q00.of (aC args 0))) (λargs rows=>Q0h (Q00.of (aC args 0))) (λX=> .bool X) (λX=>[])
theorem Quh:Q06 pG Qxj:=Q0p drawn Q0k (.cons Qtc (.cons Qun (.nil))) Tryz.func31 Tryz.call31 (λargs rows=>Q7t (Q00.of (aC args 0))) [] [] 2
def Q3l(c:Q0c)(port:Int):Tree (Q0c×Int):=
let T1:Tree ((Q0c×Int)):= .br (port==0) (.cn (decide ((0:Int)<=(1:Int)/\1<=(c.D3.length:Int)/\(c.D3.length:Int)<=(c.D3.length:Int))) (.cn (decide ((0:Int)<=(0:Int)/\0<(c.D3.length:Int))) (.lf ({D3:=List.take (Int.toNat (c.D3.length:Int)-Int.toNat 1) (List.drop (Int.toNat 1) c.D3)},wrap u32 (↑(UInt8.toNat (c.D3.getD (Int.toNat 0) (0:UInt8))):Int))))) (.br (port==1) (.lf (c,wrap u32 (c.D3.length:Int))) (.lf (c,0))); .br (port==0) (.br ((c.D3.length:Int)==(0:Int)) (.lf (c,4294967295)) T1) T1
def Q5n(c:Q0c)(port:Int):(Q0c×Int):=(Q3l c port).m
theorem Quk(c:Q0c)(port:Int):(Q3l c port).p:=by
 unfold Tree.p Q3l
 repeat'(first|exact trivial|refine w_br (λ_=> ?_) (λ_=> ?_)|refine w_cn ?_ ?_|refine w_an ?_ ?_|refine w_lv (λ_ _=> ?_)|refine w_nx ?_|refine w_lf ?_|refine And.intro ?_ ?_)
 all_goals(exact fin0)
def Z0v:Q0d:=mkR 260 [] true [.agg Q0c.sig, .one (.int .i64)] [] (λargs rows=>Q5n (Q0c.of (aC args 0)) (argI args 1)) (λX=> .tup [.agg (Q0c.cells (X.1)), .int .u32 (X.2)]) (λX=>[])
theorem Qm:Q06 pG Z0v:=Q11 drawn Q0k (.nil) Tryz.func260 Tryz.call260 (λargs rows=>Q3l (Q0c.of (aC args 0)) (argI args 1)) [] [] 2 (λ_ _ _=>by kernel_rfl) (λ_ _=>rfl) (λargs rows=>Quk (Q0c.of (aC args 0)) (argI args 1)) (λ_ X=>by kernel_rfl)
def Qfp(t:Q0i):Tree Int:=
.br t.D5 (.lf 1) (.lf 0)
def Qg4(t:Q0i):Int:=(Qfp t).m
def Z5s:Q0d:=mkR 261 [] true [.agg Q0i.sig] [] (λargs rows=>Qg4 (Q0i.of (aC args 0))) (λX=> .int .u32 X) (λX=>[])
theorem Qou:Q06 pG Z5s:=Q11 drawn Q0k (.nil) Tryz.func261 Tryz.call261 (λargs rows=>Qfp (Q0i.of (aC args 0))) [] [] 2
def Qhl(d0:Q0f)(port:Int):Tree Int:=
.br (port==4) (.lf d0.C0) (.br (port==5) (.lf d0.Frame) (.br (port==6) (.lf (wrap u32 d0.C1)) (.lf 0)))
def Qjd(d0:Q0f)(port:Int):Int:=(Qhl d0 port).m
def Za4:Q0d:=mkR 262 [] true [.agg Q0f.sig, .one (.int .i64)] [] (λargs rows=>Qjd (Q0f.of (aC args 0)) (argI args 1)) (λX=> .int .u32 X) (λX=>[])
theorem Qru:Q06 pG Za4:=Q11 drawn Q0k (.nil) Tryz.func262 Tryz.call262 (λargs rows=>Qhl (Q0f.of (aC args 0)) (argI args 1)) [] [] 2
def Qg3(n:Q0r)(port:Int):Tree Int:=
.br (port==7) (.lf n.Frame) (.br (port==8) (.lf n.F1) (.br (port==9) (.br n.C6 (.br n.B8 (.lf (wrap u32 ((1:Int)+(2:Int)))) (.lf 1)) (.br n.B8 (.lf (wrap u32 ((0:Int)+(2:Int)))) (.lf 0))) (.lf 0)))
def Qi4(n:Q0r)(port:Int):Int:=(Qg3 n port).m
def Zfn:Q0d:=mkR 263 [] true [.agg Q0r.sig, .one (.int .i64)] [] (λargs rows=>Qi4 (Q0r.of (aC args 0)) (argI args 1)) (λX=> .int .u32 X) (λX=>[])
theorem Qut:Q06 pG Zfn:=Q11 drawn Q0k (.nil) Tryz.func263 Tryz.call263 (λargs rows=>Qg3 (Q0r.of (aC args 0)) (argI args 1)) [] [] 2
def Q6c(b:Q09)(port:Int):Tree Int:=
.br (port==10) (.lf b.D0) (.br (port==11) (.lv (Qfa b) λ(x0:Int)=> .lf (wrap u32 x0)) (.lf 0))
def Q5m(b:Q09)(port:Int):Int:=(Q6c b port).m
def Z0u:Q0d:=mkR 264 [] true [.agg Q09.sig, .one (.int .i64)] [] (λargs rows=>Q5m (Q09.of (aC args 0)) (argI args 1)) (λX=> .int .u32 X) (λX=>[])
theorem Qls:Q06 pG Z0u:=Q11 drawn Q0k (.cons Qtu (.nil)) Tryz.func264 Tryz.call264 (λargs rows=>Q6c (Q09.of (aC args 0)) (argI args 1)) [] [] 2
def Qlj(m:Q00)(port:Int)(clock:Int):Tree (Int×Q00):=
.br (decide (port<=1)) (.lv (Q5n m.A4 port) λ(x0:Q0c×Int)=> .lf (x0.2,{B2:=m.B2,Mem:=m.Mem,A4:=x0.1,B0:=m.B0,B1:=m.B1,C4:=m.C4,A2:=m.A2,A1:=m.A1,A7:=m.A7,A9:=m.A9})) (.br (port==2) (.lf (clock,m)) (.br (port==3) (.lv (Qg4 m.B0) λ(x1:Int)=> .lf (x1,m)) (.br (decide (port<=6)) (.lv (Qjd m.B1 port) λ(x2:Int)=> .lf (x2,m)) (.br (decide (port<=9)) (.lv (Qi4 m.C4 port) λ(x3:Int)=> .lf (x3,m)) (.lv (Q5m m.A2 port) λ(x4:Int)=> .lf (x4,m))))))
def Qdh(m:Q00)(port:Int)(clock:Int):(Int×Q00):=(Qlj m port clock).m
def vB:Q0d:=mkR 218 [true,false,false] true [.ptr 0, .one (.int .i64), .one (.int .u32)] [.box 43 49 (Q00.sigW (.row 1)), .arr 25 1 (.ints .u32)] (λargs rows=>Qdh (Q00.ofW (rows.getD 0 default).cs (rowL .u32 rows 1)) (argI args 1) (argI args 2)) (λX=> .int .u32 (X.1)) (λX=>[⟨true,43,49, .gen [(Q00.cellsW (X.2) (.all 1))]⟩,⟨false,25,1, .ints .u32 (X.2).Mem⟩])
theorem Zn9:Q06 pG vB:=Q11 drawn Q0k (.cons Qm (.cons Qou (.cons Qru (.cons Qut (.cons Qls (.nil)))))) Tryz.func218 Tryz.call218 (λargs rows=>Qlj (Q00.ofW (rows.getD 0 default).cs (rowL .u32 rows 1)) (argI args 1) (argI args 2)) [.row 25 1 (.ints .u32)] [] 2
def Qy1(deadline:Int):Tree Q0i:=
.br (deadline==0) (.lf ({D2:=false,C9:=0,D5:=false})) (.lf ({D2:=true,C9:=deadline,D5:=false}))
def Qti(deadline:Int):Q0i:=(Qy1 deadline).m
def Zpf:Q0d:=mkR 265 [] true [.one (.int .u32)] [] (λargs rows=>Qti (argI args 0)) (λX=> .agg (Q0i.cells X)) (λX=>[])
theorem Z5b:Q06 pG Zpf:=Q11 drawn Q0k (.nil) Tryz.func265 Tryz.call265 (λargs rows=>Qy1 (argI args 0)) [] [] 2
def Quc(x:Int)(n:Int)(z:(Int)×(List Int)):Prop:=0<=z.1/\(z.2.length:Int)=z.1/\(z.1<=n\/z.1=0)
def Qfn(x:Int)(n:Int)(z:(Int)×(List Int)):Nat:=(n-z.1).toNat
def Qhz(x:Int)(n:Int):Tree (List UInt8):=
.lp inferInstance (Qfn x n (0,[])+1) ((rE (x:Int)/\rE (n:Int)/\True/\rE (0:Int)/\True)/\rE ([]:List Int)/\True) (0,[]) λ(v0:Int×List Int)=> .br (decide (v0.1<n)) (.cn (decide (0<=wrap u64 (wrap i64 (8*v0.1)))) (.cn (decide (1*(v0.2.length+1)<=140737488355328)) (.nx ((rE (x:Int)/\rE (n:Int)/\True/\rE ((wrap i64 (v0.1+1)):Int)/\True)/\rE ((v0.2++[wrap u8 (ishr u32 x (wrap u64 (wrap i64 (8*v0.1))))]):List Int)/\True) (Sum.inl (wrap i64 (v0.1+1),v0.2++[wrap u8 (ishr u32 x (wrap u64 (wrap i64 (8*v0.1))))]))))) (.lf (Sum.inr (bytesOf v0.2)))
def Zbx(x:Int)(n:Int):(List UInt8):=(Qhz x n).m
def Qkh(x:Int)(n:Int):Prop:=
n<=1000000000000
theorem Zh5(x:Int)(n:Int)(hw:Qkh x n):(Qhz x n).p:=by
 simp only[Qkh]at hw
 unfold Tree.p Qhz
 repeat'(first|refine w_lp (inv:=Quc x n) (μ:=Qfn x n) ?_ (Nat.lt_succ_self _) (λ_ _=> ?_)|exact trivial|refine w_br (λ_=> ?_) (λ_=> ?_)|refine w_cn ?_ ?_|refine w_an ?_ ?_|refine w_lv (λ_ _=> ?_)|refine w_nx ?_|refine w_lf ?_|refine And.intro ?_ ?_)
 all_goals((try simp only[Quc,Qfn]at*);exact fin0)
def Zia:LInv:={
 α:=(Int)×(List Int)
 F:=λst a=>([(0,(lk st 0)),(1,(lk st 1)),(5, .all 0),(6, .int i64 a.1)],[⟨false,5,1, .ints u8 a.2⟩])
 a0:=λst=>((lk st 6).toInt,(Q5k st.rows (rN st 5)))
 ex0:=λst=>[]++[(rX st 5 0)]}
def Zb3:List (Nat×LInv):=[(3,Zia)]
def Znc:Q0d:=mkP 315 [] true [.one (.int .u32), .one (.int .i64)] [] (λargs rows=>Qkh (argI args 0) (argI args 1)) (λargs rows=>Zbx (argI args 0) (argI args 1)) (λX=> .str X) (λX=>[])
theorem Zkz:Q06 pG Znc:=Q0p drawn Q0k (.nil) Tryz.func315 Tryz.call315 (λargs rows=>Qhz (argI args 0) (argI args 1)) [] Zb3 3 (hp:=λargs rows h=>Zh5 (argI args 0) (argI args 1) h)
def Qj4(m:(List Int))(frame:Int)(z:(Int)×(List Int)):Nat:=(32-z.1).toNat
def Q9y(m:(List Int))(frame:Int):Tree ((List UInt8)×Bool):=
.br (decide (frame<0)) (.lf ([],false)) (.lv (Q40 m) λ(x0:Int)=> .br (decide (frame>=x0)) (.lf ([],false)) (.lp inferInstance (Qj4 m frame (0,[])+1) ((((Els.Nil (Els.ints u32 m)\/rE (1:Nat))/\rE (m:List Int))/\rE (frame:Int)/\True/\rE (0:Int)/\True)/\rE ([]:List Int)/\True) (0,[]) λ(v0:Int×List Int)=> .br (decide (v0.1<32)) (.cn (Nat.beq 1 1&&Nat.blt 0 1&&decide (0<=wrap i64 (wrap i64 (frame*32)+v0.1)/\wrap i64 (wrap i64 (frame*32)+v0.1)<(m.length:Int))) (let E1:=m.getD (Int.toNat (wrap i64 (wrap i64 (frame*32)+v0.1))) 0; .an (Qkh E1 4) (.lv (Zbx E1 4) λ(x1:List UInt8)=> .cn (decide (1*(v0.2.length+List.length (Qbr x1))<=140737488355328)) (.nx ((((Els.Nil (Els.ints u32 m)\/rE (1:Nat))/\rE (m:List Int))/\rE (frame:Int)/\True/\rE ((wrap i64 (v0.1+1)):Int)/\True)/\rE ((v0.2++Qbr x1):List Int)/\True) (Sum.inl (wrap i64 (v0.1+1),v0.2++Qbr x1)))))) (.lf (Sum.inr (bytesOf v0.2,true)))))
def Qii(m:(List Int))(frame:Int):((List UInt8)×Bool):=(Q9y m frame).m
abbrev Qhg(m:(List Int))(frame:Int):Prop:=(Q9y m frame).p
def Zgc:LInv:={
 α:=(Int)×(List Int)
 F:=λst a=>([(0,(lk st 0)),(1,(lk st 1)),(6, .all 0),(7, .int i64 a.1)],[⟨false,5,1, .ints u8 a.2⟩])
 a0:=λst=>((lk st 7).toInt,(Q5k st.rows (rN st 6)))
 ex0:=λst=>[]++[(rX st 6 0)]}
def Z6:List (Nat×LInv):=[(5,Zgc)]
def Zjh:Q0d:=mkP 304 [] true [.one (.ints .u32), .one (.int .i64)] [] (λargs rows=>Qhg (argL .u32 args 0) (argI args 1)) (λargs rows=>Qii (argL .u32 args 0) (argI args 1)) (λX=> .tup [.str (X.1), .bool (X.2)]) (λX=>[])
theorem Qyk:Q06 pG Zjh:=Q0p drawn Q0k (.cons Qdj (.cons Zkz (.nil))) Tryz.func304 Tryz.call304 (λargs rows=>Q9y (argL .u32 args 0) (argI args 1)) [] Z6 3
def Qrm(d0:Q0f)(at0:Int):Tree (Q04×Bool):=
.br (d0.C1 !=1) (.lf ({B6:=0,At:=0,C0:=0,C8:=[]},false)) (.br (d0.D8==1) (.lf ({B6:=3,At:=at0,C0:=d0.B7,C8:=[]},true)) (.br (d0.D8==2) (.lf ({B6:=4,At:=at0,C0:=d0.B7,C8:=d0.C3},true)) (.lf ({B6:=0,At:=0,C0:=0,C8:=[]},false))))
def Qkm(d0:Q0f)(at0:Int):(Q04×Bool):=(Qrm d0 at0).m
def Z6r:Q0d:=mkR 305 [] true [.agg Q0f.sig, .one (.int .u64)] [] (λargs rows=>Qkm (Q0f.of (aC args 0)) (argI args 1)) (λX=> .tup [.agg (Q04.cells (X.1)), .bool (X.2)]) (λX=>[])
theorem Z4x:Q06 pG Z6r:=Q11 drawn Q0k (.nil) Tryz.func305 Tryz.call305 (λargs rows=>Qrm (Q0f.of (aC args 0)) (argI args 1)) [] [] 2
def Q8z(d0:Q0f)(m:(List Int))(port:Int)(v:Int)(at0:Int):Tree (Q0f×(List Q04)):=
.br (port==4) (.lf ({Blocks:=d0.Blocks,C0:=v,Frame:=d0.Frame,C1:=d0.C1,D8:=d0.D8,B7:=d0.B7,B3:=d0.B3,C3:=d0.C3},[])) (.br (port==5) (.lf ({Blocks:=d0.Blocks,C0:=d0.C0,Frame:=v,C1:=d0.C1,D8:=d0.D8,B7:=d0.B7,B3:=d0.B3,C3:=d0.C3},[])) (.br (port !=6) (.lf (d0,[])) (let T1:Tree ((Q0f×(List Q04))):= .br (d0.C1==0) (let T2:Tree ((Q0f×(List Q04))):= .lf ({Blocks:=d0.Blocks,C0:=d0.C0,Frame:=d0.Frame,C1:=3,D8:=d0.D8,B7:=d0.B7,B3:=d0.B3,C3:=d0.C3},[]); .br (decide (d0.C0>=d0.Blocks)) T2 (.lv (Q27 m d0.Frame) λ(x0:Bool)=> .br (!x0) T2 (.br (v==2) (.an (Qhg m (wrap i64 d0.Frame)) (.lv (Qii m (wrap i64 d0.Frame)) λ(x1:List UInt8×Bool)=>let E4:=({Blocks:=d0.Blocks,C0:=d0.C0,Frame:=d0.Frame,C1:=1,D8:=wrap i64 v,B7:=d0.C0,B3:=d0.Frame,C3:=x1.1}:Q0f); .lv (Qkm E4 at0) λ(x2:Q04×Bool)=> .lf (E4,[x2.1]))) (let E5:=({Blocks:=d0.Blocks,C0:=d0.C0,Frame:=d0.Frame,C1:=1,D8:=wrap i64 v,B7:=d0.C0,B3:=d0.Frame,C3:=[]}:Q0f); .lv (Qkm E5 at0) λ(x3:Q04×Bool)=> .lf (E5,[x3.1]))))) (.lf (d0,[])); .br (v==0) (let T3:Tree ((Q0f×(List Q04))):= .lf ({Blocks:=d0.Blocks,C0:=d0.C0,Frame:=d0.Frame,C1:=0,D8:=d0.D8,B7:=d0.B7,B3:=d0.B3,C3:=d0.C3},[]); .br (d0.C1==2) T3 (.br (d0.C1==3) T3 (.br (v==1) T1 (.br (v==2) T1 (.lf (d0,[])))))) (.br (v==1) T1 (.br (v==2) T1 (.lf (d0,[])))))))
def Qgd(d0:Q0f)(m:(List Int))(port:Int)(v:Int)(at0:Int):(Q0f×(List Q04)):=(Q8z d0 m port v at0).m
abbrev Qh(d0:Q0f)(m:(List Int))(port:Int)(v:Int)(at0:Int):Prop:=(Q8z d0 m port v at0).p
def Z6u:Q0d:=mkP 266 [] true [.agg Q0f.sig, .one (.ints .u32), .one (.int .i64), .one (.int .u32), .one (.int .u64)] [] (λargs rows=>Qh (Q0f.of (aC args 0)) (argL .u32 args 1) (argI args 2) (argI args 3) (argI args 4)) (λargs rows=>Qgd (Q0f.of (aC args 0)) (argL .u32 args 1) (argI args 2) (argI args 3) (argI args 4)) (λX=> .tup [.agg (Q0f.cells (X.1)), .sl 4 (.recs .apiOutput (X.2)) true]) (λX=>[])
theorem Qpb:Q06 pG Z6u:=Q0p drawn Q0k (.cons Qgk (.cons Qyk (.cons Z4x (.nil)))) Tryz.func266 Tryz.call266 (λargs rows=>Q8z (Q0f.of (aC args 0)) (argL .u32 args 1) (argI args 2) (argI args 3) (argI args 4)) [.sl (.recs .apiOutput) true] [] 2
def Qao(n:Q0r)(m:(List Int))(port:Int)(v:Int)(at0:Int):Tree (Q0r×(List Q04)):=
.br (port==7) (.lf ({Frame:=v,E0:=n.E0,C6:=n.C6,B9:=n.B9,B8:=n.B8,F1:=n.F1},[])) (.br (port==8) (.lf ({Frame:=n.Frame,E0:=v,C6:=n.C6,B9:=n.B9,B8:=n.B8,F1:=n.F1},[])) (.br (port !=9) (.lf (n,[])) (.br (v==0) (.lf ({Frame:=n.Frame,E0:=n.E0,C6:=n.C6,B9:=n.B9,B8:=false,F1:=0},[])) (let T1:Tree ((Q0r×(List Q04))):= .br (v==2) (.lv (Q27 m n.Frame) λ(x2:Bool)=> .br x2 (.br (!n.C6) (.br (!n.B8) (.lf ({Frame:=n.Frame,E0:=n.E0,C6:=true,B9:=n.Frame,B8:=n.B8,F1:=n.F1},[])) (.lf (n,[]))) (.lf (n,[]))) (.lf (n,[]))) (.lf (n,[])); .br (v==1) (.br (decide (n.E0>=1)) (.br (decide (n.E0<=128)) (.lv (Q27 m n.Frame) λ(x0:Bool)=> .br x0 (.an (Qhg m (wrap i64 n.Frame)) (.lv (Qii m (wrap i64 n.Frame)) λ(x1:List UInt8×Bool)=> .cn (decide ((0:Int)<=(0:Int)/\0<=n.E0/\n.E0<=(x1.1.length:Int))) (.lf (n,[{B6:=2,At:=at0,C0:=0,C8:=List.take (Int.toNat n.E0-Int.toNat 0) (List.drop (Int.toNat 0) x1.1)}])))) T1) T1) T1) T1))))
def Qj5(n:Q0r)(m:(List Int))(port:Int)(v:Int)(at0:Int):(Q0r×(List Q04)):=(Qao n m port v at0).m
abbrev Qjn(n:Q0r)(m:(List Int))(port:Int)(v:Int)(at0:Int):Prop:=(Qao n m port v at0).p
def Zbh:Q0d:=mkP 267 [] true [.agg Q0r.sig, .one (.ints .u32), .one (.int .i64), .one (.int .u32), .one (.int .u64)] [] (λargs rows=>Qjn (Q0r.of (aC args 0)) (argL .u32 args 1) (argI args 2) (argI args 3) (argI args 4)) (λargs rows=>Qj5 (Q0r.of (aC args 0)) (argL .u32 args 1) (argI args 2) (argI args 3) (argI args 4)) (λX=> .tup [.agg (Q0r.cells (X.1)), .sl 4 (.recs .apiOutput (X.2)) true]) (λX=>[])
theorem Qrp:Q06 pG Zbh:=Q0p drawn Q0k (.cons Qgk (.cons Qyk (.nil))) Tryz.func267 Tryz.call267 (λargs rows=>Qao (Q0r.of (aC args 0)) (argL .u32 args 1) (argI args 2) (argI args 3) (argI args 4)) [.sl (.recs .apiOutput) true] [] 2
def Qj7(b:Q09)(m:(List Int))(port:Int)(v:Int)(z:(Int)×(List Int)):Nat:=(32-z.1).toNat
def Q5(b:Q09)(m:(List Int))(port:Int)(v:Int):Tree (Q09×(List Int)):=
let T1:Tree ((Q09×(List Int))):= .br (port==11) (.br (decide (v<32)) (.cn (decide (0<=v)) (.lf ({D0:=b.D0,C2:=Qhu u32 b.C2 (ishl u32 1 v)},m))) (.lf (b,m))) (.lf (b,m)); .br (port==10) (.lv (Q27 m v) λ(x0:Bool)=> .br x0 (.cn (decide (0<=v)) (.br (iand u32 (ishr u32 b.C2 v) (1:Int)==(0:Int)) (.cn (decide (0<=v)) (.lp inferInstance (Qj7 b m port v (0,m)+1) ((True/\rE (v:Int)/\rZ/\rZ/\rE (0:Int)/\True)/\rE (m:List Int)/\(rE b.D0/\rE ((ior u32 b.C2 (ishl u32 1 v)):Int)/\True)/\(rE (0:Int)/\rE (0:Int)/\True)/\True) (0,m) λ(v0:Int×List Int)=> .br (decide (v0.1<32)) (let E2:=wrap i64 (wrap i64 v*32)+v0.1; .cn (Nat.beq 1 1&&Nat.blt 0 1&&decide (0<=wrap i64 E2/\wrap i64 E2<(v0.2.length:Int))) (.nx ((True/\rE (v:Int)/\rZ/\rZ/\rE ((wrap i64 (v0.1+1)):Int)/\True)/\rE ((List.set v0.2 (Int.toNat (wrap i64 (wrap i64 (wrap i64 v*32)+v0.1))) 0):List Int)/\(rE b.D0/\rE ((ior u32 b.C2 (ishl u32 1 v)):Int)/\True)/\(rE (0:Int)/\rE (0:Int)/\True)/\True) (Sum.inl (wrap i64 (v0.1+1),List.set v0.2 (Int.toNat (wrap i64 E2)) 0)))) (.lf (Sum.inr ({D0:=b.D0,C2:=ior u32 b.C2 (ishl u32 1 v)},v0.2))))) T1)) T1) T1
def Q6q(b:Q09)(m:(List Int))(port:Int)(v:Int):(Q09×(List Int)):=(Q5 b m port v).m
abbrev Qmx(b:Q09)(m:(List Int))(port:Int)(v:Int):Prop:=(Q5 b m port v).p
def Zgd:LInv:={
 α:=(Int)×(List Int)
 F:=λst a=>([(1, .all 0),(3,(lk st 3)),(4, .ptr 1 0 0),(8, .ptr 2 0 0),(9, .int i64 a.1)],[⟨false,25,1, .ints u32 a.2⟩,⟨true,40,2, .gen [[(cT st 4 0),(cT st 4 1)]]⟩,⟨true,40,2, .gen [[(cT st 8 0),(cT st 8 1)]]⟩])
 a0:=λst=>((lk st 9).toInt,(Q5k st.rows 0))
 ex0:=λst=>[0]++[(rX st 4 1),(rX st 8 2)]}
def Z6m:List (Nat×LInv):=[(4,Zgd)]
def Zk9:Q0d:=mkP 268 [false,true,false,false] true [.agg Q09.sig, .one (.row 0), .one (.int .i64), .one (.int .u32)] [.arr 25 1 (.ints .u32)] (λargs rows=>Qmx (Q09.of (aC args 0)) (rowL .u32 rows 0) (argI args 2) (argI args 3)) (λargs rows=>Q6q (Q09.of (aC args 0)) (rowL .u32 rows 0) (argI args 2) (argI args 3)) (λX=> .agg (Q09.cells (X.1))) (λX=>[⟨false,25,1, .ints .u32 (X.2)⟩])
theorem Qyl:Q06 pG Zk9:=Q0p drawn Q0k (.cons Qgk (.nil)) Tryz.func268 Tryz.call268 (λargs rows=>Q5 (Q09.of (aC args 0)) (rowL .u32 rows 0) (argI args 2) (argI args 3)) [] Z6m 3
def Qf1(m:Q00)(port:Int)(v:Int):Tree ((List Q04)×Q00):=
.br (port==0) (.lf ([{B6:=1,At:=m.A1,C0:=0,C8:=[(λ(n:Int)=>UInt8.ofNat n.toNat) (wrap u8 v)]}],m)) (.br (decide (port<=2)) (.lf ([],m)) (.br (port==3) (.lv (Qti v) λ(x0:Q0i)=> .lf ([],{B2:=m.B2,Mem:=m.Mem,A4:=m.A4,B0:=x0,B1:=m.B1,C4:=m.C4,A2:=m.A2,A1:=m.A1,A7:=m.A7,A9:=m.A9})) (.br (decide (port<=6)) (.an (Qh m.B1 m.Mem port v m.A1) (.lv (Qgd m.B1 m.Mem port v m.A1) λ(x1:Q0f×List Q04)=> .lf (x1.2,{B2:=m.B2,Mem:=m.Mem,A4:=m.A4,B0:=m.B0,B1:=x1.1,C4:=m.C4,A2:=m.A2,A1:=m.A1,A7:=m.A7,A9:=m.A9}))) (.br (decide (port<=9)) (.an (Qjn m.C4 m.Mem port v m.A1) (.lv (Qj5 m.C4 m.Mem port v m.A1) λ(x2:Q0r×List Q04)=> .lf (x2.2,{B2:=m.B2,Mem:=m.Mem,A4:=m.A4,B0:=m.B0,B1:=m.B1,C4:=x2.1,A2:=m.A2,A1:=m.A1,A7:=m.A7,A9:=m.A9}))) (.an (Qmx m.A2 m.Mem port v) (.lv (Q6q m.A2 m.Mem port v) λ(x3:Q09×List Int)=> .lf ([],{B2:=m.B2,Mem:=x3.2,A4:=m.A4,B0:=m.B0,B1:=m.B1,C4:=m.C4,A2:=x3.1,A1:=m.A1,A7:=m.A7,A9:=m.A9})))))))
def Qad(m:Q00)(port:Int)(v:Int):((List Q04)×Q00):=(Qf1 m port v).m
abbrev Qzl(m:Q00)(port:Int)(v:Int):Prop:=(Qf1 m port v).p
def Zpi:Q0d:=mkP 220 [true,false,false] true [.ptr 0, .one (.int .i64), .one (.int .u32)] [.box 43 49 (Q00.sigW (.row 1)), .arr 25 1 (.ints .u32)] (λargs rows=>Qzl (Q00.ofW (rows.getD 0 default).cs (rowL .u32 rows 1)) (argI args 1) (argI args 2)) (λargs rows=>Qad (Q00.ofW (rows.getD 0 default).cs (rowL .u32 rows 1)) (argI args 1) (argI args 2)) (λX=> .sl 4 (.recs .apiOutput (X.1)) true) (λX=>[⟨true,43,49, .gen [(Q00.cellsW (X.2) (.all 1))]⟩,⟨false,25,1, .ints .u32 (X.2).Mem⟩])
theorem Ziz:Q06 pG Zpi:=Q0p drawn Q0k (.cons Z5b (.cons Qpb (.cons Qrp (.cons Qyl (.nil))))) Tryz.func220 Tryz.call220 (λargs rows=>Qf1 (Q00.ofW (rows.getD 0 default).cs (rowL .u32 rows 1)) (argI args 1) (argI args 2)) [.sl (.recs .apiOutput) true, .row 25 1 (.ints .u32)] [] 2
def Q91(m:Q00)(clock:Int):Tree ((List Q04)×Q00):=
.an (Q7f m) (.lv (Q0n m) λ(x0:Q05)=> .an (Qrz x0 m.Mem) (.lv (Q7q x0 m.Mem) λ(x1:Q05×Q16×List Int)=>let E1:=({B2:=x1.1,Mem:=x1.2.2,A4:=m.A4,B0:=m.B0,B1:=m.B1,C4:=m.C4,A2:=m.A2,A1:=m.A1,A7:=false,A9:=m.A9}:Q00); .br (x1.2.1.B6==1) (.lv (Qdh E1 x1.2.1.D1 clock) λ(x2:Int×Q00)=> .an (Q31 x2.2.B2 x1.2.1.D9 x2.1) (.lv (Q1x x2.2.B2 x1.2.1.D9 x2.1) λ(x3:Q05)=> .lf ([],{B2:=x3,Mem:=x2.2.Mem,A4:=x2.2.A4,B0:=x2.2.B0,B1:=x2.2.B1,C4:=x2.2.C4,A2:=x2.2.A2,A1:=wrap u64 (x2.2.A1+1),A7:=x2.2.A7,A9:=x2.2.A9}))) (.br (x1.2.1.B6==2) (.an (Qzl E1 x1.2.1.D1 x1.2.1.Value) (.lv (Qad E1 x1.2.1.D1 x1.2.1.Value) λ(x4:List Q04×Q00)=> .lf (x4.1,{B2:=x4.2.B2,Mem:=x4.2.Mem,A4:=x4.2.A4,B0:=x4.2.B0,B1:=x4.2.B1,C4:=x4.2.C4,A2:=x4.2.A2,A1:=wrap u64 (x4.2.A1+1),A7:=x4.2.A7,A9:=x4.2.A9}))) (.br (x1.2.1.B6==3) (.lf ([],{B2:=x1.1,Mem:=x1.2.2,A4:=m.A4,B0:=m.B0,B1:=m.B1,C4:=m.C4,A2:=m.A2,A1:=wrap u64 (m.A1+1),A7:=true,A9:=m.A9})) (.br (x1.2.1.B6==4) (.lf ([],{B2:=x1.1,Mem:=x1.2.2,A4:=m.A4,B0:=m.B0,B1:=m.B1,C4:=m.C4,A2:=m.A2,A1:=wrap u64 (m.A1+1),A7:=false,A9:=true})) (.lf ([],{B2:=x1.1,Mem:=x1.2.2,A4:=m.A4,B0:=m.B0,B1:=m.B1,C4:=m.C4,A2:=m.A2,A1:=wrap u64 (m.A1+1),A7:=false,A9:=m.A9})))))))
def Q0o(m:Q00)(clock:Int):((List Q04)×Q00):=(Q91 m clock).m
abbrev Qnh(m:Q00)(clock:Int):Prop:=(Q91 m clock).p
def Z6d:Q0d:=mkP 160 [true,false] true [.ptr 0, .one (.int .u32)] [.box 43 49 (Q00.sigW (.row 1)), .arr 25 1 (.ints .u32)] (λargs rows=>Qnh (Q00.ofW (rows.getD 0 default).cs (rowL .u32 rows 1)) (argI args 1)) (λargs rows=>Q0o (Q00.ofW (rows.getD 0 default).cs (rowL .u32 rows 1)) (argI args 1)) (λX=> .sl 4 (.recs .apiOutput (X.1)) true) (λX=>[⟨true,43,49, .gen [(Q00.cellsW (X.2) (.all 1))]⟩,⟨false,25,1, .ints .u32 (X.2).Mem⟩])
theorem Z46:Q06 pG Z6d:=Q0p drawn Q0k (.cons Qcw (.cons Z7v (.cons Zn9 (.cons Qfd (.cons Ziz (.nil)))))) Tryz.func160 Tryz.call160 (λargs rows=>Q91 (Q00.ofW (rows.getD 0 default).cs (rowL .u32 rows 1)) (argI args 1)) [.sl (.recs .apiOutput) true, .row 25 1 (.ints .u32)] [] 2
end
noncomputable section
instance sumInhZg {α β:Type} [Inhabited β]:Inhabited (α⊕β):=⟨.inr default⟩
def Qiu(m:Q01)(port:Int)(clock:Int):Tree (Int×Q01):=
.br (decide (port<=1)) (.lv (Q5n m.A0.A4 port) λ(x0:Q0c×Int)=> .lf (x0.2,{A0:={B2:=m.A0.B2,Mem:=m.A0.Mem,A4:=x0.1,B0:=m.A0.B0,B1:=m.A0.B1,C4:=m.A0.C4,A2:=m.A0.A2,A1:=m.A0.A1,A7:=m.A0.A7,A9:=m.A0.A9},A3:=m.A3,B4:=m.B4,A6:=m.A6})) (.br (port==2) (.lf (clock,m)) (.br (port==3) (.lv (Qg4 m.A0.B0) λ(x1:Int)=> .lf (x1,m)) (.br (decide (port<=6)) (.lv (Qjd m.A0.B1 port) λ(x2:Int)=> .lf (x2,m)) (.br (decide (port<=9)) (.lv (Qi4 m.A0.C4 port) λ(x3:Int)=> .lf (x3,m)) (.lv (Q5m m.A0.A2 port) λ(x4:Int)=> .lf (x4,m))))))
def Qu9(m:Q01)(port:Int)(clock:Int):(Int×Q01):=(Qiu m port clock).m
def Zio:Q0d:=mkR 218 [true,false,false] true [.ptr 0, .one (.int .i64), .one (.int .u32)] [.box 96 52 (Q01.sigW (.row 1) (.row 2) (.row 3)), .arr 25 1 (.ints .u32), .arr 126 4 (.recs .apiEntry), .arr 66 3 (.recs .apiEvent)] (λargs rows=>Qu9 (Q01.ofW (rows.getD 0 default).cs (rowL .u32 rows 1) (rowR .apiEntry rows 2) (rowR .apiEvent rows 3)) (argI args 1) (argI args 2)) (λX=> .int .u32 (X.1)) (λX=>[⟨true,96,52, .gen [(Q01.cellsW (X.2) (.all 1) (.all 2) (.all 3))]⟩,⟨false,25,1, .ints .u32 (X.2).A0.Mem⟩,⟨false,126,4, .recs .apiEntry (X.2).B4⟩,⟨false,66,3, .recs .apiEvent (X.2).A6⟩])
theorem Zgy:Q06 pG Zio:=Q11 drawn Q0k (.cons Qm (.cons Qou (.cons Qru (.cons Qut (.cons Qls (.nil)))))) Tryz.func218 Tryz.call218 (λargs rows=>Qiu (Q01.ofW (rows.getD 0 default).cs (rowL .u32 rows 1) (rowR .apiEntry rows 2) (rowR .apiEvent rows 3)) (argI args 1) (argI args 2)) [.row 25 1 (.ints .u32), .row 126 4 (.recs .apiEntry), .row 66 3 (.recs .apiEvent)] [] 2
def Qd1(m:Q01)(port:Int)(v:Int):Tree ((List Q04)×Q01):=
.br (port==0) (.lf ([{B6:=1,At:=m.A0.A1,C0:=0,C8:=[(λ(n:Int)=>UInt8.ofNat n.toNat) (wrap u8 v)]}],m)) (.br (decide (port<=2)) (.lf ([],m)) (.br (port==3) (.lv (Qti v) λ(x0:Q0i)=> .lf ([],{A0:={B2:=m.A0.B2,Mem:=m.A0.Mem,A4:=m.A0.A4,B0:=x0,B1:=m.A0.B1,C4:=m.A0.C4,A2:=m.A0.A2,A1:=m.A0.A1,A7:=m.A0.A7,A9:=m.A0.A9},A3:=m.A3,B4:=m.B4,A6:=m.A6})) (.br (decide (port<=6)) (.an (Qh m.A0.B1 m.A0.Mem port v m.A0.A1) (.lv (Qgd m.A0.B1 m.A0.Mem port v m.A0.A1) λ(x1:Q0f×List Q04)=> .lf (x1.2,{A0:={B2:=m.A0.B2,Mem:=m.A0.Mem,A4:=m.A0.A4,B0:=m.A0.B0,B1:=x1.1,C4:=m.A0.C4,A2:=m.A0.A2,A1:=m.A0.A1,A7:=m.A0.A7,A9:=m.A0.A9},A3:=m.A3,B4:=m.B4,A6:=m.A6}))) (.br (decide (port<=9)) (.an (Qjn m.A0.C4 m.A0.Mem port v m.A0.A1) (.lv (Qj5 m.A0.C4 m.A0.Mem port v m.A0.A1) λ(x2:Q0r×List Q04)=> .lf (x2.2,{A0:={B2:=m.A0.B2,Mem:=m.A0.Mem,A4:=m.A0.A4,B0:=m.A0.B0,B1:=m.A0.B1,C4:=x2.1,A2:=m.A0.A2,A1:=m.A0.A1,A7:=m.A0.A7,A9:=m.A0.A9},A3:=m.A3,B4:=m.B4,A6:=m.A6}))) (.an (Qmx m.A0.A2 m.A0.Mem port v) (.lv (Q6q m.A0.A2 m.A0.Mem port v) λ(x3:Q09×List Int)=> .lf ([],{A0:={B2:=m.A0.B2,Mem:=x3.2,A4:=m.A0.A4,B0:=m.A0.B0,B1:=m.A0.B1,C4:=m.A0.C4,A2:=x3.1,A1:=m.A0.A1,A7:=m.A0.A7,A9:=m.A0.A9},A3:=m.A3,B4:=m.B4,A6:=m.A6})))))))
def Qqg(m:Q01)(port:Int)(v:Int):((List Q04)×Q01):=(Qd1 m port v).m
abbrev Qrj(m:Q01)(port:Int)(v:Int):Prop:=(Qd1 m port v).p
def Zgo:Q0d:=mkP 220 [true,false,false] true [.ptr 0, .one (.int .i64), .one (.int .u32)] [.box 96 52 (Q01.sigW (.row 1) (.row 2) (.row 3)), .arr 25 1 (.ints .u32), .arr 126 4 (.recs .apiEntry), .arr 66 3 (.recs .apiEvent)] (λargs rows=>Qrj (Q01.ofW (rows.getD 0 default).cs (rowL .u32 rows 1) (rowR .apiEntry rows 2) (rowR .apiEvent rows 3)) (argI args 1) (argI args 2)) (λargs rows=>Qqg (Q01.ofW (rows.getD 0 default).cs (rowL .u32 rows 1) (rowR .apiEntry rows 2) (rowR .apiEvent rows 3)) (argI args 1) (argI args 2)) (λX=> .sl 4 (.recs .apiOutput (X.1)) true) (λX=>[⟨true,96,52, .gen [(Q01.cellsW (X.2) (.all 1) (.all 2) (.all 3))]⟩,⟨false,25,1, .ints .u32 (X.2).A0.Mem⟩,⟨false,126,4, .recs .apiEntry (X.2).B4⟩,⟨false,66,3, .recs .apiEvent (X.2).A6⟩])
theorem Zcq:Q06 pG Zgo:=Q0p drawn Q0k (.cons Z5b (.cons Qpb (.cons Qrp (.cons Qyl (.nil))))) Tryz.func220 Tryz.call220 (λargs rows=>Qd1 (Q01.ofW (rows.getD 0 default).cs (rowL .u32 rows 1) (rowR .apiEntry rows 2) (rowR .apiEvent rows 3)) (argI args 1) (argI args 2)) [.sl (.recs .apiOutput) true, .row 25 1 (.ints .u32), .row 126 4 (.recs .apiEntry), .row 66 3 (.recs .apiEvent)] [] 2
def Q6b(m:Q01)(clock:Int):Tree ((List Q04)×Q01):=
.an (Q7f m.A0) (.lv (Q0n m.A0) λ(x0:Q05)=> .an (Qrz x0 m.A0.Mem) (.lv (Q7q x0 m.A0.Mem) λ(x1:Q05×Q16×List Int)=>let E1:=({B2:=x1.1,Mem:=x1.2.2,A4:=m.A0.A4,B0:=m.A0.B0,B1:=m.A0.B1,C4:=m.A0.C4,A2:=m.A0.A2,A1:=m.A0.A1,A7:=false,A9:=m.A0.A9}:Q00); .br (x1.2.1.B6==1) (.lv (Qu9 {A0:=E1,A3:=m.A3,B4:=m.B4,A6:=m.A6} x1.2.1.D1 clock) λ(x2:Int×Q01)=> .an (Q31 x2.2.A0.B2 x1.2.1.D9 x2.1) (.lv (Q1x x2.2.A0.B2 x1.2.1.D9 x2.1) λ(x3:Q05)=> .lf ([],{A0:={B2:=x3,Mem:=x2.2.A0.Mem,A4:=x2.2.A0.A4,B0:=x2.2.A0.B0,B1:=x2.2.A0.B1,C4:=x2.2.A0.C4,A2:=x2.2.A0.A2,A1:=wrap u64 (x2.2.A0.A1+1),A7:=x2.2.A0.A7,A9:=x2.2.A0.A9},A3:=x2.2.A3,B4:=x2.2.B4,A6:=x2.2.A6}))) (.br (x1.2.1.B6==2) (.an (Qrj {A0:=E1,A3:=m.A3,B4:=m.B4,A6:=m.A6} x1.2.1.D1 x1.2.1.Value) (.lv (Qqg {A0:=E1,A3:=m.A3,B4:=m.B4,A6:=m.A6} x1.2.1.D1 x1.2.1.Value) λ(x4:List Q04×Q01)=> .lf (x4.1,{A0:={B2:=x4.2.A0.B2,Mem:=x4.2.A0.Mem,A4:=x4.2.A0.A4,B0:=x4.2.A0.B0,B1:=x4.2.A0.B1,C4:=x4.2.A0.C4,A2:=x4.2.A0.A2,A1:=wrap u64 (x4.2.A0.A1+1),A7:=x4.2.A0.A7,A9:=x4.2.A0.A9},A3:=x4.2.A3,B4:=x4.2.B4,A6:=x4.2.A6}))) (.br (x1.2.1.B6==3) (.lf ([],{A0:={B2:=x1.1,Mem:=x1.2.2,A4:=m.A0.A4,B0:=m.A0.B0,B1:=m.A0.B1,C4:=m.A0.C4,A2:=m.A0.A2,A1:=wrap u64 (m.A0.A1+1),A7:=true,A9:=m.A0.A9},A3:=m.A3,B4:=m.B4,A6:=m.A6})) (.br (x1.2.1.B6==4) (.lf ([],{A0:={B2:=x1.1,Mem:=x1.2.2,A4:=m.A0.A4,B0:=m.A0.B0,B1:=m.A0.B1,C4:=m.A0.C4,A2:=m.A0.A2,A1:=wrap u64 (m.A0.A1+1),A7:=false,A9:=true},A3:=m.A3,B4:=m.B4,A6:=m.A6})) (.lf ([],{A0:={B2:=x1.1,Mem:=x1.2.2,A4:=m.A0.A4,B0:=m.A0.B0,B1:=m.A0.B1,C4:=m.A0.C4,A2:=m.A0.A2,A1:=wrap u64 (m.A0.A1+1),A7:=false,A9:=m.A0.A9},A3:=m.A3,B4:=m.B4,A6:=m.A6})))))))
def Q75(m:Q01)(clock:Int):((List Q04)×Q01):=(Q6b m clock).m
abbrev Q6v(m:Q01)(clock:Int):Prop:=(Q6b m clock).p
def Z0f:Q0d:=mkP 160 [true,false] true [.ptr 0, .one (.int .u32)] [.box 96 52 (Q01.sigW (.row 1) (.row 2) (.row 3)), .arr 25 1 (.ints .u32), .arr 126 4 (.recs .apiEntry), .arr 66 3 (.recs .apiEvent)] (λargs rows=>Q6v (Q01.ofW (rows.getD 0 default).cs (rowL .u32 rows 1) (rowR .apiEntry rows 2) (rowR .apiEvent rows 3)) (argI args 1)) (λargs rows=>Q75 (Q01.ofW (rows.getD 0 default).cs (rowL .u32 rows 1) (rowR .apiEntry rows 2) (rowR .apiEvent rows 3)) (argI args 1)) (λX=> .sl 4 (.recs .apiOutput (X.1)) true) (λX=>[⟨true,96,52, .gen [(Q01.cellsW (X.2) (.all 1) (.all 2) (.all 3))]⟩,⟨false,25,1, .ints .u32 (X.2).A0.Mem⟩,⟨false,126,4, .recs .apiEntry (X.2).B4⟩,⟨false,66,3, .recs .apiEvent (X.2).A6⟩])
theorem Qxs:Q06 pG Z0f:=Q0p drawn Q0k (.cons Qcw (.cons Z7v (.cons Zgy (.cons Qfd (.cons Zcq (.nil)))))) Tryz.func160 Tryz.call160 (λargs rows=>Q6b (Q01.ofW (rows.getD 0 default).cs (rowL .u32 rows 1) (rowR .apiEntry rows 2) (rowR .apiEvent rows 3)) (argI args 1)) [.sl (.recs .apiOutput) true, .row 25 1 (.ints .u32), .row 126 4 (.recs .apiEntry), .row 66 3 (.recs .apiEvent)] [] 2
def Qcr(r:Q01)(steps:Int)(clock:Int)(z:(Int)×Q01):Nat:=(z.2.A6.length-z.1).toNat
def Q5u(r:Q01)(steps:Int)(clock:Int)(v0:Int×Q01)(z:(Int)×Q01×(List Q04)):Nat:=(4000-z.1).toNat
def Q5z(r:Q01)(steps:Int)(clock:Int):Tree (Q01×(List Q04)):=
.an (Qmj r) (.lv (Qom r) λ(x0:Q01)=> .lv (Q6r x0.A0) λ(x1:Bool)=> .br (!x1) (.lf (x0,[])) (.lp inferInstance (Qcr r steps clock (0,{A0:=x0.A0,A3:=if clock>x0.A3 then clock else x0.A3,B4:=x0.B4,A6:=x0.A6})+1) ((rE (steps:Int)/\rZ/\rZ/\rE (0:Int)/\True)/\(mE x0.A0 True (rE ((if clock>x0.A3 then clock else x0.A3):Int)/\True/\True/\True))/\rE x0.A0.Mem/\rE x0.B4/\rE x0.A6/\(mE zM True (rE (0:Int)/\True/\True/\True))/\True) (0,{A0:=x0.A0,A3:=if clock>x0.A3 then clock else x0.A3,B4:=x0.B4,A6:=x0.A6}) λ(v0:Int×Q01)=> .br (decide (v0.1<(v0.2.A6.length:Int))) (.cn (Nat.beq 3 3&&Nat.blt 0 3&&decide (0<=v0.1/\v0.1<(v0.2.A6.length:Int))) (let E2:=v0.2.A6.getD v0.1.toNat (RK.dflt RK.apiEvent); .an (Qj6 v0.2 E2) (.lv (Qim v0.2 E2) λ(x2:Q01)=> .nx ((rE (steps:Int)/\rZ/\rZ/\rE ((wrap i64 (v0.1+1)):Int)/\True)/\(mE x2.A0 True (rE x2.A3/\True/\True/\True))/\rE x2.A0.Mem/\rE x2.B4/\rE x2.A6/\(mE zM True (rE (0:Int)/\True/\True/\True))/\True) (Sum.inl (wrap i64 (v0.1+1),x2))))) (.lp inferInstance (Q5u r steps clock v0 (0,{A0:=v0.2.A0,A3:=v0.2.A3,B4:=v0.2.B4,A6:=[]},[])+1) ((rE (steps:Int)/\rZ/\rZ/\True/\rE (0:Int)/\True)/\(mE v0.2.A0 True (rE v0.2.A3/\True/\True/\True))/\rE v0.2.A0.Mem/\rE v0.2.B4/\rE ([]:List (RK.T RK.apiEvent))/\(mE zM True (rE (0:Int)/\True/\True/\True))/\rE ([]:List (RK.T RK.apiOutput))/\True) (0,{A0:=v0.2.A0,A3:=v0.2.A3,B4:=v0.2.B4,A6:=[]},[]) λ(v1:Int×Q01×List Q04)=> .lv (Q0m steps) λ(x3:Int)=> .br (decide (v1.1<x3)) (.lv (Q8d v1.2.1.A0.B0 v1.2.1.A3) λ(x4:Bool)=> .br x4 (.an (Qj6 v1.2.1 {B6:=2,N:=0,C8:=[]}) (.lv (Qim v1.2.1 {B6:=2,N:=0,C8:=[]}) λ(x5:Q01)=> .an (Qfj x5.A0) (.lv (Q0v x5.A0) λ(x6:Bool)=> .br x6 (.lf (Sum.inr (Sum.inr (x5,v1.2.2)))) (.an (Qcs x5.A0) (.lv (Q0h x5.A0) λ(x7:Bool)=> .br x7 (.cn (decide (40*(x5.B4.length+1)<=140737488355328)) (let E3:=({At:=x5.A0.A1,C5:={B6:=1,N:=x5.A3,C8:=[]}}:Q0g); .an (Q6v {A0:=x5.A0,A3:=x5.A3,B4:=x5.B4++[E3],A6:=x5.A6} x5.A3) (.lv (Q75 {A0:=x5.A0,A3:=x5.A3,B4:=x5.B4++[E3],A6:=x5.A6} x5.A3) λ(x8:List Q04×Q01)=> .cn (decide (40*(v1.2.2.length+x8.1.length)<=140737488355328)) (.nx ((rE (steps:Int)/\rZ/\rZ/\True/\rE ((wrap i64 (v1.1+1)):Int)/\True)/\(mE x8.2.A0 True (rE ((wrap u32 (x8.2.A3+1)):Int)/\True/\True/\True))/\rE x8.2.A0.Mem/\rE x8.2.B4/\rE x8.2.A6/\(mE zM True (rE (0:Int)/\True/\True/\True))/\rE ((v1.2.2++x8.1):List (RK.T RK.apiOutput))/\True) (Sum.inl (wrap i64 (v1.1+1),{A0:=x8.2.A0,A3:=wrap u32 (x8.2.A3+1),B4:=x8.2.B4,A6:=x8.2.A6},v1.2.2++x8.1)))))) (.an (Q6v x5 x5.A3) (.lv (Q75 x5 x5.A3) λ(x9:List Q04×Q01)=> .cn (decide (40*(v1.2.2.length+x9.1.length)<=140737488355328)) (.nx ((rE (steps:Int)/\rZ/\rZ/\True/\rE ((wrap i64 (v1.1+1)):Int)/\True)/\(mE x9.2.A0 True (rE ((wrap u32 (x9.2.A3+1)):Int)/\True/\True/\True))/\rE x9.2.A0.Mem/\rE x9.2.B4/\rE x9.2.A6/\(mE zM True (rE (0:Int)/\True/\True/\True))/\rE ((v1.2.2++x9.1):List (RK.T RK.apiOutput))/\True) (Sum.inl (wrap i64 (v1.1+1),{A0:=x9.2.A0,A3:=wrap u32 (x9.2.A3+1),B4:=x9.2.B4,A6:=x9.2.A6},v1.2.2++x9.1)))))))))) (.an (Qfj v1.2.1.A0) (.lv (Q0v v1.2.1.A0) λ(x10:Bool)=> .br x10 (.lf (Sum.inr (Sum.inr (v1.2.1,v1.2.2)))) (.an (Qcs v1.2.1.A0) (.lv (Q0h v1.2.1.A0) λ(x11:Bool)=> .br x11 (.cn (decide (40*(v1.2.1.B4.length+1)<=140737488355328)) (let E1:=({At:=v1.2.1.A0.A1,C5:={B6:=1,N:=v1.2.1.A3,C8:=[]}}:Q0g); .an (Q6v {A0:=v1.2.1.A0,A3:=v1.2.1.A3,B4:=v1.2.1.B4++[E1],A6:=v1.2.1.A6} v1.2.1.A3) (.lv (Q75 {A0:=v1.2.1.A0,A3:=v1.2.1.A3,B4:=v1.2.1.B4++[E1],A6:=v1.2.1.A6} v1.2.1.A3) λ(x12:List Q04×Q01)=> .cn (decide (40*(v1.2.2.length+x12.1.length)<=140737488355328)) (.nx ((rE (steps:Int)/\rZ/\rZ/\True/\rE ((wrap i64 (v1.1+1)):Int)/\True)/\(mE x12.2.A0 True (rE ((wrap u32 (x12.2.A3+1)):Int)/\True/\True/\True))/\rE x12.2.A0.Mem/\rE x12.2.B4/\rE x12.2.A6/\(mE zM True (rE (0:Int)/\True/\True/\True))/\rE ((v1.2.2++x12.1):List (RK.T RK.apiOutput))/\True) (Sum.inl (wrap i64 (v1.1+1),{A0:=x12.2.A0,A3:=wrap u32 (x12.2.A3+1),B4:=x12.2.B4,A6:=x12.2.A6},v1.2.2++x12.1)))))) (.an (Q6v v1.2.1 v1.2.1.A3) (.lv (Q75 v1.2.1 v1.2.1.A3) λ(x13:List Q04×Q01)=> .cn (decide (40*(v1.2.2.length+x13.1.length)<=140737488355328)) (.nx ((rE (steps:Int)/\rZ/\rZ/\True/\rE ((wrap i64 (v1.1+1)):Int)/\True)/\(mE x13.2.A0 True (rE ((wrap u32 (x13.2.A3+1)):Int)/\True/\True/\True))/\rE x13.2.A0.Mem/\rE x13.2.B4/\rE x13.2.A6/\(mE zM True (rE (0:Int)/\True/\True/\True))/\rE ((v1.2.2++x13.1):List (RK.T RK.apiOutput))/\True) (Sum.inl (wrap i64 (v1.1+1),{A0:=x13.2.A0,A3:=wrap u32 (x13.2.A3+1),B4:=x13.2.B4,A6:=x13.2.A6},v1.2.2++x13.1)))))))))) (.lf (Sum.inr (Sum.inr (v1.2.1,v1.2.2)))))))
def Qdu(r:Q01)(steps:Int)(clock:Int):(Q01×(List Q04)):=(Q5z r steps clock).m
abbrev Qlg(r:Q01)(steps:Int)(clock:Int):Prop:=(Q5z r steps clock).p
def Qzx:LInv:={
 α:=(Int)×Q01
 F:=λst a=>([(1,(lk st 1)),(3, .ptr 0 0 0),(6, .ptr 4 0 0),(8, .int i64 a.1)],[⟨true,96,52, .gen [[.int u32 a.2.A0.B2.X.a0, .int u32 a.2.A0.B2.X.a1, .int u32 a.2.A0.B2.X.a2, .int u32 a.2.A0.B2.X.a3, .int u32 a.2.A0.B2.X.a4, .int u32 a.2.A0.B2.X.a5, .int u32 a.2.A0.B2.X.a6, .int u32 a.2.A0.B2.X.a7, .int u32 a.2.A0.B2.X.a8, .int u32 a.2.A0.B2.X.a9, .int u32 a.2.A0.B2.X.a10, .int u32 a.2.A0.B2.X.a11, .int u32 a.2.A0.B2.X.a12, .int u32 a.2.A0.B2.X.a13, .int u32 a.2.A0.B2.X.a14, .int u32 a.2.A0.B2.X.a15, .int u32 a.2.A0.B2.Pc, .int u32 a.2.A0.B2.B5.a0, .int u32 a.2.A0.B2.B5.a1, .int u32 a.2.A0.B2.B5.a2, .int u32 a.2.A0.B2.B5.a3, .int u32 a.2.A0.B2.B5.a4, .int u32 a.2.A0.B2.B5.a5, .int u32 a.2.A0.B2.B5.a6, .int u32 a.2.A0.B2.B5.a7, .all 1, .str a.2.A0.A4.D3, .bool a.2.A0.B0.D2, .int u32 a.2.A0.B0.C9, .bool a.2.A0.B0.D5, .int u32 a.2.A0.B1.Blocks, .int u32 a.2.A0.B1.C0, .int u32 a.2.A0.B1.Frame, .int i64 a.2.A0.B1.C1, .int i64 a.2.A0.B1.D8, .int u32 a.2.A0.B1.B7, .int u32 a.2.A0.B1.B3, .str a.2.A0.B1.C3, .int u32 a.2.A0.C4.Frame, .int u32 a.2.A0.C4.E0, .bool a.2.A0.C4.C6, .int u32 a.2.A0.C4.B9, .bool a.2.A0.C4.B8, .int u32 a.2.A0.C4.F1, .int u32 a.2.A0.A2.D0, .int u32 a.2.A0.A2.C2, .int u64 a.2.A0.A1, .bool a.2.A0.A7, .bool a.2.A0.A9, .int u32 a.2.A3, .all 2, .all 3]]⟩,⟨false,25,1, .ints u32 a.2.A0.Mem⟩,⟨false,126,4, .recs RK.apiEntry a.2.B4⟩,⟨false,66,3, .recs RK.apiEvent a.2.A6⟩,⟨true,96,52, .gen [[(cT st 6 0),(cT st 6 1),(cT st 6 2),(cT st 6 3),(cT st 6 4),(cT st 6 5),(cT st 6 6),(cT st 6 7),(cT st 6 8),(cT st 6 9),(cT st 6 10),(cT st 6 11),(cT st 6 12),(cT st 6 13),(cT st 6 14),(cT st 6 15),(cT st 6 16),(cT st 6 17),(cT st 6 18),(cT st 6 19),(cT st 6 20),(cT st 6 21),(cT st 6 22),(cT st 6 23),(cT st 6 24),(cT st 6 25),(cT st 6 26),(cT st 6 27),(cT st 6 28),(cT st 6 29),(cT st 6 30),(cT st 6 31),(cT st 6 32),(cT st 6 33),(cT st 6 34),(cT st 6 35),(cT st 6 36),(cT st 6 37),(cT st 6 38),(cT st 6 39),(cT st 6 40),(cT st 6 41),(cT st 6 42),(cT st 6 43),(cT st 6 44),(cT st 6 45),(cT st 6 46),(cT st 6 47),(cT st 6 48),(cT st 6 49),(cT st 6 50),(cT st 6 51)]]⟩])
 a0:=λst=>((lk st 8).toInt,(⟨(mR (cT st 3) (Q5k st.rows (Q0t (cT st 3 25) 1000000))),(cT st 3 49).toInt,(Q5e RK.apiEntry st.rows (Q0t (cT st 3 50) 1000000)),(Q5e RK.apiEvent st.rows (Q0t (cT st 3 51) 1000000))⟩:Q01))
 ex0:=λst=>[]++[(rX st 3 0),(Q0t (cT st 3 25) (st.rows.length+1)),(Q0t (cT st 3 50) (st.rows.length+2)),(Q0t (cT st 3 51) (st.rows.length+3)),(rX st 6 4)]}
def Z0b:LInv:={
 α:=(Int)×Q01×(List Q04)
 F:=λst a=>([(1,(lk st 1)),(3, .ptr 0 0 0),(6, .ptr 4 0 0),(9, .all 5),(10, .int i64 a.1)],[⟨true,96,52, .gen [[.int u32 a.2.1.A0.B2.X.a0, .int u32 a.2.1.A0.B2.X.a1, .int u32 a.2.1.A0.B2.X.a2, .int u32 a.2.1.A0.B2.X.a3, .int u32 a.2.1.A0.B2.X.a4, .int u32 a.2.1.A0.B2.X.a5, .int u32 a.2.1.A0.B2.X.a6, .int u32 a.2.1.A0.B2.X.a7, .int u32 a.2.1.A0.B2.X.a8, .int u32 a.2.1.A0.B2.X.a9, .int u32 a.2.1.A0.B2.X.a10, .int u32 a.2.1.A0.B2.X.a11, .int u32 a.2.1.A0.B2.X.a12, .int u32 a.2.1.A0.B2.X.a13, .int u32 a.2.1.A0.B2.X.a14, .int u32 a.2.1.A0.B2.X.a15, .int u32 a.2.1.A0.B2.Pc, .int u32 a.2.1.A0.B2.B5.a0, .int u32 a.2.1.A0.B2.B5.a1, .int u32 a.2.1.A0.B2.B5.a2, .int u32 a.2.1.A0.B2.B5.a3, .int u32 a.2.1.A0.B2.B5.a4, .int u32 a.2.1.A0.B2.B5.a5, .int u32 a.2.1.A0.B2.B5.a6, .int u32 a.2.1.A0.B2.B5.a7, .all 1, .str a.2.1.A0.A4.D3, .bool a.2.1.A0.B0.D2, .int u32 a.2.1.A0.B0.C9, .bool a.2.1.A0.B0.D5, .int u32 a.2.1.A0.B1.Blocks, .int u32 a.2.1.A0.B1.C0, .int u32 a.2.1.A0.B1.Frame, .int i64 a.2.1.A0.B1.C1, .int i64 a.2.1.A0.B1.D8, .int u32 a.2.1.A0.B1.B7, .int u32 a.2.1.A0.B1.B3, .str a.2.1.A0.B1.C3, .int u32 a.2.1.A0.C4.Frame, .int u32 a.2.1.A0.C4.E0, .bool a.2.1.A0.C4.C6, .int u32 a.2.1.A0.C4.B9, .bool a.2.1.A0.C4.B8, .int u32 a.2.1.A0.C4.F1, .int u32 a.2.1.A0.A2.D0, .int u32 a.2.1.A0.A2.C2, .int u64 a.2.1.A0.A1, .bool a.2.1.A0.A7, .bool a.2.1.A0.A9, .int u32 a.2.1.A3, .all 2, .all 3]]⟩,⟨false,25,1, .ints u32 a.2.1.A0.Mem⟩,⟨false,126,4, .recs RK.apiEntry a.2.1.B4⟩,⟨false,66,3, .recs RK.apiEvent a.2.1.A6⟩,⟨true,96,52, .gen [[(cT st 6 0),(cT st 6 1),(cT st 6 2),(cT st 6 3),(cT st 6 4),(cT st 6 5),(cT st 6 6),(cT st 6 7),(cT st 6 8),(cT st 6 9),(cT st 6 10),(cT st 6 11),(cT st 6 12),(cT st 6 13),(cT st 6 14),(cT st 6 15),(cT st 6 16),(cT st 6 17),(cT st 6 18),(cT st 6 19),(cT st 6 20),(cT st 6 21),(cT st 6 22),(cT st 6 23),(cT st 6 24),(cT st 6 25),(cT st 6 26),(cT st 6 27),(cT st 6 28),(cT st 6 29),(cT st 6 30),(cT st 6 31),(cT st 6 32),(cT st 6 33),(cT st 6 34),(cT st 6 35),(cT st 6 36),(cT st 6 37),(cT st 6 38),(cT st 6 39),(cT st 6 40),(cT st 6 41),(cT st 6 42),(cT st 6 43),(cT st 6 44),(cT st 6 45),(cT st 6 46),(cT st 6 47),(cT st 6 48),(cT st 6 49),(cT st 6 50),(cT st 6 51)]]⟩,⟨false,71,4, .recs RK.apiOutput a.2.2⟩])
 a0:=λst=>((lk st 10).toInt,(⟨(mR (cT st 3) (Q5k st.rows (Q0t (cT st 3 25) 1000000))),(cT st 3 49).toInt,(Q5e RK.apiEntry st.rows (Q0t (cT st 3 50) 1000000)),(Q5e RK.apiEvent st.rows (Q0t (cT st 3 51) 1000000))⟩:Q01),(Q5e RK.apiOutput st.rows (rN st 9)))
 ex0:=λst=>[]++[(rX st 3 0),(Q0t (cT st 3 25) (st.rows.length+1)),(Q0t (cT st 3 50) (st.rows.length+2)),(Q0t (cT st 3 51) (st.rows.length+3)),(rX st 6 4),(rX st 9 5)]}
def Qu2:List (Nat×LInv):=[(6,Qzx),(12,Z0b)]
def Z3t:Q0d:=mkP 147 [] true [.agg Q01.sig, .one (.int .i64), .one (.int .u32)] [] (λargs rows=>Qlg (Q01.of (aC args 0)) (argI args 1) (argI args 2)) (λargs rows=>Qdu (Q01.of (aC args 0)) (argI args 1) (argI args 2)) (λX=> .tup [.agg (Q01.cellsW (X.1) (.all 0) (.all 1) (.all 2)), .all 3]) (λX=>[⟨false,25,1, .ints .u32 (X.1).A0.Mem⟩,⟨false,126,4, .recs .apiEntry (X.1).B4⟩,⟨false,66,3, .recs .apiEvent (X.1).A6⟩,⟨false,71,4, .recs .apiOutput (X.2)⟩])
theorem Z0c:Q06 pG Z3t:=Q0p drawn Q0k (.cons Qyt (.cons Qs2 (.cons Z5n (.cons Z06 (.cons Zir (.cons Qtc (.cons Quh (.cons Qxs (.nil))))))))) Tryz.func147 Tryz.call147 (λargs rows=>Q5z (Q01.of (aC args 0)) (argI args 1) (argI args 2)) [.row 25 1 (.ints .u32), .row 126 4 (.recs .apiEntry), .row 66 3 (.recs .apiEvent), .row 71 4 (.recs .apiOutput)] Qu2 3

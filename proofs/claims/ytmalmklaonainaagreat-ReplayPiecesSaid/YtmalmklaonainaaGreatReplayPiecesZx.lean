import Derived.Test.YtmalmklaonainaaGreatReplayPiecesYx
set_option maxRecDepth 100000
set_option linter.all false
namespace Go.Proofs.YtmalmklaonainaaGreat
open Go Go.GD Go.IntKind
noncomputable section
def Qeo(m:(List Int)):Tree (List Int):=
.cn (Nat.blt (0:Nat) (1:Nat)&&Nat.beq (1:Nat) (1:Nat)&&List.all [D.int u32 (0:Int)] D.plain&&decide ((0:Int)<=(m.length:Int)/\(m.length:Int)<=(m.length:Int)/\(m.length:Int)<=(9223372036854775807:Int)/\(↑(4:Nat):Int)*(m.length:Int)<=(140737488355328:Int))) (let E1:=List.length (List.replicate (Int.toNat (m.length:Int)) (0:Int)); .lf (List.take (Min.min (m.length) E1) m++List.drop (Min.min (m.length) E1) (List.replicate (Int.toNat (m.length:Int)) (0:Int))))
def Qv8(m:(List Int)):(List Int):=(Qeo m).m
abbrev Qt5(m:(List Int)):Prop:=(Qeo m).p
def Zjd:Q0d:=mkP 122 [] true [.one (.ints .u32)] [] (λargs rows=>Qt5 (argL .u32 args 0)) (λargs rows=>Qv8 (argL .u32 args 0)) (λX=> .all 0) (λX=>[⟨false,25,1, .ints .u32 X⟩])
theorem Zgd:Q06 pG Zjd:=Q0p drawn Q0k (.nil) Tryz.func122 Tryz.call122 (λargs rows=>Qeo (argL .u32 args 0)) [.row 25 1 (.ints .u32)] [] 2
def Qd3(m:Q00):Tree Q00:=
.an (Qt5 m.Mem) (.lv (Qv8 m.Mem) λ(x0:List Int)=> .lf ({B2:=m.B2,Mem:=x0,A4:=m.A4,B0:=m.B0,B1:=m.B1,C4:=m.C4,A2:=m.A2,A1:=m.A1,A7:=m.A7,A9:=m.A9}))
def Qn8(m:Q00):Q00:=(Qd3 m).m
abbrev Qgq(m:Q00):Prop:=(Qd3 m).p
def Zpl:Q0d:=mkP 34 [] true [.agg Q00.sig] [] (λargs rows=>Qgq (Q00.of (aC args 0))) (λargs rows=>Qn8 (Q00.of (aC args 0))) (λX=> .agg (Q00.cellsW X (.all 0))) (λX=>[⟨false,25,1, .ints .u32 X.Mem⟩])
theorem Qs1:Q06 pG Zpl:=Q0p drawn Q0k (.cons Zgd (.nil)) Tryz.func34 Tryz.call34 (λargs rows=>Qd3 (Q00.of (aC args 0))) [.row 25 1 (.ints .u32)] [] 2
def Qr4(n:Int)(k:Int)(z:(Int)×(List Int)):Prop:=0<=z.1/\(z.2.length:Int)=z.1/\(z.1<=k\/z.1=0)
def Qdl(n:Int)(k:Int)(z:(Int)×(List Int)):Nat:=(k-z.1).toNat
def Qf4(n:Int)(k:Int):Tree (List UInt8):=
.lp inferInstance (Qdl n k (0,[])+1) ((rE (n:Int)/\rE (k:Int)/\True/\rE (0:Int)/\True)/\rE ([]:List Int)/\True) (0,[]) λ(v0:Int×List Int)=> .br (decide (v0.1<k)) (.lv (Q3a n (wrap i64 (Int.tdiv v0.1 9))) λ(x0:Int)=> .cn (decide (1*(v0.2.length+1)<=140737488355328)) (.nx ((rE (n:Int)/\rE (k:Int)/\True/\rE ((wrap i64 (v0.1+1)):Int)/\True)/\rE ((v0.2++[wrap u8 x0]):List Int)/\True) (Sum.inl (wrap i64 (v0.1+1),v0.2++[wrap u8 x0])))) (.lf (Sum.inr (bytesOf v0.2)))
def Qvm(n:Int)(k:Int):(List UInt8):=(Qf4 n k).m
def Qaf(n:Int)(k:Int):Prop:=
k<=1000000000000
theorem Zbe(n:Int)(k:Int)(hw:Qaf n k):(Qf4 n k).p:=by
 simp only[Qaf]at hw
 unfold Tree.p Qf4
 repeat'(first|refine w_lp (inv:=Qr4 n k) (μ:=Qdl n k) ?_ (Nat.lt_succ_self _) (λ_ _=> ?_)|exact trivial|refine w_br (λ_=> ?_) (λ_=> ?_)|refine w_cn ?_ ?_|refine w_an ?_ ?_|refine w_lv (λ_ _=> ?_)|refine w_nx ?_|refine w_lf ?_|refine And.intro ?_ ?_)
 all_goals((try simp only[Qr4,Qdl]at*);exact fin0)
def Zgb:LInv:={
 α:=(Int)×(List Int)
 F:=λst a=>([(0,(lk st 0)),(1,(lk st 1)),(5, .all 0),(6, .int i64 a.1)],[⟨false,5,1, .ints u8 a.2⟩])
 a0:=λst=>((lk st 6).toInt,(Q5d st.rows (rN st 5)))
 ex0:=λst=>[]++[(rX st 5 0)]}
def Z6d:List (Nat×LInv):=[(3,Zgb)]
def Zki:Q0d:=mkP 84 [] true [.one (.int .i64), .one (.int .i64)] [] (λargs rows=>Qaf (argI args 0) (argI args 1)) (λargs rows=>Qvm (argI args 0) (argI args 1)) (λX=> .str X) (λX=>[])
theorem Zhc:Q06 pG Zki:=Q0p drawn Q0k (.cons Qmj (.nil)) Tryz.func84 Tryz.call84 (λargs rows=>Qf4 (argI args 0) (argI args 1)) [] Z6d 3 (hp:=λargs rows h=>Zbe (argI args 0) (argI args 1) h)
def Qf1(r:Q01):Tree Q01:=
.an (Qgq r.A0) (.lv (Qn8 r.A0) λ(x0:Q00)=> .cn (decide (40*(0+r.B4.length)<=140737488355328)) (.cn (decide (32*(0+r.A6.length)<=140737488355328)) (.lf ({A0:=x0,A3:=r.A3,B4:=r.B4,A6:=r.A6}))))
def Qoj(r:Q01):Q01:=(Qf1 r).m
abbrev Qmp(r:Q01):Prop:=(Qf1 r).p
def Zjq:Q0d:=mkP 212 [] true [.agg Q01.sig] [] (λargs rows=>Qmp (Q01.of (aC args 0))) (λargs rows=>Qoj (Q01.of (aC args 0))) (λX=> .agg (Q01.cellsW X (.all 0) (.all 1) (.all 2))) (λX=>[⟨false,25,1, .ints .u32 X.A0.Mem⟩,⟨false,126,4, .recs .apiEntry X.B4⟩,⟨false,66,3, .recs .apiEvent X.A6⟩])
theorem Qzj:Q06 pG Zjq:=Q0p drawn Q0k (.cons Qs1 (.nil)) Tryz.func212 Tryz.call212 (λargs rows=>Qf1 (Q01.of (aC args 0))) [.row 25 1 (.ints .u32), .row 126 4 (.recs .apiEntry), .row 66 3 (.recs .apiEvent)] [] 2
def Qmd(e:Q0a):Tree Bool:=
.br (e.B6==1) (.lf (decide (e.C8=[]))) (.br (e.B6==6) (.lf (decide (e.C8=[]))) (.br (e.B6==2) (.br (e.N==0) (.lf (decide (e.C8=[]))) (.lf false)) (.br (e.B6==3) (.br (decide (e.N<=255)) (.lf (decide (e.C8=[]))) (.lf false)) (.br (e.B6==4) (.br (decide (e.N<=1)) (.br (decide (e.C8=[])) (.lf true) (.br (e.N==1) (.lf ((e.C8.length:Int)==(128:Int))) (.lf false))) (.lf false)) (.br (e.B6==5) (.br (e.N==0) (.br (decide ((e.C8.length:Int)>=(1:Int))) (.lf (decide ((e.C8.length:Int)<=(128:Int)))) (.lf false)) (.lf false)) (.lf false))))))
def Q1w(e:Q0a):Bool:=(Qmd e).m
def Zbb:Q0d:=mkR 154 [] true [.agg Q0a.sig] [] (λargs rows=>Q1w (Q0a.of (aC args 0))) (λX=> .bool X) (λX=>[])
theorem Z73:Q06 pG Zbb:=Q11 drawn Q0k (.nil) Tryz.func154 Tryz.call154 (λargs rows=>Qmd (Q0a.of (aC args 0))) [] [] 2
def Q8u(r:Q01)(e:Q0a):Tree (Q01×Bool):=
.an (Qmp r) (.lv (Qoj r) λ(x0:Q01)=> .lv (Q1w e) λ(x1:Bool)=> .br (!x1) (.lf (x0,false)) (.br (e.B6==1) (.lf (x0,false)) (.br (decide ((x0.A6.length:Int)>=(16:Int))) (.lf (x0,false)) (.cn (decide (32*(x0.A6.length+1)<=140737488355328)) (.lf ({A0:=x0.A0,A3:=x0.A3,B4:=x0.B4,A6:=x0.A6++[e]},true))))))
def Q2q(r:Q01)(e:Q0a):(Q01×Bool):=(Q8u r e).m
abbrev Qnv(r:Q01)(e:Q0a):Prop:=(Q8u r e).p
def Z6q:Q0d:=mkP 146 [] true [.agg Q01.sig, .agg Q0a.sig] [] (λargs rows=>Qnv (Q01.of (aC args 0)) (Q0a.of (aC args 1))) (λargs rows=>Q2q (Q01.of (aC args 0)) (Q0a.of (aC args 1))) (λX=> .tup [.agg (Q01.cellsW (X.1) (.all 0) (.all 1) (.all 2)), .bool (X.2)]) (λX=>[⟨false,25,1, .ints .u32 (X.1).A0.Mem⟩,⟨false,126,4, .recs .apiEntry (X.1).B4⟩,⟨false,66,3, .recs .apiEvent (X.1).A6⟩])
theorem Z2p:Q06 pG Z6q:=Q0p drawn Q0k (.cons Qzj (.cons Z73 (.nil))) Tryz.func146 Tryz.call146 (λargs rows=>Q8u (Q01.of (aC args 0)) (Q0a.of (aC args 1))) [.row 25 1 (.ints .u32), .row 126 4 (.recs .apiEntry), .row 66 3 (.recs .apiEvent)] [] 2
def Q9f(n:Int):Tree Q0a:=
.lv (Q3a n 2) λ(x0:Int)=> .br (Int.tmod x0 (7:Int)==(0:Int)) (.lf ({B6:=2,N:=0,C8:=[]})) (.br (Int.tmod x0 (7:Int)==(1:Int)) (.lf ({B6:=3,N:=wrap u32 (iand i64 (ishr i64 x0 8) 255),C8:=[]})) (.br (Int.tmod x0 (7:Int)==(2:Int)) (.lf ({B6:=3,N:=wrap u32 (iand i64 (ishr i64 x0 8) 255),C8:=[]})) (.br (Int.tmod x0 (7:Int)==(3:Int)) (.lf ({B6:=4,N:=1,C8:=[]})) (.br (Int.tmod x0 (7:Int)==(4:Int)) (.an (Qaf x0 128) (.lv (Qvm x0 128) λ(x1:List UInt8)=> .lf ({B6:=4,N:=1,C8:=x1}))) (.br (Int.tmod x0 (7:Int)==(5:Int)) (let E1:=wrap i64 (1+Int.tmod (ishr i64 x0 8) 40); .an (Qaf x0 E1) (.lv (Qvm x0 E1) λ(x2:List UInt8)=> .lf ({B6:=5,N:=0,C8:=x2}))) (.br (Int.tmod (ishr i64 x0 8) (4:Int)==(0:Int)) (.lf ({B6:=4,N:=0,C8:=[]})) (.lf ({B6:=6,N:=wrap u32 (Int.tmod (ishr i64 x0 8) 3),C8:=[]}))))))))
def Q4x(n:Int):Q0a:=(Q9f n).m
abbrev Qrr(n:Int):Prop:=(Q9f n).p
def Zdx:Q0d:=mkP 76 [] true [.one (.int .i64)] [] (λargs rows=>Qrr (argI args 0)) (λargs rows=>Q4x (argI args 0)) (λX=> .agg (Q0a.cells X)) (λX=>[])
theorem Zbz:Q06 pG Zdx:=Q0p drawn Q0k (.cons Qmj (.cons Zhc (.nil))) Tryz.func76 Tryz.call76 (λargs rows=>Q9f (argI args 0)) [] [] 2
def Qon(m:(List Int)):Tree Int:=
.br (Int.tmod (m.length:Int) (32:Int) !=(0:Int)) (.lf 0) (.br (decide ((m.length:Int)>(1024:Int))) (.lf 0) (.lf (wrap i64 (Int.tdiv (m.length:Int) 32))))
def Q3x(m:(List Int)):Int:=(Qon m).m
def Zdd:Q0d:=mkR 93 [] true [.one (.ints .u32)] [] (λargs rows=>Q3x (argL .u32 args 0)) (λX=> .int .i64 X) (λX=>[])
theorem Qeg:Q06 pG Zdd:=Q11 drawn Q0k (.nil) Tryz.func93 Tryz.call93 (λargs rows=>Qon (argL .u32 args 0)) [] [] 2
def Qls(c:Q0c):Tree Bool:=
.lf (decide ((c.D3.length:Int)<=(16:Int)))
def Qi8(c:Q0c):Bool:=(Qls c).m
def Qy1:Q0d:=mkR 94 [] true [.agg Q0c.sig] [] (λargs rows=>Qi8 (Q0c.of (aC args 0))) (λX=> .bool X) (λX=>[])
theorem Qth:Q06 pG Qy1:=Q11 drawn Q0k (.nil) Tryz.func94 Tryz.call94 (λargs rows=>Qls (Q0c.of (aC args 0))) [] [] 2
def Qju(t:Q0i):Tree Bool:=
.br t.D2 (.br t.D5 (.lf false) (.br t.D2 (.lf (t.C9 !=0)) (.br t.D5 (.lf true) (.lf (t.C9==0))))) (.br t.D2 (.lf (t.C9 !=0)) (.br t.D5 (.lf true) (.lf (t.C9==0))))
def Qdt(t:Q0i):Bool:=(Qju t).m
def Z43:Q0d:=mkR 95 [] true [.agg Q0i.sig] [] (λargs rows=>Qdt (Q0i.of (aC args 0))) (λX=> .bool X) (λX=>[])
theorem Z05:Q06 pG Z43:=Q11 drawn Q0k (.nil) Tryz.func95 Tryz.call95 (λargs rows=>Qju (Q0i.of (aC args 0))) [] [] 2
def Qkw(d0:Q0f)(pages:Int):Tree Bool:=
.br (decide (d0.Blocks>64)) (.lf false) (.br (decide (d0.C1<0)) (.lf false) (.br (decide (d0.C1>3)) (.lf false) (.br (d0.C1 !=1) (.br (d0.D8==0) (.br (d0.B7==0) (.br (d0.B3==0) (.lf (decide (d0.C3=[]))) (.lf false)) (.lf false)) (.lf false)) (.br (decide (d0.B7>=d0.Blocks)) (.lf false) (.br (decide (wrap i64 d0.B3>=pages)) (.lf false) (.br (d0.D8==1) (.br (decide (d0.C3=[])) (.lf true) (.br (d0.D8==2) (.lf ((d0.C3.length:Int)==(128:Int))) (.lf false))) (.br (d0.D8==2) (.lf ((d0.C3.length:Int)==(128:Int))) (.lf false))))))))
def Qga(d0:Q0f)(pages:Int):Bool:=(Qkw d0 pages).m
def Z66:Q0d:=mkR 96 [] true [.agg Q0f.sig, .one (.int .i64)] [] (λargs rows=>Qga (Q0f.of (aC args 0)) (argI args 1)) (λX=> .bool X) (λX=>[])
theorem Z3:Q06 pG Z66:=Q11 drawn Q0k (.nil) Tryz.func96 Tryz.call96 (λargs rows=>Qkw (Q0f.of (aC args 0)) (argI args 1)) [] [] 2
def Qn4(n:Q0r)(pages:Int):Tree Bool:=
let T1:Tree (Bool):= .br n.B8 (.br (decide (n.F1>=1)) (.lf (decide (n.F1<=128))) (.lf false)) (.lf (n.F1==0)); .br n.C6 (.br n.B8 (.lf false) (.br (decide (wrap i64 n.B9>=pages)) (.lf false) (.br (!n.C6) (.br (n.B9 !=0) (.lf false) T1) T1))) (.br (!n.C6) (.br (n.B9 !=0) (.lf false) T1) T1)
def Qjl(n:Q0r)(pages:Int):Bool:=(Qn4 n pages).m
def Zbo:Q0d:=mkR 97 [] true [.agg Q0r.sig, .one (.int .i64)] [] (λargs rows=>Qjl (Q0r.of (aC args 0)) (argI args 1)) (λX=> .bool X) (λX=>[])
theorem Z67:Q06 pG Zbo:=Q11 drawn Q0k (.nil) Tryz.func97 Tryz.call97 (λargs rows=>Qn4 (Q0r.of (aC args 0)) (argI args 1)) [] [] 2
def Qhb(b:Q09)(pages:Int)(z:(Int)):Prop:=0<=z/\z<=32
def Q6x(b:Q09)(pages:Int)(z:(Int)):Nat:=(32-z).toNat
def Q5q(b:Q09)(pages:Int):Tree Bool:=
.lp inferInstance (Q6x b pages 0+1) ((rE (pages:Int)/\rZ/\rE (0:Int)/\True)/\(rE b.D0/\rE b.C2/\True)/\True) 0 λ(v0:Int)=> .br (decide (v0<32)) (.cn (decide (0<=wrap u64 v0)) (let T1:Tree ((Int)⊕(Bool)):= .nx ((rE (pages:Int)/\rZ/\rE ((wrap i64 (v0+1)):Int)/\True)/\(rE b.D0/\rE b.C2/\True)/\True) (Sum.inl (wrap i64 (v0+1))); .br (iand u32 (ishr u32 b.C2 (wrap u64 v0)) (1:Int)==(1:Int)) (.br (decide (v0>=pages)) (.lf (Sum.inr false)) T1) T1)) (.lf (Sum.inr true))
def Q9n(b:Q09)(pages:Int):Bool:=(Q5q b pages).m
theorem Qsc(b:Q09)(pages:Int):(Q5q b pages).p:=by
 unfold Tree.p Q5q
 repeat'(first|refine w_lp (inv:=Qhb b pages) (μ:=Q6x b pages) ?_ (Nat.lt_succ_self _) (λ_ _=> ?_)|exact trivial|refine w_br (λ_=> ?_) (λ_=> ?_)|refine w_cn ?_ ?_|refine w_an ?_ ?_|refine w_lv (λ_ _=> ?_)|refine w_nx ?_|refine w_lf ?_|refine And.intro ?_ ?_)
 all_goals((try simp only[Qhb,Q6x]at*);exact fin0)
def Qun:LInv:={
 α:=(Int)
 F:=λst a=>([(1,(lk st 1)),(2, .ptr 0 0 0),(5, .int i64 a)],[⟨true,40,2, .gen [[(cT st 2 0),(cT st 2 1)]]⟩])
 a0:=λst=>(lk st 5).toInt
 ex0:=λst=>[]++[(rX st 2 0)]}
def Qqy:List (Nat×LInv):=[(2,Qun)]
def Qy5:Q0d:=mkR 98 [] true [.agg Q09.sig, .one (.int .i64)] [] (λargs rows=>Q9n (Q09.of (aC args 0)) (argI args 1)) (λX=> .bool X) (λX=>[])
theorem Qtp:Q06 pG Qy5:=Q11 drawn Q0k (.nil) Tryz.func98 Tryz.call98 (λargs rows=>Q5q (Q09.of (aC args 0)) (argI args 1)) [] Qqy 3 (λ_ _ _=>by kernel_rfl) (λ_ _=>rfl) (λargs rows=>Qsc (Q09.of (aC args 0)) (argI args 1)) (λ_ X=>by kernel_rfl)
def Qxs(m:Q00):Tree Bool:=
.lv (Q3x m.Mem) λ(x0:Int)=> .br (decide (x0<1)) (.lf false) (.br (m.B2.X.a0 !=0) (.lf false) (.br (decide (m.B2.B5.a0>31)) (.lf false) (.br (decide (m.B2.B5.a7>31)) (.lf false) (.br (decide (m.B2.B5.a6>255)) (.lf false) (.br (Int.tmod m.B2.B5.a1 (4:Int) !=(0:Int)) (.lf false) (.lv (Qi8 m.A4) λ(x1:Bool)=> .br (!x1) (.lf false) (.lv (Qdt m.B0) λ(x2:Bool)=> .br (!x2) (.lf false) (.lv (Qga m.B1 x0) λ(x3:Bool)=> .br (!x3) (.lf false) (.lv (Qjl m.C4 x0) λ(x4:Bool)=> .br (!x4) (.lf false) (.lv (Q9n m.A2 x0) λ(x5:Bool)=> .br (!x5) (.lf false) (.br (decide (m.A1<=1152921504606846976)) (.br m.A7 (.lf (!m.A9)) (.lf true)) (.lf false))))))))))))
def Q6u(m:Q00):Bool:=(Qxs m).m
def Zoi:Q0d:=mkR 25 [] true [.agg Q00.sig] [] (λargs rows=>Q6u (Q00.of (aC args 0))) (λX=> .bool X) (λX=>[])
theorem Qsa:Q06 pG Zoi:=Q11 drawn Q0k (.cons Qeg (.cons Qth (.cons Z05 (.cons Z3 (.cons Z67 (.cons Qtp (.nil))))))) Tryz.func25 Tryz.call25 (λargs rows=>Qxs (Q00.of (aC args 0))) [] [] 2
def Q9k(t:Q0i):Tree (Q0i×Bool):=
.br (!t.D2) (.lf (t,false)) (.lf ({D2:=false,C9:=t.C9,D5:=true},true))
def Q6z(t:Q0i):(Q0i×Bool):=(Q9k t).m
def Zie:Q0d:=mkR 221 [] true [.agg Q0i.sig] [] (λargs rows=>Q6z (Q0i.of (aC args 0))) (λX=> .tup [.agg (Q0i.cells (X.1)), .bool (X.2)]) (λX=>[])
theorem Qyo:Q06 pG Zie:=Q11 drawn Q0k (.nil) Tryz.func221 Tryz.call221 (λargs rows=>Q9k (Q0i.of (aC args 0))) [] [] 2
def Qcu(c:Q0c)(b:Int):Tree (Q0c×Bool):=
.br (decide ((c.D3.length:Int)>=(16:Int))) (.lf (c,false)) (.cn (decide (c.D3.length+1<=maxLen)) (.lf ({D3:=c.D3++[(λ(n:Int)=>UInt8.ofNat n.toNat) b]},true)))
def Qlx(c:Q0c)(b:Int):(Q0c×Bool):=(Qcu c b).m
abbrev Qmc(c:Q0c)(b:Int):Prop:=(Qcu c b).p
def Zjh:Q0d:=mkP 222 [] true [.agg Q0c.sig, .one (.int .u8)] [] (λargs rows=>Qmc (Q0c.of (aC args 0)) (argI args 1)) (λargs rows=>Qlx (Q0c.of (aC args 0)) (argI args 1)) (λX=> .tup [.agg (Q0c.cells (X.1)), .bool (X.2)]) (λX=>[])
theorem Qyd:Q06 pG Zjh:=Q0p drawn Q0k (.nil) Tryz.func222 Tryz.call222 (λargs rows=>Qcu (Q0c.of (aC args 0)) (argI args 1)) [] [] 2
def Qjo(m:(List Int))(frame:Int):Tree Bool:=
.lv (Q3x m) λ(x0:Int)=> .lf (decide (wrap u64 frame<wrap u64 x0))
def Q27(m:(List Int))(frame:Int):Bool:=(Qjo m frame).m
def Zio:Q0d:=mkR 269 [] true [.one (.ints .u32), .one (.int .u32)] [] (λargs rows=>Q27 (argL .u32 args 0) (argI args 1)) (λX=> .bool X) (λX=>[])
theorem Qgf:Q06 pG Zio:=Q11 drawn Q0k (.cons Qeg (.nil)) Tryz.func269 Tryz.call269 (λargs rows=>Qjo (argL .u32 args 0) (argI args 1)) [] [] 2
def Qfc(m:(List Int))(addr:Int)(size:Int)(v:Int):Tree (List Int):=
let E1:=Nat.beq 1 1&&Nat.blt 0 1&&decide (0<=wrap u32 (Int.tdiv addr 4)/\wrap u32 (Int.tdiv addr 4)<(m.length:Int));let E2:=Int.toNat (wrap u32 (Int.tdiv addr 4)); .br (size==4) (.cn E1 (.lf (List.set m E2 v))) (.cn E1 (let E3:=decide (0<=wrap u32 (8*Int.tmod addr 4)); .cn E3 (.cn E3 (.cn E1 (.lf (List.set m E2 (ior u32 (Qhk u32 (m.getD E2 0) (ishl u32 255 (wrap u32 (8*Int.tmod addr 4)))) (ishl u32 (iand u32 v 255) (wrap u32 (8*Int.tmod addr 4))))))))))
def Qah(m:(List Int))(addr:Int)(size:Int)(v:Int):(List Int):=(Qfc m addr size v).m
abbrev Qg7(m:(List Int))(addr:Int)(size:Int)(v:Int):Prop:=(Qfc m addr size v).p
def Zne:Q0d:=mkP 300 [true,false,false,false] true [.one (.row 0), .one (.int .u32), .one (.int .i64), .one (.int .u32)] [.arr 25 1 (.ints .u32)] (λargs rows=>Qg7 (rowL .u32 rows 0) (argI args 1) (argI args 2) (argI args 3)) (λargs rows=>Qah (rowL .u32 rows 0) (argI args 1) (argI args 2) (argI args 3)) (λX=> .tup []) (λX=>[⟨false,25,1, .ints .u32 X⟩])
theorem Z5b:Q06 pG Zne:=Q0p drawn Q0k (.nil) Tryz.func300 Tryz.call300 (λargs rows=>Qfc (rowL .u32 rows 0) (argI args 1) (argI args 2) (argI args 3)) [] [] 2
def Qj6(m:(List Int))(frame:Int)(s:(List UInt8))(z:(Int)×(List Int)):Nat:=(128-z.1).toNat
def Q9y(m:(List Int))(frame:Int)(s:(List UInt8)):Tree (List Int):=
.lp inferInstance (Qj6 m frame s (0,m)+1) ((True/\rE (frame:Int)/\rE (s:List UInt8)/\rE (0:Int)/\True)/\rE (m:List Int)/\True) (0,m) λ(v0:Int×List Int)=> .br (decide (v0.1<(s.length:Int))) (.br (decide (v0.1<128)) (.cn (decide (0<=v0.1/\v0.1<(s.length:Int))) (let E1:=wrap u32 (↑(UInt8.toNat (s.getD v0.1.toNat (0:UInt8))):Int);let E2:=wrap u32 (wrap i64 (wrap i64 (frame*128)+v0.1)); .an (Qg7 v0.2 E2 1 E1) (.lv (Qah v0.2 E2 1 E1) λ(x0:List Int)=> .nx ((True/\rE (frame:Int)/\rE (s:List UInt8)/\rE ((wrap i64 (v0.1+1)):Int)/\True)/\rE (x0:List Int)/\True) (Sum.inl (wrap i64 (v0.1+1),x0))))) (.lf (Sum.inr v0.2))) (.lf (Sum.inr v0.2))
def Qla(m:(List Int))(frame:Int)(s:(List UInt8)):(List Int):=(Q9y m frame s).m
abbrev Qmy(m:(List Int))(frame:Int)(s:(List UInt8)):Prop:=(Q9y m frame s).p
def Zgs:LInv:={
 α:=(Int)×(List Int)
 F:=λst a=>([(0, .all 0),(1,(lk st 1)),(2,(lk st 2)),(6, .int i64 a.1)],[⟨false,25,1, .ints u32 a.2⟩])
 a0:=λst=>((lk st 6).toInt,(Q5d st.rows 0))
 ex0:=λst=>[0]++[]}
def Z69:List (Nat×LInv):=[(1,Zgs)]
def Zj1:Q0d:=mkP 270 [true,false,false] true [.one (.row 0), .one (.int .i64), .one (.str)] [.arr 25 1 (.ints .u32)] (λargs rows=>Qmy (rowL .u32 rows 0) (argI args 1) (argS args 2)) (λargs rows=>Qla (rowL .u32 rows 0) (argI args 1) (argS args 2)) (λX=> .tup []) (λX=>[⟨false,25,1, .ints .u32 X⟩])
theorem Qz1:Q06 pG Zj1:=Q0p drawn Q0k (.cons Z5b (.nil)) Tryz.func270 Tryz.call270 (λargs rows=>Q9y (rowL .u32 rows 0) (argI args 1) (argS args 2)) [] Z69 3
def Q6y(d0:Q0f)(m:(List Int))(e:Q0a):Tree (Q0f×Bool×(List Int)):=
.br (d0.C1 !=1) (.lf (d0,false,m)) (.br (e.B6 !=4) (.lf (d0,false,m)) (.br (decide (e.N>1)) (.lf (d0,false,m)) (let E4:=({Blocks:=d0.Blocks,C0:=d0.C0,Frame:=d0.Frame,C1:=2,D8:=0,B7:=0,B3:=0,C3:=[]}:Q0f);let E5:=({Blocks:=d0.Blocks,C0:=d0.C0,Frame:=d0.Frame,C1:=3,D8:=0,B7:=0,B3:=0,C3:=[]}:Q0f);let T2:Tree ((Q0f×Bool×(List Int))):= .br (e.N==1) (.lf (E4,true,m)) (.lf (E5,true,m));let E6:=decide ((e.C8.length:Int)>(0:Int)); .br (e.N==1) (let T1:Tree ((Q0f×Bool×(List Int))):= .br (d0.D8==1) (.an (Qmy m (wrap i64 d0.B3) e.C8) (.lv (Qla m (wrap i64 d0.B3) e.C8) λ(x1:List Int)=> .br (e.N==1) (.lf (E4,true,x1)) (.lf (E5,true,x1)))) T2;let T3:Tree ((Q0f×Bool×(List Int))):= .br (!d0.D8==1) (.br E6 (.lf (d0,false,m)) T1) T1; .br (d0.D8==1) (.br ((e.C8.length:Int) !=(128:Int)) (.lf (d0,false,m)) (.lv (Q27 m d0.B3) λ(x0:Bool)=> .br (!x0) (.lf (d0,false,m)) T3)) T3) (.br E6 (.lf (d0,false,m)) T2))))
def Q8a(d0:Q0f)(m:(List Int))(e:Q0a):(Q0f×Bool×(List Int)):=(Q6y d0 m e).m
abbrev Qjv(d0:Q0f)(m:(List Int))(e:Q0a):Prop:=(Q6y d0 m e).p
def Zcq:Q0d:=mkP 223 [false,true,false] true [.agg Q0f.sig, .one (.row 0), .agg Q0a.sig] [.arr 25 1 (.ints .u32)] (λargs rows=>Qjv (Q0f.of (aC args 0)) (rowL .u32 rows 0) (Q0a.of (aC args 2))) (λargs rows=>Q8a (Q0f.of (aC args 0)) (rowL .u32 rows 0) (Q0a.of (aC args 2))) (λX=> .tup [.agg (Q0f.cells (X.1)), .bool (X.2.1)]) (λX=>[⟨false,25,1, .ints .u32 (X.2.2)⟩])
theorem Qrv:Q06 pG Zcq:=Q0p drawn Q0k (.cons Qgf (.cons Qz1 (.nil))) Tryz.func223 Tryz.call223 (λargs rows=>Q6y (Q0f.of (aC args 0)) (rowL .u32 rows 0) (Q0a.of (aC args 2))) [] [] 2
def Q6m(n:Q0r)(m:(List Int))(frame:(List UInt8)):Tree (Q0r×Bool×(List Int)):=
.br (!n.C6) (.lf (n,false,m)) (.br (decide ((frame.length:Int)<(1:Int))) (.lf (n,false,m)) (.br (decide ((frame.length:Int)>(128:Int))) (.lf (n,false,m)) (.lv (Q27 m n.B9) λ(x0:Bool)=> .br (!x0) (.lf (n,false,m)) (.an (Qmy m (wrap i64 n.B9) frame) (.lv (Qla m (wrap i64 n.B9) frame) λ(x1:List Int)=> .lf ({Frame:=n.Frame,E0:=n.E0,C6:=false,B9:=0,B8:=true,F1:=wrap u32 (frame.length:Int)},true,x1))))))
def Q86(n:Q0r)(m:(List Int))(frame:(List UInt8)):(Q0r×Bool×(List Int)):=(Q6m n m frame).m
abbrev Qil(n:Q0r)(m:(List Int))(frame:(List UInt8)):Prop:=(Q6m n m frame).p
def Zaz:Q0d:=mkP 224 [false,true,false] true [.agg Q0r.sig, .one (.row 0), .one (.str)] [.arr 25 1 (.ints .u32)] (λargs rows=>Qil (Q0r.of (aC args 0)) (rowL .u32 rows 0) (argS args 2)) (λargs rows=>Q86 (Q0r.of (aC args 0)) (rowL .u32 rows 0) (argS args 2)) (λX=> .tup [.agg (Q0r.cells (X.1)), .bool (X.2.1)]) (λX=>[⟨false,25,1, .ints .u32 (X.2.2)⟩])
theorem Qrt:Q06 pG Zaz:=Q0p drawn Q0k (.cons Qgf (.cons Qz1 (.nil))) Tryz.func224 Tryz.call224 (λargs rows=>Q6m (Q0r.of (aC args 0)) (rowL .u32 rows 0) (argS args 2)) [] [] 2
def Q4i(m:Q00)(e:Q0a):Tree (Bool×Q00):=
.br m.A9 (.lf (false,m)) (let T1:Tree ((Bool×Q00)):= .br (e.B6==4) (.an (Qjv m.B1 m.Mem e) (.lv (Q8a m.B1 m.Mem e) λ(x2:Q0f×Bool×List Int)=> .lf (x2.2.1,{B2:=m.B2,Mem:=x2.2.2,A4:=m.A4,B0:=m.B0,B1:=x2.1,C4:=m.C4,A2:=m.A2,A1:=m.A1,A7:=m.A7,A9:=m.A9}))) (let T3:Tree ((Bool×Q00)):= .br (e.B6==6) (.br (decide (e.C8=[])) (.lf (true,{B2:=m.B2,Mem:=m.Mem,A4:=m.A4,B0:=m.B0,B1:=m.B1,C4:=m.C4,A2:={D0:=e.N,C2:=m.A2.C2},A1:=m.A1,A7:=m.A7,A9:=m.A9})) (.lf (false,m))) (.lf (false,m)); .br (e.B6==5) (.br (e.N==0) (.an (Qil m.C4 m.Mem e.C8) (.lv (Q86 m.C4 m.Mem e.C8) λ(x3:Q0r×Bool×List Int)=> .lf (x3.2.1,{B2:=m.B2,Mem:=x3.2.2,A4:=m.A4,B0:=m.B0,B1:=m.B1,C4:=x3.1,A2:=m.A2,A1:=m.A1,A7:=m.A7,A9:=m.A9}))) T3) T3);let T2:Tree ((Bool×Q00)):= .br (e.B6==3) (.br (decide (e.N<=255)) (.br (decide (e.C8=[])) (.an (Qmc m.A4 (wrap u8 e.N)) (.lv (Qlx m.A4 (wrap u8 e.N)) λ(x1:Q0c×Bool)=> .lf (x1.2,{B2:=m.B2,Mem:=m.Mem,A4:=x1.1,B0:=m.B0,B1:=m.B1,C4:=m.C4,A2:=m.A2,A1:=m.A1,A7:=m.A7,A9:=m.A9}))) T1) T1) T1; .br (e.B6==2) (.br (e.N==0) (.br (decide (e.C8=[])) (.lv (Q6z m.B0) λ(x0:Q0i×Bool)=> .lf (x0.2,{B2:=m.B2,Mem:=m.Mem,A4:=m.A4,B0:=x0.1,B1:=m.B1,C4:=m.C4,A2:=m.A2,A1:=m.A1,A7:=m.A7,A9:=m.A9})) T2) T2) T2)
def Q0q(m:Q00)(e:Q0a):(Bool×Q00):=(Q4i m e).m
abbrev Qrb(m:Q00)(e:Q0a):Prop:=(Q4i m e).p
def Zgh:Q0d:=mkP 161 [true,false] true [.ptr 0, .agg Q0a.sig] [.box 43 49 (Q00.sigW (.row 1)), .arr 25 1 (.ints .u32)] (λargs rows=>Qrb (Q00.ofW (rows.getD 0 default).cs (rowL .u32 rows 1)) (Q0a.of (aC args 1))) (λargs rows=>Q0q (Q00.ofW (rows.getD 0 default).cs (rowL .u32 rows 1)) (Q0a.of (aC args 1))) (λX=> .bool (X.1)) (λX=>[⟨true,43,49, .gen [(Q00.cellsW (X.2) (.all 1))]⟩,⟨false,25,1, .ints .u32 (X.2).Mem⟩])
theorem Zbk:Q06 pG Zgh:=Q0p drawn Q0k (.cons Qyo (.cons Qyd (.cons Qrv (.cons Qrt (.nil))))) Tryz.func161 Tryz.call161 (λargs rows=>Q4i (Q00.ofW (rows.getD 0 default).cs (rowL .u32 rows 1)) (Q0a.of (aC args 1))) [.row 25 1 (.ints .u32)] [] 2
def Q8w(m:Q01)(e:Q0a):Tree (Bool×Q01):=
.br m.A0.A9 (.lf (false,m)) (let T1:Tree ((Bool×Q01)):= .br (e.B6==4) (.an (Qjv m.A0.B1 m.A0.Mem e) (.lv (Q8a m.A0.B1 m.A0.Mem e) λ(x2:Q0f×Bool×List Int)=> .lf (x2.2.1,{A0:={B2:=m.A0.B2,Mem:=x2.2.2,A4:=m.A0.A4,B0:=m.A0.B0,B1:=x2.1,C4:=m.A0.C4,A2:=m.A0.A2,A1:=m.A0.A1,A7:=m.A0.A7,A9:=m.A0.A9},A3:=m.A3,B4:=m.B4,A6:=m.A6}))) (let T3:Tree ((Bool×Q01)):= .br (e.B6==6) (.br (decide (e.C8=[])) (.lf (true,{A0:={B2:=m.A0.B2,Mem:=m.A0.Mem,A4:=m.A0.A4,B0:=m.A0.B0,B1:=m.A0.B1,C4:=m.A0.C4,A2:={D0:=e.N,C2:=m.A0.A2.C2},A1:=m.A0.A1,A7:=m.A0.A7,A9:=m.A0.A9},A3:=m.A3,B4:=m.B4,A6:=m.A6})) (.lf (false,m))) (.lf (false,m)); .br (e.B6==5) (.br (e.N==0) (.an (Qil m.A0.C4 m.A0.Mem e.C8) (.lv (Q86 m.A0.C4 m.A0.Mem e.C8) λ(x3:Q0r×Bool×List Int)=> .lf (x3.2.1,{A0:={B2:=m.A0.B2,Mem:=x3.2.2,A4:=m.A0.A4,B0:=m.A0.B0,B1:=m.A0.B1,C4:=x3.1,A2:=m.A0.A2,A1:=m.A0.A1,A7:=m.A0.A7,A9:=m.A0.A9},A3:=m.A3,B4:=m.B4,A6:=m.A6}))) T3) T3);let T2:Tree ((Bool×Q01)):= .br (e.B6==3) (.br (decide (e.N<=255)) (.br (decide (e.C8=[])) (.an (Qmc m.A0.A4 (wrap u8 e.N)) (.lv (Qlx m.A0.A4 (wrap u8 e.N)) λ(x1:Q0c×Bool)=> .lf (x1.2,{A0:={B2:=m.A0.B2,Mem:=m.A0.Mem,A4:=x1.1,B0:=m.A0.B0,B1:=m.A0.B1,C4:=m.A0.C4,A2:=m.A0.A2,A1:=m.A0.A1,A7:=m.A0.A7,A9:=m.A0.A9},A3:=m.A3,B4:=m.B4,A6:=m.A6}))) T1) T1) T1; .br (e.B6==2) (.br (e.N==0) (.br (decide (e.C8=[])) (.lv (Q6z m.A0.B0) λ(x0:Q0i×Bool)=> .lf (x0.2,{A0:={B2:=m.A0.B2,Mem:=m.A0.Mem,A4:=m.A0.A4,B0:=x0.1,B1:=m.A0.B1,C4:=m.A0.C4,A2:=m.A0.A2,A1:=m.A0.A1,A7:=m.A0.A7,A9:=m.A0.A9},A3:=m.A3,B4:=m.B4,A6:=m.A6})) T2) T2) T2)
def Qkd(m:Q01)(e:Q0a):(Bool×Q01):=(Q8w m e).m
abbrev Qns(m:Q01)(e:Q0a):Prop:=(Q8w m e).p
def Z7a:Q0d:=mkP 161 [true,false] true [.ptr 0, .agg Q0a.sig] [.box 96 52 (Q01.sigW (.row 1) (.row 2) (.row 3)), .arr 25 1 (.ints .u32), .arr 126 4 (.recs .apiEntry), .arr 66 3 (.recs .apiEvent)] (λargs rows=>Qns (Q01.ofW (rows.getD 0 default).cs (rowL .u32 rows 1) (rowR .apiEntry rows 2) (rowR .apiEvent rows 3)) (Q0a.of (aC args 1))) (λargs rows=>Qkd (Q01.ofW (rows.getD 0 default).cs (rowL .u32 rows 1) (rowR .apiEntry rows 2) (rowR .apiEvent rows 3)) (Q0a.of (aC args 1))) (λX=> .bool (X.1)) (λX=>[⟨true,96,52, .gen [(Q01.cellsW (X.2) (.all 1) (.all 2) (.all 3))]⟩,⟨false,25,1, .ints .u32 (X.2).A0.Mem⟩,⟨false,126,4, .recs .apiEntry (X.2).B4⟩,⟨false,66,3, .recs .apiEvent (X.2).A6⟩])
theorem Z2o:Q06 pG Z7a:=Q0p drawn Q0k (.cons Qyo (.cons Qyd (.cons Qrv (.cons Qrt (.nil))))) Tryz.func161 Tryz.call161 (λargs rows=>Q8w (Q01.ofW (rows.getD 0 default).cs (rowL .u32 rows 1) (rowR .apiEntry rows 2) (rowR .apiEvent rows 3)) (Q0a.of (aC args 1))) [.row 25 1 (.ints .u32), .row 126 4 (.recs .apiEntry), .row 66 3 (.recs .apiEvent)] [] 2
def Q7q(m:Q01)(e:Q0a):Tree (Bool×Q01):=
.an (Qns m e) (.lv (Qkd m e) λ(x0:Bool×Q01)=> .lf (x0.1,x0.2))
def Qhl(m:Q01)(e:Q0a):(Bool×Q01):=(Q7q m e).m
abbrev Ql9(m:Q01)(e:Q0a):Prop:=(Q7q m e).p
def Z31:Q0d:=mkP 159 [true,false] true [.ptr 0, .agg Q0a.sig] [.box 96 52 (Q01.sigW (.row 1) (.row 2) (.row 3)), .arr 25 1 (.ints .u32), .arr 126 4 (.recs .apiEntry), .arr 66 3 (.recs .apiEvent)] (λargs rows=>Ql9 (Q01.ofW (rows.getD 0 default).cs (rowL .u32 rows 1) (rowR .apiEntry rows 2) (rowR .apiEvent rows 3)) (Q0a.of (aC args 1))) (λargs rows=>Qhl (Q01.ofW (rows.getD 0 default).cs (rowL .u32 rows 1) (rowR .apiEntry rows 2) (rowR .apiEvent rows 3)) (Q0a.of (aC args 1))) (λX=> .bool (X.1)) (λX=>[⟨true,96,52, .gen [(Q01.cellsW (X.2) (.all 1) (.all 2) (.all 3))]⟩,⟨false,25,1, .ints .u32 (X.2).A0.Mem⟩,⟨false,126,4, .recs .apiEntry (X.2).B4⟩,⟨false,66,3, .recs .apiEvent (X.2).A6⟩])
theorem Z0:Q06 pG Z31:=Q0p drawn Q0k (.cons Z2o (.nil)) Tryz.func159 Tryz.call159 (λargs rows=>Q7q (Q01.ofW (rows.getD 0 default).cs (rowL .u32 rows 1) (rowR .apiEntry rows 2) (rowR .apiEvent rows 3)) (Q0a.of (aC args 1))) [.row 25 1 (.ints .u32), .row 126 4 (.recs .apiEntry), .row 66 3 (.recs .apiEvent)] [] 2
def Qat(r:Q01)(e:Q0a):Tree Q01:=
.an (Ql9 r e) (.lv (Qhl r e) λ(x0:Bool×Q01)=> .br x0.1 (.cn (decide (40*(x0.2.B4.length+1)<=140737488355328)) (.lf ({A0:=x0.2.A0,A3:=x0.2.A3,B4:=x0.2.B4++[{At:=x0.2.A0.A1,C5:=e}],A6:=x0.2.A6}))) (.lf x0.2))
def Qib(r:Q01)(e:Q0a):Q01:=(Qat r e).m
abbrev Qix(r:Q01)(e:Q0a):Prop:=(Qat r e).p
def Zcz:Q0d:=mkKP 1 213 [true,false] [.ptr 0, .agg Q0a.sig] [.box 96 52 (Q01.sigW (.row 1) (.row 2) (.row 3)), .arr 25 1 (.ints .u32), .arr 126 4 (.recs .apiEntry), .arr 66 3 (.recs .apiEvent)] (λargs rows=>Qix (Q01.ofW (rows.getD 0 default).cs (rowL .u32 rows 1) (rowR .apiEntry rows 2) (rowR .apiEvent rows 3)) (Q0a.of (aC args 1))) (λargs rows=>Qib (Q01.ofW (rows.getD 0 default).cs (rowL .u32 rows 1) (rowR .apiEntry rows 2) (rowR .apiEvent rows 3)) (Q0a.of (aC args 1))) (λX=> .tup []) (λX=>[⟨true,96,52, .gen [(Q01.cellsW X (.all 1) (.all 2) (.all 3))]⟩,⟨false,25,1, .ints .u32 X.A0.Mem⟩,⟨false,126,4, .recs .apiEntry X.B4⟩,⟨false,66,3, .recs .apiEvent X.A6⟩])
theorem Z65:Q06 pG Zcz:=yz drawn Q0k (.cons Z0 (.nil)) Tryz.func213 Tryz.call213 (λargs rows=>Qat (Q01.ofW (rows.getD 0 default).cs (rowL .u32 rows 1) (rowR .apiEntry rows 2) (rowR .apiEvent rows 3)) (Q0a.of (aC args 1))) [.row 25 1 (.ints .u32), .row 126 4 (.recs .apiEntry), .row 66 3 (.recs .apiEvent)] [] 2 (λ_ _ _=>by kernel_rfl) (λ_ _=>rfl) (λ_ _ h=>h)
def Qin(is:Bool)(n:Int):Tree Int:=
.br is (.cn (decide (0<=wrap u64 n)) (.lf (ishl u32 1 (wrap u64 n)))) (.lf 0)
def Qa1(is:Bool)(n:Int):Int:=(Qin is n).m
abbrev Qam(is:Bool)(n:Int):Prop:=(Qin is n).p
def Zjs:Q0d:=mkP 104 [] true [.one (.bool), .one (.int .i64)] [] (λargs rows=>Qam (argB args 0) (argI args 1)) (λargs rows=>Qa1 (argB args 0) (argI args 1)) (λX=> .int .u32 X) (λX=>[])
theorem Ze9:Q06 pG Zjs:=Q0p drawn Q0k (.nil) Tryz.func104 Tryz.call104 (λargs rows=>Qin (argB args 0) (argI args 1)) [] [] 2
def Qiv(t:Q0i):Tree Bool:=
.lf t.D5
def Qas(t:Q0i):Bool:=(Qiv t).m
def Qs9:Q0d:=mkR 105 [] true [.agg Q0i.sig] [] (λargs rows=>Qas (Q0i.of (aC args 0))) (λX=> .bool X) (λX=>[])
theorem Qr1:Q06 pG Qs9:=Q11 drawn Q0k (.nil) Tryz.func105 Tryz.call105 (λargs rows=>Qiv (Q0i.of (aC args 0))) [] [] 2
def Qgc(c:Q0c):Tree Bool:=
.lf (decide ((c.D3.length:Int)>(0:Int)))
def Q62(c:Q0c):Bool:=(Qgc c).m
def Qph:Q0d:=mkR 106 [] true [.agg Q0c.sig] [] (λargs rows=>Q62 (Q0c.of (aC args 0))) (λX=> .bool X) (λX=>[])
theorem Qo3:Q06 pG Qph:=Q11 drawn Q0k (.nil) Tryz.func106 Tryz.call106 (λargs rows=>Qgc (Q0c.of (aC args 0))) [] [] 2
def Qk9(d0:Q0f):Tree Bool:=
.br (d0.C1==2) (.lf true) (.lf (d0.C1==3))
def Qc4(d0:Q0f):Bool:=(Qk9 d0).m
def Qv:Q0d:=mkR 107 [] true [.agg Q0f.sig] [] (λargs rows=>Qc4 (Q0f.of (aC args 0))) (λX=> .bool X) (λX=>[])
theorem Qsx:Q06 pG Qv:=Q11 drawn Q0k (.nil) Tryz.func107 Tryz.call107 (λargs rows=>Qk9 (Q0f.of (aC args 0))) [] [] 2
def Qm5(n:Q0r):Tree Bool:=
.lf n.B8
def Qeb(n:Q0r):Bool:=(Qm5 n).m
def Qvq:Q0d:=mkR 108 [] true [.agg Q0r.sig] [] (λargs rows=>Qeb (Q0r.of (aC args 0))) (λX=> .bool X) (λX=>[])
theorem Qu1:Q06 pG Qvq:=Q11 drawn Q0k (.nil) Tryz.func108 Tryz.call108 (λargs rows=>Qm5 (Q0r.of (aC args 0))) [] [] 2
def Qoa(b:Q09)(z:(Int)×(Int)):Prop:=0<=z.2/\z.2<=32
def Qh0(b:Q09)(z:(Int)×(Int)):Nat:=(32-z.2).toNat
def Qkf(b:Q09):Tree Int:=
.lp inferInstance (Qh0 b (0,0)+1) ((rZ/\rE (0:Int)/\rE (0:Int)/\True)/\(rE b.D0/\rE b.C2/\True)/\True) (0,0) λ(v0:Int×Int)=> .br (decide (v0.2<32)) (.cn (decide (0<=wrap u64 v0.2)) (.nx ((rZ/\rE ((wrap i64 (v0.1+wrap i64 (iand u32 (ishr u32 b.C2 (wrap u64 v0.2)) 1))):Int)/\rE ((wrap i64 (v0.2+1)):Int)/\True)/\(rE b.D0/\rE b.C2/\True)/\True) (Sum.inl (wrap i64 (v0.1+wrap i64 (iand u32 (ishr u32 b.C2 (wrap u64 v0.2)) 1)),wrap i64 (v0.2+1))))) (.lf (Sum.inr v0.1))
def Qf5(b:Q09):Int:=(Qkf b).m
theorem Z63(b:Q09):(Qkf b).p:=by
 unfold Tree.p Qkf
 repeat'(first|refine w_lp (inv:=Qoa b) (μ:=Qh0 b) ?_ (Nat.lt_succ_self _) (λ_ _=> ?_)|exact trivial|refine w_br (λ_=> ?_) (λ_=> ?_)|refine w_cn ?_ ?_|refine w_an ?_ ?_|refine w_lv (λ_ _=> ?_)|refine w_nx ?_|refine w_lf ?_|refine And.intro ?_ ?_)
 all_goals((try simp only[Qoa,Qh0]at*);exact fin0)
def Zaa:LInv:={
 α:=(Int)×(Int)
 F:=λst a=>([(1, .ptr 0 0 0),(3, .int i64 a.1),(4, .int i64 a.2)],[⟨true,40,2, .gen [[(cT st 1 0),(cT st 1 1)]]⟩])
 a0:=λst=>((lk st 3).toInt,(lk st 4).toInt)
 ex0:=λst=>[]++[(rX st 1 0)]}
def Z34:List (Nat×LInv):=[(3,Zaa)]
def Zfb:Q0d:=mkR 177 [] true [.agg Q09.sig] [] (λargs rows=>Qf5 (Q09.of (aC args 0))) (λX=> .int .i64 X) (λX=>[])
theorem Qtt:Q06 pG Zfb:=Q11 drawn Q0k (.nil) Tryz.func177 Tryz.call177 (λargs rows=>Qkf (Q09.of (aC args 0))) [] Z34 3 (λ_ _ _=>by kernel_rfl) (λ_ _=>rfl) (λargs rows=>Z63 (Q09.of (aC args 0))) (λ_ X=>by kernel_rfl)
def Q9b(b:Q09):Tree Bool:=
.lv (Qf5 b) λ(x0:Int)=> .lf (wrap u64 x0 !=wrap u64 b.D0)
def Q3v(b:Q09):Bool:=(Q9b b).m
def Qo7:Q0d:=mkR 109 [] true [.agg Q09.sig] [] (λargs rows=>Q3v (Q09.of (aC args 0))) (λX=> .bool X) (λX=>[])
theorem Qo:Q06 pG Qo7:=Q11 drawn Q0k (.cons Qtt (.nil)) Tryz.func109 Tryz.call109 (λargs rows=>Q9b (Q09.of (aC args 0))) [] [] 2
def Qgh(m:Q00):Tree Int:=
.lv (Qas m.B0) λ(x0:Bool)=> .an (Qam x0 0) (.lv (Qa1 x0 0) λ(x1:Int)=> .lv (Q62 m.A4) λ(x2:Bool)=> .an (Qam x2 1) (.lv (Qa1 x2 1) λ(x3:Int)=> .lv (Qc4 m.B1) λ(x4:Bool)=> .an (Qam x4 2) (.lv (Qa1 x4 2) λ(x5:Int)=> .lv (Qeb m.C4) λ(x6:Bool)=> .an (Qam x6 3) (.lv (Qa1 x6 3) λ(x7:Int)=> .lv (Q3v m.A2) λ(x8:Bool)=> .an (Qam x8 4) (.lv (Qa1 x8 4) λ(x9:Int)=> .lf (ior u32 (ior u32 (ior u32 (ior u32 x1 x3) x5) x7) x9))))))
def Qi0(m:Q00):Int:=(Qgh m).m
abbrev Qrc(m:Q00):Prop:=(Qgh m).p
def Zes:Q0d:=mkP 27 [] true [.agg Q00.sig] [] (λargs rows=>Qrc (Q00.of (aC args 0))) (λargs rows=>Qi0 (Q00.of (aC args 0))) (λX=> .int .u32 X) (λX=>[])
theorem Za5:Q06 pG Zes:=Q0p drawn Q0k (.cons Ze9 (.cons Qr1 (.cons Qo3 (.cons Qsx (.cons Qu1 (.cons Qo (.nil))))))) Tryz.func27 Tryz.call27 (λargs rows=>Qgh (Q00.of (aC args 0))) [] [] 2
def Q8y(m:Q00):Tree Int:=
.an (Qrc m) (.lv (Qi0 m) λ(x0:Int)=> .lf (iand u32 x0 m.B2.B5.a7))
def Q31(m:Q00):Int:=(Q8y m).m
abbrev Qgy(m:Q00):Prop:=(Q8y m).p
def Z76:Q0d:=mkP 111 [] true [.agg Q00.sig] [] (λargs rows=>Qgy (Q00.of (aC args 0))) (λargs rows=>Q31 (Q00.of (aC args 0))) (λX=> .int .u32 X) (λX=>[])
theorem Qpb:Q06 pG Z76:=Q0p drawn Q0k (.cons Za5 (.nil)) Tryz.func111 Tryz.call111 (λargs rows=>Q8y (Q00.of (aC args 0))) [] [] 2
def Qff(m:Q00):Tree Bool:=
.br m.A7 (.an (Qgy m) (.lv (Q31 m) λ(x0:Int)=> .lf (x0==0))) (.lf false)
def Qdd(m:Q00):Bool:=(Qff m).m
abbrev Qnb(m:Q00):Prop:=(Qff m).p
def Zi2:Q0d:=mkP 29 [] true [.agg Q00.sig] [] (λargs rows=>Qnb (Q00.of (aC args 0))) (λargs rows=>Qdd (Q00.of (aC args 0))) (λX=> .bool X) (λX=>[])
theorem Qzk:Q06 pG Zi2:=Q0p drawn Q0k (.cons Qpb (.nil)) Tryz.func29 Tryz.call29 (λargs rows=>Qff (Q00.of (aC args 0))) [] [] 2
def Q80(m:Q00):Tree Bool:=
.lv (Q6u m) λ(x0:Bool)=> .br (!x0) (.lf true) (.br m.A9 (.lf true) (.an (Qnb m) (.lv (Qdd m) λ(x1:Bool)=> .br x1 (.lf true) (.lf (decide (m.A1>=1152921504606846976))))))
def Q0v(m:Q00):Bool:=(Q80 m).m
abbrev Qfo(m:Q00):Prop:=(Q80 m).p
def Zee:Q0d:=mkP 115 [] true [.agg Q00.sig] [] (λargs rows=>Qfo (Q00.of (aC args 0))) (λargs rows=>Q0v (Q00.of (aC args 0))) (λX=> .bool X) (λX=>[])
theorem Qu7:Q06 pG Zee:=Q0p drawn Q0k (.cons Qsa (.cons Qzk (.nil))) Tryz.func115 Tryz.call115 (λargs rows=>Q80 (Q00.of (aC args 0))) [] [] 2
end
noncomputable section
def Z8u(b:Bool):Tree Int:=
.br b (.lf 1) (.lf 0)
def Qc1(b:Bool):Int:=(Z8u b).m
def Znx:Q0d:=mkR 281 [] true [.one (.bool)] [] (λargs rows=>Qc1 (argB args 0)) (λX=> .int .u32 X) (λX=>[])
theorem Qst:Q06 pG Znx:=Q11 drawn Q0k (.nil) Tryz.func281 Tryz.call281 (λargs rows=>Z8u (argB args 0)) [] [] 2
def Qiw(c:Q05)(cause:Int)(bad:Int):Tree Q05:=
.lv (Qc1 (iand u32 c.B5.a0 (1:Int) !=(0:Int))) λ(x0:Int)=> .lv (Qc1 (iand u32 c.B5.a0 (2:Int) !=(0:Int))) λ(x1:Int)=> .lf ({X:=c.X,Pc:=c.B5.a1,B5:={a0:=ior u32 (Qhk u32 (ior u32 (ior u32 (Qhk u32 c.B5.a0 24) (wrap u32 (8*x0))) (wrap u32 (16*x1))) 2) 1,a1:=c.B5.a1,a2:=c.Pc,a3:=wrap u32 cause,a4:=bad,a5:=c.B5.a5,a6:=c.B5.a6,a7:=c.B5.a7}})
def Q2x(c:Q05)(cause:Int)(bad:Int):Q05:=(Qiw c cause bad).m
def Zj:Q0d:=mkR 244 [] true [.agg Q05.sig, .one (.int .i64), .one (.int .u32)] [] (λargs rows=>Q2x (Q05.of (aC args 0)) (argI args 1) (argI args 2)) (λX=> .agg (Q05.cells X)) (λX=>[])
theorem Qk8:Q06 pG Zj:=Q11 drawn Q0k (.cons Qst (.nil)) Tryz.func244 Tryz.call244 (λargs rows=>Qiw (Q05.of (aC args 0)) (argI args 1) (argI args 2)) [] [] 2
def Q88(m:(List Int))(addr:Int)(size:Int):Tree Bool:=
let T1:Tree (Bool):= .cn (decide (wrap u32 size≠0)) (.br (Int.tmod addr (wrap u32 size)==0) (.lv (Q3x m) λ(x0:Int)=> .lf (decide (addr<wrap u32 (wrap i64 (128*x0))))) (.lf false)); .br (size !=1) (.br (size !=4) (.lf false) T1) T1
def Q24(m:(List Int))(addr:Int)(size:Int):Bool:=(Q88 m addr size).m
abbrev Qdj(m:(List Int))(addr:Int)(size:Int):Prop:=(Q88 m addr size).p
def Zaq:Q0d:=mkP 245 [] true [.one (.ints .u32), .one (.int .u32), .one (.int .i64)] [] (λargs rows=>Qdj (argL .u32 args 0) (argI args 1) (argI args 2)) (λargs rows=>Q24 (argL .u32 args 0) (argI args 1) (argI args 2)) (λX=> .bool X) (λX=>[])
theorem Qkx:Q06 pG Zaq:=Q0p drawn Q0k (.cons Qeg (.nil)) Tryz.func245 Tryz.call245 (λargs rows=>Q88 (argL .u32 args 0) (argI args 1) (argI args 2)) [] [] 2
def Q3z(m:(List Int))(addr:Int)(size:Int):Tree (Int×Bool):=
.an (Qdj m addr size) (.lv (Q24 m addr size) λ(x0:Bool)=> .br (!x0) (.lf (0,false)) (.cn (Nat.beq 1 1&&Nat.blt 0 1&&decide (0<=wrap u32 (Int.tdiv addr 4)/\wrap u32 (Int.tdiv addr 4)<(m.length:Int))) (.br (size==1) (.cn (decide (0<=wrap u32 (8*Int.tmod addr 4))) (.lf (iand u32 (ishr u32 (m.getD (Int.toNat (wrap u32 (Int.tdiv addr 4))) 0) (wrap u32 (8*Int.tmod addr 4))) 255,true))) (.lf (m.getD (Int.toNat (wrap u32 (Int.tdiv addr 4))) 0,true)))))
def Q1e(m:(List Int))(addr:Int)(size:Int):(Int×Bool):=(Q3z m addr size).m
abbrev Qdh(m:(List Int))(addr:Int)(size:Int):Prop:=(Q3z m addr size).p
def Zi1:Q0d:=mkP 187 [] true [.one (.ints .u32), .one (.int .u32), .one (.int .i64)] [] (λargs rows=>Qdh (argL .u32 args 0) (argI args 1) (argI args 2)) (λargs rows=>Q1e (argL .u32 args 0) (argI args 1) (argI args 2)) (λX=> .tup [.int .u32 (X.1), .bool (X.2)]) (λX=>[])
theorem Qpu:Q06 pG Zi1:=Q0p drawn Q0k (.cons Qkx (.nil)) Tryz.func187 Tryz.call187 (λargs rows=>Q3z (argL .u32 args 0) (argI args 1) (argI args 2)) [] [] 2
def Q7(w:Int):Tree (Q0l×Bool):=
.lv (Q2d (wrap i64 (ishr u32 w 24))) λ(x0:Int)=>let E5:=({Op:=0,A:=0,B:=0,C:=0,Imm:=0}:Q0l); .br (x0==0) (.lf (E5,false)) (.br (x0==2) (let E3:=({Op:=wrap i64 (ishr u32 w 24),A:=wrap i64 (iand u32 (ishr u32 w 20) 15),B:=wrap i64 (iand u32 (ishr u32 w 16) 15),C:=wrap i64 (iand u32 w 65535),Imm:=0}:Q0l); .lv (Q7m E3) λ(x1:Bool)=> .br (!x1) (.lf (E5,false)) (.lf (E3,true))) (let T1:Tree ((Q0l×Bool)):=let E2:=({Op:=wrap i64 (ishr u32 w 24),A:=wrap i64 (iand u32 (ishr u32 w 20) 15),B:=wrap i64 (iand u32 (ishr u32 w 16) 15),C:=0,Imm:=wrap i32 (wrap i16 (iand u32 w 65535))}:Q0l); .lv (Q7m E2) λ(x2:Bool)=> .br (!x2) (.lf (E5,false)) (.lf (E2,true)); .br (x0==3) T1 (.br (x0==7) T1 (let E4:=({Op:=wrap i64 (ishr u32 w 24),A:=wrap i64 (iand u32 (ishr u32 w 20) 15),B:=wrap i64 (iand u32 (ishr u32 w 16) 15),C:=0,Imm:=wrap i32 (iand u32 w 65535)}:Q0l); .lv (Q7m E4) λ(x4:Bool)=> .br (!x4) (.lf (E5,false)) (.lf (E4,true))))))
def Q21(w:Int):(Q0l×Bool):=(Q7 w).m
def Zbt:Q0d:=mkR 188 [] true [.one (.int .u32)] [] (λargs rows=>Q21 (argI args 0)) (λX=> .tup [.agg (Q0l.cells (X.1)), .bool (X.2)]) (λX=>[])
theorem Qro:Q06 pG Zbt:=Q11 drawn Q0k (.cons Qgi (.cons Qvb (.nil))) Tryz.func188 Tryz.call188 (λargs rows=>Q7 (argI args 0)) [] [] 2
def Qyv(access:Int):Tree Bool:=
.br (decide (access>=1)) (.lf (decide (access<=3))) (.lf false)
def Qey(access:Int):Bool:=(Qyv access).m
def Ze4:Q0d:=mkR 292 [] true [.one (.int .i64)] [] (λargs rows=>Qey (argI args 0)) (λX=> .bool X) (λX=>[])
theorem Qta:Q06 pG Ze4:=Q11 drawn Q0k (.nil) Tryz.func292 Tryz.call292 (λargs rows=>Qyv (argI args 0)) [] [] 2
def Qyu(c:Q05):Tree Bool:=
.lf (iand u32 c.B5.a0 (5:Int)==(4:Int))
def Qlm(c:Q05):Bool:=(Qyu c).m
def Zep:Q0d:=mkR 293 [] true [.agg Q05.sig] [] (λargs rows=>Qlm (Q05.of (aC args 0))) (λX=> .bool X) (λX=>[])
theorem Za0:Q06 pG Zep:=Q11 drawn Q0k (.nil) Tryz.func293 Tryz.call293 (λargs rows=>Qyu (Q05.of (aC args 0))) [] [] 2
def Q93(access:Int):Tree Int:=
.br (access==1) (.lf 4) (.br (access==3) (.lf 6) (.lf 5))
def Q22(access:Int):Int:=(Q93 access).m
def Z6c:Q0d:=mkR 294 [] true [.one (.int .i64)] [] (λargs rows=>Q22 (argI args 0)) (λX=> .int .i64 X) (λX=>[])
theorem Qpx:Q06 pG Z6c:=Q11 drawn Q0k (.nil) Tryz.func294 Tryz.call294 (λargs rows=>Q93 (argI args 0)) [] [] 2
def Q9i(m:(List Int))(root:Int)(va:Int)(access:Int):Tree Q19:=
.lv (Q22 access) λ(x0:Int)=> .lv (Q3x m) λ(x1:Int)=> .lv (Qey access) λ(x2:Bool)=>let E4:=({Addr:=0,F2:=0,F0:=x0}:Q19); .br (!x2) (.lf (E4)) (.br (decide (va>=4096)) (.lf (E4)) (.br (decide (root>=wrap u32 x1)) (.lf (E4)) (let E6:=wrap u32 (root*128)+wrap u32 (4*wrap u32 (Int.tdiv va 128));let E3:=Int.tdiv (wrap u32 E6) 4; .cn (Nat.beq 1 1&&Nat.blt 0 1&&decide (0<=wrap u32 E3/\wrap u32 E3<(m.length:Int))) (let E5:=m.getD (Int.toNat (wrap u32 E3)) 0; .br (iand u32 E5 (1:Int)==(0:Int)) (.lf (E4)) (let T1:Tree (Q19):= .br (decide (iand u32 (ishr u32 E5 8) 255>=wrap u32 x1)) (.lf (E4)) (.lf ({Addr:=wrap u32 (wrap u32 (iand u32 (ishr u32 E5 8) (255:Int)*(128:Int))+Int.tmod va 128),F2:=wrap u32 E6,F0:=0}));let T2:Tree (Q19):= .br (access==1) (.br (iand u32 E5 (4:Int)==(0:Int)) (.lf (E4)) T1) T1; .br (access==3) (.br (iand u32 E5 (2:Int)==(0:Int)) (.lf (E4)) T2) T2)))))
def Q6j(m:(List Int))(root:Int)(va:Int)(access:Int):Q19:=(Q9i m root va access).m
abbrev Qu4(m:(List Int))(root:Int)(va:Int)(access:Int):Prop:=(Q9i m root va access).p
def Zl:Q0d:=mkP 295 [] true [.one (.ints .u32), .one (.int .u32), .one (.int .u32), .one (.int .i64)] [] (λargs rows=>Qu4 (argL .u32 args 0) (argI args 1) (argI args 2) (argI args 3)) (λargs rows=>Q6j (argL .u32 args 0) (argI args 1) (argI args 2) (argI args 3)) (λX=> .agg (Q19.cells X)) (λX=>[])
theorem Zfm:Q06 pG Zl:=Q0p drawn Q0k (.cons Qpx (.cons Qeg (.cons Qta (.nil)))) Tryz.func295 Tryz.call295 (λargs rows=>Q9i (argL .u32 args 0) (argI args 1) (argI args 2) (argI args 3)) [] [] 2
def Qer(m:(List Int))(entry:Int)(access:Int):Tree (List Int):=
.an (Qdj m entry 4) (.lv (Q24 m entry 4) λ(x0:Bool)=> .br (!x0) (.lf m) (let E3:=Nat.beq 1 1&&Nat.blt 0 1&&decide (0<=wrap u32 (Int.tdiv entry 4)/\wrap u32 (Int.tdiv entry 4)<(m.length:Int)); .cn E3 (.cn E3 (let E4:=Int.toNat (wrap u32 (Int.tdiv entry 4));let E1:=List.set m E4 (ior u32 (m.getD E4 0) 8); .br (access==3) (let E2:=Nat.beq 1 1&&Nat.blt 0 1&&decide (0<=wrap u32 (Int.tdiv entry 4)/\wrap u32 (Int.tdiv entry 4)<(↑(List.length E1):Int)); .cn E2 (.cn E2 (.lf (List.set E1 E4 (ior u32 (List.getD E1 E4 0) 16))))) (.lf E1)))))
def Qp7(m:(List Int))(entry:Int)(access:Int):(List Int):=(Qer m entry access).m
abbrev Quz(m:(List Int))(entry:Int)(access:Int):Prop:=(Qer m entry access).p
def Zkl:Q0d:=mkP 296 [true,false,false] true [.one (.row 0), .one (.int .u32), .one (.int .i64)] [.arr 25 1 (.ints .u32)] (λargs rows=>Quz (rowL .u32 rows 0) (argI args 1) (argI args 2)) (λargs rows=>Qp7 (rowL .u32 rows 0) (argI args 1) (argI args 2)) (λX=> .tup []) (λX=>[⟨false,25,1, .ints .u32 X⟩])
theorem Zeo:Q06 pG Zkl:=Q0p drawn Q0k (.cons Qkx (.nil)) Tryz.func296 Tryz.call296 (λargs rows=>Qer (rowL .u32 rows 0) (argI args 1) (argI args 2)) [] [] 2
def Q7z(c:Q05)(m:(List Int))(va:Int)(size:Int)(access:Int):Tree (Int×Int×(List Int)):=
.lv (Qey access) λ(x0:Bool)=> .br (!x0) (.lf (0,5,m)) (let T1:Tree ((Int×Int×(List Int))):= .cn (decide (wrap u32 size≠0)) (.br (Int.tmod va (wrap u32 size) !=0) (.lf (0,3,m)) (.lv (Qlm c) λ(x1:Bool)=> .br (!x1) (.an (Qdj m va size) (.lv (Q24 m va size) λ(x2:Bool)=> .br (!x2) (.lv (Q22 access) λ(x3:Int)=> .lf (0,x3,m)) (.lf (va,0,m)))) (.an (Qu4 m c.B5.a6 va access) (.lv (Q6j m c.B5.a6 va access) λ(x4:Q19)=> .br (x4.F0 !=0) (.lf (0,x4.F0,m)) (.an (Quz m x4.F2 access) (.lv (Qp7 m x4.F2 access) λ(x5:List Int)=> .lf (x4.Addr,0,x5))))))); .br (size !=1) (.br (size !=4) (.lf (0,5,m)) T1) T1)
def Q17(c:Q05)(m:(List Int))(va:Int)(size:Int)(access:Int):(Int×Int×(List Int)):=(Q7z c m va size access).m
abbrev Q8t(c:Q05)(m:(List Int))(va:Int)(size:Int)(access:Int):Prop:=(Q7z c m va size access).p
def Zh3:Q0d:=mkP 254 [false,true,false,false,false] true [.agg Q05.sig, .one (.row 0), .one (.int .u32), .one (.int .i64), .one (.int .i64)] [.arr 25 1 (.ints .u32)] (λargs rows=>Q8t (Q05.of (aC args 0)) (rowL .u32 rows 0) (argI args 2) (argI args 3) (argI args 4)) (λargs rows=>Q17 (Q05.of (aC args 0)) (rowL .u32 rows 0) (argI args 2) (argI args 3) (argI args 4)) (λX=> .tup [.int .u32 (X.1), .int .i64 (X.2.1)]) (λX=>[⟨false,25,1, .ints .u32 (X.2.2)⟩])
theorem Qtr:Q06 pG Zh3:=Q0p drawn Q0k (.cons Qta (.cons Za0 (.cons Qkx (.cons Qpx (.cons Zfm (.cons Zeo (.nil))))))) Tryz.func254 Tryz.call254 (λargs rows=>Q7z (Q05.of (aC args 0)) (rowL .u32 rows 0) (argI args 2) (argI args 3) (argI args 4)) [] [] 2
def Qm3(op:Int):Tree Bool:=
.br (decide (op>=57)) (.lf (decide (op<=64))) (.lf false)
def Q3h(op:Int):Bool:=(Qm3 op).m
def Qws:Q0d:=mkR 255 [] true [.one (.int .i64)] [] (λargs rows=>Q3h (argI args 0)) (λX=> .bool X) (λX=>[])
theorem Qv6:Q06 pG Qws:=Q11 drawn Q0k (.nil) Tryz.func255 Tryz.call255 (λargs rows=>Qm3 (argI args 0)) [] [] 2
def Qdm(c:Q05):Tree Q05:=
.lv (Qc1 (iand u32 c.B5.a0 (8:Int) !=(0:Int))) λ(x0:Int)=> .lv (Qc1 (iand u32 c.B5.a0 (16:Int) !=(0:Int))) λ(x1:Int)=> .lf ({X:=c.X,Pc:=c.B5.a2,B5:={a0:=ior u32 (ior u32 (Qhk u32 c.B5.a0 3) (wrap u32 (1*x0))) (wrap u32 (2*x1)),a1:=c.B5.a1,a2:=c.B5.a2,a3:=c.B5.a3,a4:=c.B5.a4,a5:=c.B5.a5,a6:=c.B5.a6,a7:=c.B5.a7}})
def Qje(c:Q05):Q05:=(Qdm c).m
def Zcy:Q0d:=mkR 297 [] true [.agg Q05.sig] [] (λargs rows=>Qje (Q05.of (aC args 0))) (λX=> .agg (Q05.cells X)) (λX=>[])
theorem Z6i:Q06 pG Zcy:=Q11 drawn Q0k (.cons Qst (.nil)) Tryz.func297 Tryz.call297 (λargs rows=>Qdm (Q05.of (aC args 0))) [] [] 2
def Qet(c:Q05)(r:Int)(v:Int):Tree Q05:=
.br (decide (r>0)) (.br (decide (r<16)) (.cn (Nat.blt 0 1&&decide (0<=r/\r<(↑16:Int))) (.lf ({X:=A16.of 0 (List.set (A16.l c.X) r.toNat v),Pc:=c.Pc,B5:=c.B5}))) (.lf c)) (.lf c)
def Q1y(c:Q05)(r:Int)(v:Int):Q05:=(Qet c r v).m
abbrev Q32(c:Q05)(r:Int)(v:Int):Prop:=(Qet c r v).p
def Zoj:Q0d:=mkP 219 [] true [.agg Q05.sig, .one (.int .i64), .one (.int .u32)] [] (λargs rows=>Q32 (Q05.of (aC args 0)) (argI args 1) (argI args 2)) (λargs rows=>Q1y (Q05.of (aC args 0)) (argI args 1) (argI args 2)) (λX=> .agg (Q05.cells X)) (λX=>[])
theorem Qeq:Q06 pG Zoj:=Q0p drawn Q0k (.nil) Tryz.func219 Tryz.call219 (λargs rows=>Qet (Q05.of (aC args 0)) (argI args 1) (argI args 2)) [] [] 2
def Qd1(c:Q05)(csr:Int)(v:Int):Tree Q05:=
let E4:=Nat.blt 0 1&&decide (0<=csr/\csr<(↑8:Int));let T2:Tree (Q05):= .cn E4 (.lf ({X:=c.X,Pc:=c.Pc,B5:=A8.of 0 (List.set (A8.l c.B5) csr.toNat (iand u32 v 31))})); .br (csr==0) T2 (.br (csr==7) T2 (.br (csr==6) (.cn E4 (.lf ({X:=c.X,Pc:=c.Pc,B5:=A8.of 0 (List.set (A8.l c.B5) csr.toNat (iand u32 v 255))}))) (let T3:Tree (Q05):= .cn E4 (.lf ({X:=c.X,Pc:=c.Pc,B5:=A8.of 0 (List.set (A8.l c.B5) csr.toNat (Qhk u32 v 3))})); .br (csr==1) T3 (.br (csr==2) T3 (let T1:Tree (Q05):= .cn E4 (.lf ({X:=c.X,Pc:=c.Pc,B5:=A8.of 0 (List.set (A8.l c.B5) csr.toNat v)})); .br (csr==3) T1 (.br (csr==4) T1 (.br (csr==5) T1 (.lf c))))))))
def Qi(c:Q05)(csr:Int)(v:Int):Q05:=(Qd1 c csr v).m
abbrev Qrx(c:Q05)(csr:Int)(v:Int):Prop:=(Qd1 c csr v).p
def Zgf:Q0d:=mkP 298 [] true [.agg Q05.sig, .one (.int .i64), .one (.int .u32)] [] (λargs rows=>Qrx (Q05.of (aC args 0)) (argI args 1) (argI args 2)) (λargs rows=>Qi (Q05.of (aC args 0)) (argI args 1) (argI args 2)) (λX=> .agg (Q05.cells X)) (λX=>[])
theorem Zd:Q06 pG Zgf:=Q0p drawn Q0k (.nil) Tryz.func298 Tryz.call298 (λargs rows=>Qd1 (Q05.of (aC args 0)) (argI args 1) (argI args 2)) [] [] 2
def Q84(c:Q05)(i:Q0l):Tree (Q05×Q16):=
.br (i.Op==56) (.lv (Q2x c 7 0) λ(x0:Q05)=> .lf (x0,{B6:=0,D1:=0,D9:=0,Value:=0})) (.br (i.Op==57) (.lv (Qje c) λ(x1:Q05)=> .lf (x1,{B6:=0,D1:=0,D9:=0,Value:=0})) (.br (i.Op==58) (.cn (Nat.blt 0 1&&decide (0<=i.Imm/\i.Imm<(↑8:Int))) (let E3:=List.getD (A8.l c.B5) i.Imm.toNat 0; .an (Q32 c i.A E3) (.lv (Q1y c i.A E3) λ(x2:Q05)=> .lf ({X:=x2.X,Pc:=wrap u32 (x2.Pc+4),B5:=x2.B5},{B6:=0,D1:=0,D9:=0,Value:=0})))) (let E2:=Nat.blt 0 1&&decide (0<=i.A/\i.A<(↑16:Int)); .br (i.Op==59) (.cn E2 (let E4:=List.getD (A16.l c.X) i.A.toNat 0; .an (Qrx c (wrap i64 i.Imm) E4) (.lv (Qi c (wrap i64 i.Imm) E4) λ(x3:Q05)=> .lf ({X:=x3.X,Pc:=wrap u32 (x3.Pc+4),B5:=x3.B5},{B6:=0,D1:=0,D9:=0,Value:=0})))) (let E1:=({X:=c.X,Pc:=wrap u32 (c.Pc+4),B5:=c.B5}:Q05); .br (i.Op==60) (.lf (E1,{B6:=1,D1:=wrap i64 i.Imm,D9:=i.A,Value:=0})) (.br (i.Op==61) (.cn E2 (.lf (E1,{B6:=2,D1:=wrap i64 i.Imm,D9:=0,Value:=List.getD (A16.l c.X) i.A.toNat 0}))) (.br (i.Op==62) (.lf (E1,{B6:=3,D1:=0,D9:=0,Value:=0})) (.br (i.Op==63) (.lf (E1,{B6:=5,D1:=0,D9:=0,Value:=0})) (.br (i.Op==64) (.lf (E1,{B6:=4,D1:=0,D9:=0,Value:=0})) (.lf (E1,{B6:=0,D1:=0,D9:=0,Value:=0}))))))))))
def Qji(c:Q05)(i:Q0l):(Q05×Q16):=(Q84 c i).m
abbrev Qp5(c:Q05)(i:Q0l):Prop:=(Q84 c i).p
def Zb6:Q0d:=mkP 256 [] true [.agg Q05.sig, .agg Q0l.sig] [] (λargs rows=>Qp5 (Q05.of (aC args 0)) (Q0l.of (aC args 1))) (λargs rows=>Qji (Q05.of (aC args 0)) (Q0l.of (aC args 1))) (λX=> .tup [.agg (Q05.cells (X.1)), .agg (Q16.cells (X.2))]) (λX=>[])
theorem Z6b:Q06 pG Zb6:=Q0p drawn Q0k (.cons Qk8 (.cons Z6i (.cons Qeq (.cons Zd (.nil))))) Tryz.func256 Tryz.call256 (λargs rows=>Q84 (Q05.of (aC args 0)) (Q0l.of (aC args 1))) [] [] 2
def Qz2(op:Int)(a:Int)(b:Int):Tree Bool:=
.br (op==40) (.lf (a==b)) (.br (op==41) (.lf (a !=b)) (.br (op==42) (.lf (decide (wrap i32 a<wrap i32 b))) (.br (op==43) (.lf (decide (wrap i32 a>=wrap i32 b))) (.br (op==44) (.lf (decide (a<b))) (.lf (decide (a>=b)))))))
def Q29(op:Int)(a:Int)(b:Int):Bool:=(Qz2 op a b).m
def Zgo:Q0d:=mkR 299 [] true [.one (.int .i64), .one (.int .u32), .one (.int .u32)] [] (λargs rows=>Q29 (argI args 0) (argI args 1) (argI args 2)) (λX=> .bool X) (λX=>[])
theorem Zcp:Q06 pG Zgo:=Q11 drawn Q0k (.nil) Tryz.func299 Tryz.call299 (λargs rows=>Qz2 (argI args 0) (argI args 1) (argI args 2)) [] [] 2
def Qjf(c:Q05)(i:Q0l):Tree Q05:=
.br (i.Op==48) (.an (Q32 c i.A (wrap u32 (c.Pc+4))) (.lv (Q1y c i.A (wrap u32 (c.Pc+4))) λ(x0:Q05)=> .lf ({X:=x0.X,Pc:=wrap u32 (c.Pc+wrap u32 (4*wrap u32 i.Imm)),B5:=x0.B5}))) (let E1:=Nat.blt 0 1&&decide (0<=i.B/\i.B<(↑16:Int)); .br (i.Op==49) (.cn E1 (.an (Q32 c i.A (wrap u32 (c.Pc+4))) (.lv (Q1y c i.A (wrap u32 (c.Pc+4))) λ(x1:Q05)=> .lf ({X:=x1.X,Pc:=wrap u32 (List.getD (A16.l c.X) i.B.toNat 0+wrap u32 i.Imm),B5:=x1.B5})))) (.cn (Nat.blt 0 1&&decide (0<=i.A/\i.A<(↑16:Int))) (.cn E1 (.lv (Q29 i.Op (List.getD (A16.l c.X) i.A.toNat 0) (List.getD (A16.l c.X) i.B.toNat 0)) λ(x2:Bool)=> .br x2 (.lf ({X:=c.X,Pc:=wrap u32 (c.Pc+wrap u32 (4*wrap u32 i.Imm)),B5:=c.B5})) (.lf ({X:=c.X,Pc:=wrap u32 (c.Pc+4),B5:=c.B5}))))))
def Z3y(c:Q05)(i:Q0l):Q05:=(Qjf c i).m
abbrev Qu9(c:Q05)(i:Q0l):Prop:=(Qjf c i).p
def Zkn:Q0d:=mkP 257 [] true [.agg Q05.sig, .agg Q0l.sig] [] (λargs rows=>Qu9 (Q05.of (aC args 0)) (Q0l.of (aC args 1))) (λargs rows=>Z3y (Q05.of (aC args 0)) (Q0l.of (aC args 1))) (λX=> .agg (Q05.cells X)) (λX=>[])
theorem Zdm:Q06 pG Zkn:=Q0p drawn Q0k (.cons Qeq (.cons Zcp (.nil))) Tryz.func257 Tryz.call257 (λargs rows=>Qjf (Q05.of (aC args 0)) (Q0l.of (aC args 1))) [] [] 2
def Q7t(x:Int)(n:Int):Tree Int:=
.br (decide (n<1)) (.lf 0) (.br (decide (n>=32)) (.lf x) (.cn (decide (0<=wrap u64 n)) (.cn (decide (0<=wrap u64 (wrap i64 (n-1)))) (let E1:=iand u32 x (wrap u32 (ishl u32 1 (wrap u64 n)-1)); .br (ishr u32 E1 (wrap u64 (wrap i64 (n-1)))==1) (.cn (decide (0<=wrap u64 n)) (.lf (ior u32 E1 (ishl u32 4294967295 (wrap u64 n))))) (.lf E1)))))
def Q3b(x:Int)(n:Int):Int:=(Q7t x n).m
abbrev Qcw(x:Int)(n:Int):Prop:=(Q7t x n).p
def Qwr:Q0d:=mkP 301 [] true [.one (.int .u32), .one (.int .i64)] [] (λargs rows=>Qcw (argI args 0) (argI args 1)) (λargs rows=>Q3b (argI args 0) (argI args 1)) (λX=> .int .u32 X) (λX=>[])
theorem Quu:Q06 pG Qwr:=Q0p drawn Q0k (.nil) Tryz.func301 Tryz.call301 (λargs rows=>Q7t (argI args 0) (argI args 1)) [] [] 2
def Q9p(c:Q05)(m:(List Int))(i:Q0l):Tree (Q05×(List Int)):=
.cn (Nat.blt 0 1&&decide (0<=i.B/\i.B<(↑16:Int))) (let E4:=wrap u32 (List.getD (A16.l c.X) i.B.toNat 0+wrap u32 i.Imm);let E5:=List.getD (A16.l c.X) i.A.toNat 0;let E6:=Nat.blt 0 1&&decide (0<=i.A/\i.A<(↑16:Int));let E7:=({X:=c.X,Pc:=wrap u32 (c.Pc+4),B5:=c.B5}:Q05);let T1:Tree ((Q05×(List Int))):=let T3:Tree ((Q05×(List Int))):= .an (Q8t c m E4 4 3) (.lv (Q17 c m E4 4 3) λ(x0:Int×Int×List Int)=> .br (x0.2.1 !=0) (.lv (Q2x c x0.2.1 E4) λ(x1:Q05)=> .lf (x1,x0.2.2)) (.cn E6 (.an (Qg7 x0.2.2 x0.1 4 E5) (.lv (Qah x0.2.2 x0.1 4 E5) λ(x2:List Int)=> .lf (E7,x2))))); .br (i.Op==35) T3 (.br (i.Op==36) T3 (.an (Q8t c m E4 4 2) (.lv (Q17 c m E4 4 2) λ(x6:Int×Int×List Int)=> .br (x6.2.1 !=0) (.lv (Q2x c x6.2.1 E4) λ(x7:Q05)=> .lf (x7,x6.2.2)) (.an (Qdh x6.2.2 x6.1 4) (.lv (Q1e x6.2.2 x6.1 4) λ(x8:Int×Bool)=> .br (i.Op==33) (.an (Qcw x8.1 8) (.lv (Q3b x8.1 8) λ(x9:Int)=> .an (Q32 c i.A x9) (.lv (Q1y c i.A x9) λ(x10:Q05)=> .lf ({X:=x10.X,Pc:=wrap u32 (x10.Pc+4),B5:=x10.B5},x6.2.2)))) (.an (Q32 c i.A x8.1) (.lv (Q1y c i.A x8.1) λ(x11:Q05)=> .lf ({X:=x11.X,Pc:=wrap u32 (x11.Pc+4),B5:=x11.B5},x6.2.2)))))))); .br (i.Op==32) T1 (.br (i.Op==35) T1 (let T2:Tree ((Q05×(List Int))):= .an (Q8t c m E4 1 3) (.lv (Q17 c m E4 1 3) λ(x24:Int×Int×List Int)=> .br (x24.2.1 !=0) (.lv (Q2x c x24.2.1 E4) λ(x25:Q05)=> .lf (x25,x24.2.2)) (.cn E6 (.an (Qg7 x24.2.2 x24.1 1 E5) (.lv (Qah x24.2.2 x24.1 1 E5) λ(x26:List Int)=> .lf (E7,x26))))); .br (i.Op==35) T2 (.br (i.Op==36) T2 (.an (Q8t c m E4 1 2) (.lv (Q17 c m E4 1 2) λ(x30:Int×Int×List Int)=> .br (x30.2.1 !=0) (.lv (Q2x c x30.2.1 E4) λ(x31:Q05)=> .lf (x31,x30.2.2)) (.an (Qdh x30.2.2 x30.1 1) (.lv (Q1e x30.2.2 x30.1 1) λ(x32:Int×Bool)=> .br (i.Op==33) (.an (Qcw x32.1 8) (.lv (Q3b x32.1 8) λ(x33:Int)=> .an (Q32 c i.A x33) (.lv (Q1y c i.A x33) λ(x34:Q05)=> .lf ({X:=x34.X,Pc:=wrap u32 (x34.Pc+4),B5:=x34.B5},x30.2.2)))) (.an (Q32 c i.A x32.1) (.lv (Q1y c i.A x32.1) λ(x35:Q05)=> .lf ({X:=x35.X,Pc:=wrap u32 (x35.Pc+4),B5:=x35.B5},x30.2.2)))))))))))
def Q5c(c:Q05)(m:(List Int))(i:Q0l):(Q05×(List Int)):=(Q9p c m i).m
abbrev Qlv(c:Q05)(m:(List Int))(i:Q0l):Prop:=(Q9p c m i).p
def Z4w:Q0d:=mkP 258 [false,true,false] true [.agg Q05.sig, .one (.row 0), .agg Q0l.sig] [.arr 25 1 (.ints .u32)] (λargs rows=>Qlv (Q05.of (aC args 0)) (rowL .u32 rows 0) (Q0l.of (aC args 2))) (λargs rows=>Q5c (Q05.of (aC args 0)) (rowL .u32 rows 0) (Q0l.of (aC args 2))) (λX=> .agg (Q05.cells (X.1))) (λX=>[⟨false,25,1, .ints .u32 (X.2)⟩])
theorem Z09:Q06 pG Z4w:=Q0p drawn Q0k (.cons Qtr (.cons Qk8 (.cons Z5b (.cons Qpu (.cons Quu (.cons Qeq (.nil))))))) Tryz.func258 Tryz.call258 (λargs rows=>Q9p (Q05.of (aC args 0)) (rowL .u32 rows 0) (Q0l.of (aC args 2))) [] [] 2
def Qyf(op:Int):Tree Int:=
.br (op==16) (.lf 1) (.br (op==17) (.lf 3) (.br (op==18) (.lf 4) (.br (op==19) (.lf 5) (.br (op==20) (.lf 6) (.br (op==21) (.lf 7) (.br (op==22) (.lf 8) (.br (op==23) (.lf 12) (.lf op))))))))
def Z9l(op:Int):Int:=(Qyf op).m
def Zfe:Q0d:=mkR 302 [] true [.one (.int .i64)] [] (λargs rows=>Z9l (argI args 0)) (λX=> .int .i64 X) (λX=>[])
theorem Zbn:Q06 pG Zfe:=Q11 drawn Q0k (.nil) Tryz.func302 Tryz.call302 (λargs rows=>Qyf (argI args 0)) [] [] 2
def Qap(a:Int)(b:Int):Tree (Int×Int):=
.br (b==0) (.lf (4294967295,a)) (.cn (decide (wrap i64 (wrap i32 b)≠0)) (.cn (decide (wrap i64 (wrap i32 b)≠0)) (.lf (wrap u32 (wrap i64 (Int.tdiv (wrap i64 (wrap i32 a)) (wrap i64 (wrap i32 b)))),wrap u32 (Int.tmod (wrap i64 (wrap i32 a)) (wrap i64 (wrap i32 b)))))))
def Qcr(a:Int)(b:Int):(Int×Int):=(Qap a b).m
abbrev Qia(a:Int)(b:Int):Prop:=(Qap a b).p
def Zap:Q0d:=mkP 303 [] true [.one (.int .u32), .one (.int .u32)] [] (λargs rows=>Qia (argI args 0) (argI args 1)) (λargs rows=>Qcr (argI args 0) (argI args 1)) (λX=> .tup [.int .u32 (X.1), .int .u32 (X.2)]) (λX=>[])
theorem Z7d:Q06 pG Zap:=Q0p drawn Q0k (.nil) Tryz.func303 Tryz.call303 (λargs rows=>Qap (argI args 0) (argI args 1)) [] [] 2
def Qm4(op:Int)(a:Int)(b:Int):Tree (Int×Bool):=
.lv (Z9l op) λ(x0:Int)=> .br (x0==1) (.lf (wrap u32 (a+b),true)) (.br (x0==2) (.lf (wrap u32 (a-b),true)) (.br (x0==3) (.lf (iand u32 a b,true)) (.br (x0==4) (.lf (ior u32 a b,true)) (.br (x0==5) (.lf (ixor u32 a b,true)) (.br (x0==6) (.lf (ishl u32 a (iand u32 b 31),true)) (.br (x0==7) (.lf (ishr u32 a (iand u32 b 31),true)) (.br (x0==8) (.lf (wrap u32 (ishr i32 (wrap i32 a) (iand u32 b 31)),true)) (.br (x0==9) (.lf (wrap u32 (a*b),true)) (.br (x0==10) (.an (Qia a b) (.lv (Qcr a b) λ(x1:Int×Int)=> .lf (x1.1,true))) (.br (x0==11) (.an (Qia a b) (.lv (Qcr a b) λ(x2:Int×Int)=> .lf (x2.2,true))) (.br (x0==12) (.lv (Qc1 (decide (wrap i32 a<wrap i32 b))) λ(x3:Int)=> .lf (x3,true)) (.br (x0==13) (.lv (Qc1 (decide (a<b))) λ(x4:Int)=> .lf (x4,true)) (.lf (0,false))))))))))))))
def Qe0(op:Int)(a:Int)(b:Int):(Int×Bool):=(Qm4 op a b).m
abbrev Qpf(op:Int)(a:Int)(b:Int):Prop:=(Qm4 op a b).p
def Zo1:Q0d:=mkP 259 [] true [.one (.int .i64), .one (.int .u32), .one (.int .u32)] [] (λargs rows=>Qpf (argI args 0) (argI args 1) (argI args 2)) (λargs rows=>Qe0 (argI args 0) (argI args 1) (argI args 2)) (λX=> .tup [.int .u32 (X.1), .bool (X.2)]) (λX=>[])
theorem Zkm:Q06 pG Zo1:=Q0p drawn Q0k (.cons Zbn (.cons Z7d (.cons Qst (.nil)))) Tryz.func259 Tryz.call259 (λargs rows=>Qm4 (argI args 0) (argI args 1) (argI args 2)) [] [] 2
def Qok(c:Q05)(m:(List Int)):Tree (Q05×Q16×(List Int)):=
.an (Q8t c m c.Pc 4 1) (.lv (Q17 c m c.Pc 4 1) λ(x0:Int×Int×List Int)=> .br (x0.2.1 !=0) (.lv (Q2x c x0.2.1 c.Pc) λ(x1:Q05)=> .lf (x1,{B6:=0,D1:=0,D9:=0,Value:=0},x0.2.2)) (.an (Qdh x0.2.2 x0.1 4) (.lv (Q1e x0.2.2 x0.1 4) λ(x2:Int×Bool)=> .lv (Q21 x2.1) λ(x3:Q0l×Bool)=> .br (!x3.2) (.lv (Q2x c 1 x2.1) λ(x4:Q05)=> .lf (x4,{B6:=0,D1:=0,D9:=0,Value:=0},x0.2.2)) (.lv (Q3h x3.1.Op) λ(x5:Bool)=>let T1:Tree ((Q05×Q16×(List Int))):= .br (decide (x3.1.Op>=56)) (.an (Qp5 c x3.1) (.lv (Qji c x3.1) λ(x7:Q05×Q16)=> .lf (x7.1,x7.2,x0.2.2))) (.br (decide (x3.1.Op>=40)) (.an (Qu9 c x3.1) (.lv (Z3y c x3.1) λ(x8:Q05)=> .lf (x8,{B6:=0,D1:=0,D9:=0,Value:=0},x0.2.2))) (.br (decide (x3.1.Op>=32)) (.an (Qlv c x0.2.2 x3.1) (.lv (Q5c c x0.2.2 x3.1) λ(x9:Q05×List Int)=> .lf (x9.1,{B6:=0,D1:=0,D9:=0,Value:=0},x9.2))) (.br (x3.1.Op==24) (.an (Q32 c x3.1.A (ishl u32 (wrap u32 x3.1.Imm) 16)) (.lv (Q1y c x3.1.A (ishl u32 (wrap u32 x3.1.Imm) 16)) λ(x10:Q05)=> .lf ({X:=x10.X,Pc:=wrap u32 (x10.Pc+4),B5:=x10.B5},{B6:=0,D1:=0,D9:=0,Value:=0},x0.2.2))) (let E2:=List.getD (A16.l c.X) x3.1.B.toNat 0;let E3:=Nat.blt 0 1&&decide (0<=x3.1.B/\x3.1.B<(↑16:Int)); .br (decide (x3.1.Op<=13)) (.cn (Nat.blt 0 1&&decide (0<=x3.1.C/\x3.1.C<(↑16:Int))) (.cn E3 (let E4:=List.getD (A16.l c.X) x3.1.C.toNat 0; .an (Qpf x3.1.Op E2 E4) (.lv (Qe0 x3.1.Op E2 E4) λ(x11:Int×Bool)=> .an (Q32 c x3.1.A x11.1) (.lv (Q1y c x3.1.A x11.1) λ(x12:Q05)=> .lf ({X:=x12.X,Pc:=wrap u32 (x12.Pc+4),B5:=x12.B5},{B6:=0,D1:=0,D9:=0,Value:=0},x0.2.2)))))) (.cn E3 (.an (Qpf x3.1.Op E2 (wrap u32 x3.1.Imm)) (.lv (Qe0 x3.1.Op E2 (wrap u32 x3.1.Imm)) λ(x13:Int×Bool)=> .an (Q32 c x3.1.A x13.1) (.lv (Q1y c x3.1.A x13.1) λ(x14:Q05)=> .lf ({X:=x14.X,Pc:=wrap u32 (x14.Pc+4),B5:=x14.B5},{B6:=0,D1:=0,D9:=0,Value:=0},x0.2.2))))))))); .br x5 (.br (iand u32 c.B5.a0 (1:Int)==(0:Int)) (.lv (Q2x c 2 x2.1) λ(x6:Q05)=> .lf (x6,{B6:=0,D1:=0,D9:=0,Value:=0},x0.2.2)) T1) T1))))
def Q7u(c:Q05)(m:(List Int)):(Q05×Q16×(List Int)):=(Qok c m).m
abbrev Qry(c:Q05)(m:(List Int)):Prop:=(Qok c m).p
def yB:Q0d:=mkP 217 [false,true] true [.agg Q05.sig, .one (.row 0)] [.arr 25 1 (.ints .u32)] (λargs rows=>Qry (Q05.of (aC args 0)) (rowL .u32 rows 0)) (λargs rows=>Q7u (Q05.of (aC args 0)) (rowL .u32 rows 0)) (λX=> .tup [.agg (Q05.cells (X.1)), .agg (Q16.cells (X.2.1))]) (λX=>[⟨false,25,1, .ints .u32 (X.2.2)⟩])
theorem Z8y:Q06 pG yB:=Q0p drawn Q0k (.cons Qtr (.cons Qk8 (.cons Qpu (.cons Qro (.cons Qv6 (.cons Z6b (.cons Zdm (.cons Z09 (.cons Qeq (.cons Zkm (.nil))))))))))) Tryz.func217 Tryz.call217 (λargs rows=>Qok (Q05.of (aC args 0)) (rowL .u32 rows 0)) [] [] 2
end
noncomputable section
def Qde(steps:Int):Tree Int:=
.lf (if 4000<if 0>steps then 0 else steps then 4000 else if 0>steps then 0 else steps)
def Q0m(steps:Int):Int:=(Qde steps).m
def Z5:Q0d:=mkR 158 [] true [.one (.int .i64)] [] (λargs rows=>Q0m (argI args 0)) (λX=> .int .i64 X) (λX=>[])
theorem Z0h:Q06 pG Z5:=Q11 drawn Q0k (.nil) Tryz.func158 Tryz.call158 (λargs rows=>Qde (argI args 0)) [] [] 2
def Qwo(t:Q0i)(now:Int):Tree Bool:=
.br t.D2 (.lf (decide (now>=t.C9))) (.lf false)
def Q8i(t:Q0i)(now:Int):Bool:=(Qwo t now).m
def Zou:Q0d:=mkR 214 [] true [.agg Q0i.sig, .one (.int .u32)] [] (λargs rows=>Q8i (Q0i.of (aC args 0)) (argI args 1)) (λX=> .bool X) (λX=>[])
theorem Zjk:Q06 pG Zou:=Q11 drawn Q0k (.nil) Tryz.func214 Tryz.call214 (λargs rows=>Qwo (Q0i.of (aC args 0)) (argI args 1)) [] [] 2
def Qel(m:Q00)(z:(Int)):Nat:=(32-z).toNat
def Q4u(m:Q00):Tree Q05:=
.an (Qgy m) (.lv (Q31 m) λ(x0:Int)=> .br (iand u32 m.B2.B5.a0 (2:Int)==(0:Int)) (.lf m.B2) (.br (x0==0) (.lf m.B2) (.lp inferInstance (Qel m 0+1) ((rZ/\rZ/\rE (x0:Int)/\rE (0:Int)/\True)/\(mE m (((Els.Nil (Els.ints u32 m.Mem)\/rE (1:Nat))/\rE m.Mem)) True)/\(rE (0:Int)/\rE (0:Int)/\rE (0:Int)/\rE (0:Int)/\rE (0:Int)/\rE (0:Int)/\rE (0:Int)/\rE (0:Int)/\rE (0:Int)/\rE (0:Int)/\rE (0:Int)/\rE (0:Int)/\rE (0:Int)/\rE (0:Int)/\rE (0:Int)/\rE (0:Int)/\rE (0:Int)/\rE (0:Int)/\rE (0:Int)/\rE (0:Int)/\rE (0:Int)/\rE (0:Int)/\rE (0:Int)/\rE (0:Int)/\rE (0:Int)/\True)/\True) 0 λ(v0:Int)=> .cn (decide (0<=wrap u64 v0)) (.br (iand u32 (ishr u32 x0 (wrap u64 v0)) (1:Int)==(0:Int)) (.nx ((rZ/\rZ/\rE (x0:Int)/\rE ((wrap i64 (v0+1)):Int)/\True)/\(mE m (((Els.Nil (Els.ints u32 m.Mem)\/rE (1:Nat))/\rE m.Mem)) True)/\(rE (0:Int)/\rE (0:Int)/\rE (0:Int)/\rE (0:Int)/\rE (0:Int)/\rE (0:Int)/\rE (0:Int)/\rE (0:Int)/\rE (0:Int)/\rE (0:Int)/\rE (0:Int)/\rE (0:Int)/\rE (0:Int)/\rE (0:Int)/\rE (0:Int)/\rE (0:Int)/\rE (0:Int)/\rE (0:Int)/\rE (0:Int)/\rE (0:Int)/\rE (0:Int)/\rE (0:Int)/\rE (0:Int)/\rE (0:Int)/\rE (0:Int)/\True)/\True) (Sum.inl (wrap i64 (v0+1)))) (.lv (Q2x m.B2 (wrap i64 (16+v0)) 0) λ(x1:Q05)=> .lf (Sum.inr x1))))))
def Q0n(m:Q00):Q05:=(Q4u m).m
abbrev Q7i(m:Q00):Prop:=(Q4u m).p
def Qsf:LInv:={
 α:=(Int)
 F:=λst a=>([(1, .ptr 0 0 0),(2, .ptr 1 0 0),(3,(lk st 3)),(4, .int i64 a)],[⟨true,43,49, .gen [mB (cT st 1)]⟩,⟨true,29,25, .gen [[(cT st 2 0),(cT st 2 1),(cT st 2 2),(cT st 2 3),(cT st 2 4),(cT st 2 5),(cT st 2 6),(cT st 2 7),(cT st 2 8),(cT st 2 9),(cT st 2 10),(cT st 2 11),(cT st 2 12),(cT st 2 13),(cT st 2 14),(cT st 2 15),(cT st 2 16),(cT st 2 17),(cT st 2 18),(cT st 2 19),(cT st 2 20),(cT st 2 21),(cT st 2 22),(cT st 2 23),(cT st 2 24)]]⟩])
 a0:=λst=>(lk st 4).toInt
 ex0:=λst=>[]++[(rX st 1 0),(rX st 2 1)]}
def Qpc:List (Nat×LInv):=[(5,Qsf)]
def Qup:Q0d:=mkP 186 [] true [.agg Q00.sig] [] (λargs rows=>Q7i (Q00.of (aC args 0))) (λargs rows=>Q0n (Q00.of (aC args 0))) (λX=> .agg (Q05.cells X)) (λX=>[])
theorem Qcq:Q06 pG Qup:=Q0p drawn Q0k (.cons Qpb (.cons Qk8 (.nil))) Tryz.func186 Tryz.call186 (λargs rows=>Q4u (Q00.of (aC args 0))) [] Qpc 3
def Qg5(m:Q00):Tree Bool:=
.an (Q7i m) (.lv (Q0n m) λ(x0:Q05)=> .br (iand u32 x0.B5.a0 (1:Int)==(0:Int)) (.lf false) (.an (Qdh m.Mem x0.Pc 4) (.lv (Q1e m.Mem x0.Pc 4) λ(x1:Int×Bool)=> .lv (Q21 x1.1) λ(x2:Q0l×Bool)=> .br x1.2 (.br x2.2 (.br (x2.1.Op==60) (.lf (x2.1.Imm==2)) (.lf false)) (.lf false)) (.lf false))))
def Qfe(m:Q00):Bool:=(Qg5 m).m
abbrev Qky(m:Q00):Prop:=(Qg5 m).p
def Zfv:Q0d:=mkP 116 [] true [.agg Q00.sig] [] (λargs rows=>Qky (Q00.of (aC args 0))) (λargs rows=>Qfe (Q00.of (aC args 0))) (λX=> .bool X) (λX=>[])
theorem Que:Q06 pG Zfv:=Q0p drawn Q0k (.cons Qcq (.cons Qpu (.cons Qro (.nil)))) Tryz.func116 Tryz.call116 (λargs rows=>Qg5 (Q00.of (aC args 0))) [] [] 2
def Q7o(m:Q00):Tree Bool:=
.an (Qfo m) (.lv (Q0v m) λ(x0:Bool)=> .br x0 (.lf false) (.an (Qky m) (.lv (Qfe m) λ(x1:Bool)=> .lf x1)))
def Q0h(m:Q00):Bool:=(Q7o m).m
abbrev Qcp(m:Q00):Prop:=(Q7o m).p
def Qxt:Q0d:=mkP 31 [] true [.agg Q00.sig] [] (λargs rows=>Qcp (Q00.of (aC args 0))) (λargs rows=>Q0h (Q00.of (aC args 0))) (λX=> .bool X) (λX=>[])
theorem Qt7:Q06 pG Qxt:=Q0p drawn Q0k (.cons Qu7 (.cons Que (.nil))) Tryz.func31 Tryz.call31 (λargs rows=>Q7o (Q00.of (aC args 0))) [] [] 2
def Q3k(c:Q0c)(port:Int):Tree (Q0c×Int):=
let T1:Tree ((Q0c×Int)):= .br (port==0) (.cn (decide ((0:Int)<=(1:Int)/\1<=(c.D3.length:Int)/\(c.D3.length:Int)<=(c.D3.length:Int))) (.cn (decide ((0:Int)<=(0:Int)/\0<(c.D3.length:Int))) (.lf ({D3:=List.take (Int.toNat (c.D3.length:Int)-Int.toNat 1) (List.drop (Int.toNat 1) c.D3)},wrap u32 (↑(UInt8.toNat (c.D3.getD (Int.toNat 0) (0:UInt8))):Int))))) (.br (port==1) (.lf (c,wrap u32 (c.D3.length:Int))) (.lf (c,0))); .br (port==0) (.br ((c.D3.length:Int)==(0:Int)) (.lf (c,4294967295)) T1) T1
def Q5l(c:Q0c)(port:Int):(Q0c×Int):=(Q3k c port).m
theorem Qui(c:Q0c)(port:Int):(Q3k c port).p:=by
 unfold Tree.p Q3k
 repeat'(first|exact trivial|refine w_br (λ_=> ?_) (λ_=> ?_)|refine w_cn ?_ ?_|refine w_an ?_ ?_|refine w_lv (λ_ _=> ?_)|refine w_nx ?_|refine w_lf ?_|refine And.intro ?_ ?_)
 all_goals(exact fin0)
def Z0i:Q0d:=mkR 260 [] true [.agg Q0c.sig, .one (.int .i64)] [] (λargs rows=>Q5l (Q0c.of (aC args 0)) (argI args 1)) (λX=> .tup [.agg (Q0c.cells (X.1)), .int .u32 (X.2)]) (λX=>[])
theorem Qle:Q06 pG Z0i:=Q11 drawn Q0k (.nil) Tryz.func260 Tryz.call260 (λargs rows=>Q3k (Q0c.of (aC args 0)) (argI args 1)) [] [] 2 (λ_ _ _=>by kernel_rfl) (λ_ _=>rfl) (λargs rows=>Qui (Q0c.of (aC args 0)) (argI args 1)) (λ_ X=>by kernel_rfl)
def Qfm(t:Q0i):Tree Int:=
.br t.D5 (.lf 1) (.lf 0)
def Qg(t:Q0i):Int:=(Qfm t).m
def Z7e:Q0d:=mkR 261 [] true [.agg Q0i.sig] [] (λargs rows=>Qg (Q0i.of (aC args 0))) (λX=> .int .u32 X) (λX=>[])
theorem Qp4:Q06 pG Z7e:=Q11 drawn Q0k (.nil) Tryz.func261 Tryz.call261 (λargs rows=>Qfm (Q0i.of (aC args 0))) [] [] 2
def Qhn(d0:Q0f)(port:Int):Tree Int:=
.br (port==4) (.lf d0.C0) (.br (port==5) (.lf d0.Frame) (.br (port==6) (.lf (wrap u32 d0.C1)) (.lf 0)))
def Qjq(d0:Q0f)(port:Int):Int:=(Qhn d0 port).m
def Zag:Q0d:=mkR 262 [] true [.agg Q0f.sig, .one (.int .i64)] [] (λargs rows=>Qjq (Q0f.of (aC args 0)) (argI args 1)) (λX=> .int .u32 X) (λX=>[])
theorem Qrj:Q06 pG Zag:=Q11 drawn Q0k (.nil) Tryz.func262 Tryz.call262 (λargs rows=>Qhn (Q0f.of (aC args 0)) (argI args 1)) [] [] 2
def Qgo(n:Q0r)(port:Int):Tree Int:=
.br (port==7) (.lf n.Frame) (.br (port==8) (.lf n.F1) (.br (port==9) (.br n.C6 (.br n.B8 (.lf (wrap u32 ((1:Int)+(2:Int)))) (.lf 1)) (.br n.B8 (.lf (wrap u32 ((0:Int)+(2:Int)))) (.lf 0))) (.lf 0)))
def Qi4(n:Q0r)(port:Int):Int:=(Qgo n port).m
def Zf6:Q0d:=mkR 263 [] true [.agg Q0r.sig, .one (.int .i64)] [] (λargs rows=>Qi4 (Q0r.of (aC args 0)) (argI args 1)) (λX=> .int .u32 X) (λX=>[])
theorem Qu:Q06 pG Zf6:=Q11 drawn Q0k (.nil) Tryz.func263 Tryz.call263 (λargs rows=>Qgo (Q0r.of (aC args 0)) (argI args 1)) [] [] 2
def Q6d(b:Q09)(port:Int):Tree Int:=
.br (port==10) (.lf b.D0) (.br (port==11) (.lv (Qf5 b) λ(x0:Int)=> .lf (wrap u32 x0)) (.lf 0))
def Q5o(b:Q09)(port:Int):Int:=(Q6d b port).m
def Z03:Q0d:=mkR 264 [] true [.agg Q09.sig, .one (.int .i64)] [] (λargs rows=>Q5o (Q09.of (aC args 0)) (argI args 1)) (λX=> .int .u32 X) (λX=>[])
theorem Qlc:Q06 pG Z03:=Q11 drawn Q0k (.cons Qtt (.nil)) Tryz.func264 Tryz.call264 (λargs rows=>Q6d (Q09.of (aC args 0)) (argI args 1)) [] [] 2
def Qlj(m:Q00)(port:Int)(clock:Int):Tree (Int×Q00):=
.br (decide (port<=1)) (.lv (Q5l m.A4 port) λ(x0:Q0c×Int)=> .lf (x0.2,{B2:=m.B2,Mem:=m.Mem,A4:=x0.1,B0:=m.B0,B1:=m.B1,C4:=m.C4,A2:=m.A2,A1:=m.A1,A7:=m.A7,A9:=m.A9})) (.br (port==2) (.lf (clock,m)) (.br (port==3) (.lv (Qg m.B0) λ(x1:Int)=> .lf (x1,m)) (.br (decide (port<=6)) (.lv (Qjq m.B1 port) λ(x2:Int)=> .lf (x2,m)) (.br (decide (port<=9)) (.lv (Qi4 m.C4 port) λ(x3:Int)=> .lf (x3,m)) (.lv (Q5o m.A2 port) λ(x4:Int)=> .lf (x4,m))))))
def Qe2(m:Q00)(port:Int)(clock:Int):(Int×Q00):=(Qlj m port clock).m
def vB:Q0d:=mkR 218 [true,false,false] true [.ptr 0, .one (.int .i64), .one (.int .u32)] [.box 43 49 (Q00.sigW (.row 1)), .arr 25 1 (.ints .u32)] (λargs rows=>Qe2 (Q00.ofW (rows.getD 0 default).cs (rowL .u32 rows 1)) (argI args 1) (argI args 2)) (λX=> .int .u32 (X.1)) (λX=>[⟨true,43,49, .gen [(Q00.cellsW (X.2) (.all 1))]⟩,⟨false,25,1, .ints .u32 (X.2).Mem⟩])
theorem Zod:Q06 pG vB:=Q11 drawn Q0k (.cons Qle (.cons Qp4 (.cons Qrj (.cons Qu (.cons Qlc (.nil)))))) Tryz.func218 Tryz.call218 (λargs rows=>Qlj (Q00.ofW (rows.getD 0 default).cs (rowL .u32 rows 1)) (argI args 1) (argI args 2)) [.row 25 1 (.ints .u32)] [] 2
def Qwa(deadline:Int):Tree Q0i:=
.br (deadline==0) (.lf ({D2:=false,C9:=0,D5:=false})) (.lf ({D2:=true,C9:=deadline,D5:=false}))
def Qtd(deadline:Int):Q0i:=(Qwa deadline).m
def Zpi:Q0d:=mkR 265 [] true [.one (.int .u32)] [] (λargs rows=>Qtd (argI args 0)) (λX=> .agg (Q0i.cells X)) (λX=>[])
theorem Z5d:Q06 pG Zpi:=Q11 drawn Q0k (.nil) Tryz.func265 Tryz.call265 (λargs rows=>Qwa (argI args 0)) [] [] 2
def Qu2(x:Int)(n:Int)(z:(Int)×(List Int)):Prop:=0<=z.1/\(z.2.length:Int)=z.1/\(z.1<=n\/z.1=0)
def Qfp(x:Int)(n:Int)(z:(Int)×(List Int)):Nat:=(n-z.1).toNat
def Qi1(x:Int)(n:Int):Tree (List UInt8):=
.lp inferInstance (Qfp x n (0,[])+1) ((rE (x:Int)/\rE (n:Int)/\True/\rE (0:Int)/\True)/\rE ([]:List Int)/\True) (0,[]) λ(v0:Int×List Int)=> .br (decide (v0.1<n)) (.cn (decide (0<=wrap u64 (wrap i64 (8*v0.1)))) (.cn (decide (1*(v0.2.length+1)<=140737488355328)) (.nx ((rE (x:Int)/\rE (n:Int)/\True/\rE ((wrap i64 (v0.1+1)):Int)/\True)/\rE ((v0.2++[wrap u8 (ishr u32 x (wrap u64 (wrap i64 (8*v0.1))))]):List Int)/\True) (Sum.inl (wrap i64 (v0.1+1),v0.2++[wrap u8 (ishr u32 x (wrap u64 (wrap i64 (8*v0.1))))]))))) (.lf (Sum.inr (bytesOf v0.2)))
def Zc6(x:Int)(n:Int):(List UInt8):=(Qi1 x n).m
def Qkh(x:Int)(n:Int):Prop:=
n<=1000000000000
theorem Zh(x:Int)(n:Int)(hw:Qkh x n):(Qi1 x n).p:=by
 simp only[Qkh]at hw
 unfold Tree.p Qi1
 repeat'(first|refine w_lp (inv:=Qu2 x n) (μ:=Qfp x n) ?_ (Nat.lt_succ_self _) (λ_ _=> ?_)|exact trivial|refine w_br (λ_=> ?_) (λ_=> ?_)|refine w_cn ?_ ?_|refine w_an ?_ ?_|refine w_lv (λ_ _=> ?_)|refine w_nx ?_|refine w_lf ?_|refine And.intro ?_ ?_)
 all_goals((try simp only[Qu2,Qfp]at*);exact fin0)
def Zjr:LInv:={
 α:=(Int)×(List Int)
 F:=λst a=>([(0,(lk st 0)),(1,(lk st 1)),(5, .all 0),(6, .int i64 a.1)],[⟨false,5,1, .ints u8 a.2⟩])
 a0:=λst=>((lk st 6).toInt,(Q5d st.rows (rN st 5)))
 ex0:=λst=>[]++[(rX st 5 0)]}
def Zax:List (Nat×LInv):=[(3,Zjr)]
def Zow:Q0d:=mkP 315 [] true [.one (.int .u32), .one (.int .i64)] [] (λargs rows=>Qkh (argI args 0) (argI args 1)) (λargs rows=>Zc6 (argI args 0) (argI args 1)) (λX=> .str X) (λX=>[])
theorem Zj9:Q06 pG Zow:=Q0p drawn Q0k (.nil) Tryz.func315 Tryz.call315 (λargs rows=>Qi1 (argI args 0) (argI args 1)) [] Zax 3 (hp:=λargs rows h=>Zh (argI args 0) (argI args 1) h)
def Qj1(m:(List Int))(frame:Int)(z:(Int)×(List Int)):Nat:=(32-z.1).toNat
def Qa7(m:(List Int))(frame:Int):Tree ((List UInt8)×Bool):=
.br (decide (frame<0)) (.lf ([],false)) (.lv (Q3x m) λ(x0:Int)=> .br (decide (frame>=x0)) (.lf ([],false)) (.lp inferInstance (Qj1 m frame (0,[])+1) ((((Els.Nil (Els.ints u32 m)\/rE (1:Nat))/\rE (m:List Int))/\rE (frame:Int)/\True/\rE (0:Int)/\True)/\rE ([]:List Int)/\True) (0,[]) λ(v0:Int×List Int)=> .br (decide (v0.1<32)) (.cn (Nat.beq 1 1&&Nat.blt 0 1&&decide (0<=wrap i64 (wrap i64 (frame*32)+v0.1)/\wrap i64 (wrap i64 (frame*32)+v0.1)<(m.length:Int))) (let E1:=m.getD (Int.toNat (wrap i64 (wrap i64 (frame*32)+v0.1))) 0; .an (Qkh E1 4) (.lv (Zc6 E1 4) λ(x1:List UInt8)=> .cn (decide (1*(v0.2.length+List.length (Qbn x1))<=140737488355328)) (.nx ((((Els.Nil (Els.ints u32 m)\/rE (1:Nat))/\rE (m:List Int))/\rE (frame:Int)/\True/\rE ((wrap i64 (v0.1+1)):Int)/\True)/\rE ((v0.2++Qbn x1):List Int)/\True) (Sum.inl (wrap i64 (v0.1+1),v0.2++Qbn x1)))))) (.lf (Sum.inr (bytesOf v0.2,true)))))
def Qj7(m:(List Int))(frame:Int):((List UInt8)×Bool):=(Qa7 m frame).m
abbrev Qht(m:(List Int))(frame:Int):Prop:=(Qa7 m frame).p
def Zdi:LInv:={
 α:=(Int)×(List Int)
 F:=λst a=>([(0,(lk st 0)),(1,(lk st 1)),(6, .all 0),(7, .int i64 a.1)],[⟨false,5,1, .ints u8 a.2⟩])
 a0:=λst=>((lk st 7).toInt,(Q5d st.rows (rN st 6)))
 ex0:=λst=>[]++[(rX st 6 0)]}
def Z6f:List (Nat×LInv):=[(5,Zdi)]
def Zju:Q0d:=mkP 304 [] true [.one (.ints .u32), .one (.int .i64)] [] (λargs rows=>Qht (argL .u32 args 0) (argI args 1)) (λargs rows=>Qj7 (argL .u32 args 0) (argI args 1)) (λX=> .tup [.str (X.1), .bool (X.2)]) (λX=>[])
theorem Qyp:Q06 pG Zju:=Q0p drawn Q0k (.cons Qeg (.cons Zj9 (.nil))) Tryz.func304 Tryz.call304 (λargs rows=>Qa7 (argL .u32 args 0) (argI args 1)) [] Z6f 3
def Qrq(d0:Q0f)(at0:Int):Tree (Q04×Bool):=
.br (d0.C1 !=1) (.lf ({B6:=0,At:=0,C0:=0,C8:=[]},false)) (.br (d0.D8==1) (.lf ({B6:=3,At:=at0,C0:=d0.B7,C8:=[]},true)) (.br (d0.D8==2) (.lf ({B6:=4,At:=at0,C0:=d0.B7,C8:=d0.C3},true)) (.lf ({B6:=0,At:=0,C0:=0,C8:=[]},false))))
def Qkl(d0:Q0f)(at0:Int):(Q04×Bool):=(Qrq d0 at0).m
def Z6k:Q0d:=mkR 305 [] true [.agg Q0f.sig, .one (.int .u64)] [] (λargs rows=>Qkl (Q0f.of (aC args 0)) (argI args 1)) (λX=> .tup [.agg (Q04.cells (X.1)), .bool (X.2)]) (λX=>[])
theorem Z4:Q06 pG Z6k:=Q11 drawn Q0k (.nil) Tryz.func305 Tryz.call305 (λargs rows=>Qrq (Q0f.of (aC args 0)) (argI args 1)) [] [] 2
def Q92(d0:Q0f)(m:(List Int))(port:Int)(v:Int)(at0:Int):Tree (Q0f×(List Q04)):=
.br (port==4) (.lf ({Blocks:=d0.Blocks,C0:=v,Frame:=d0.Frame,C1:=d0.C1,D8:=d0.D8,B7:=d0.B7,B3:=d0.B3,C3:=d0.C3},[])) (.br (port==5) (.lf ({Blocks:=d0.Blocks,C0:=d0.C0,Frame:=v,C1:=d0.C1,D8:=d0.D8,B7:=d0.B7,B3:=d0.B3,C3:=d0.C3},[])) (.br (port !=6) (.lf (d0,[])) (let T1:Tree ((Q0f×(List Q04))):= .br (d0.C1==0) (let T2:Tree ((Q0f×(List Q04))):= .lf ({Blocks:=d0.Blocks,C0:=d0.C0,Frame:=d0.Frame,C1:=3,D8:=d0.D8,B7:=d0.B7,B3:=d0.B3,C3:=d0.C3},[]); .br (decide (d0.C0>=d0.Blocks)) T2 (.lv (Q27 m d0.Frame) λ(x0:Bool)=> .br (!x0) T2 (.br (v==2) (.an (Qht m (wrap i64 d0.Frame)) (.lv (Qj7 m (wrap i64 d0.Frame)) λ(x1:List UInt8×Bool)=>let E4:=({Blocks:=d0.Blocks,C0:=d0.C0,Frame:=d0.Frame,C1:=1,D8:=wrap i64 v,B7:=d0.C0,B3:=d0.Frame,C3:=x1.1}:Q0f); .lv (Qkl E4 at0) λ(x2:Q04×Bool)=> .lf (E4,[x2.1]))) (let E5:=({Blocks:=d0.Blocks,C0:=d0.C0,Frame:=d0.Frame,C1:=1,D8:=wrap i64 v,B7:=d0.C0,B3:=d0.Frame,C3:=[]}:Q0f); .lv (Qkl E5 at0) λ(x3:Q04×Bool)=> .lf (E5,[x3.1]))))) (.lf (d0,[])); .br (v==0) (let T3:Tree ((Q0f×(List Q04))):= .lf ({Blocks:=d0.Blocks,C0:=d0.C0,Frame:=d0.Frame,C1:=0,D8:=d0.D8,B7:=d0.B7,B3:=d0.B3,C3:=d0.C3},[]); .br (d0.C1==2) T3 (.br (d0.C1==3) T3 (.br (v==1) T1 (.br (v==2) T1 (.lf (d0,[])))))) (.br (v==1) T1 (.br (v==2) T1 (.lf (d0,[])))))))
def Qge(d0:Q0f)(m:(List Int))(port:Int)(v:Int)(at0:Int):(Q0f×(List Q04)):=(Q92 d0 m port v at0).m
abbrev Qh7(d0:Q0f)(m:(List Int))(port:Int)(v:Int)(at0:Int):Prop:=(Q92 d0 m port v at0).p
def Z5r:Q0d:=mkP 266 [] true [.agg Q0f.sig, .one (.ints .u32), .one (.int .i64), .one (.int .u32), .one (.int .u64)] [] (λargs rows=>Qh7 (Q0f.of (aC args 0)) (argL .u32 args 1) (argI args 2) (argI args 3) (argI args 4)) (λargs rows=>Qge (Q0f.of (aC args 0)) (argL .u32 args 1) (argI args 2) (argI args 3) (argI args 4)) (λX=> .tup [.agg (Q0f.cells (X.1)), .sl 4 (.recs .apiOutput (X.2)) true]) (λX=>[])
theorem Qpa:Q06 pG Z5r:=Q0p drawn Q0k (.cons Qgf (.cons Qyp (.cons Z4 (.nil)))) Tryz.func266 Tryz.call266 (λargs rows=>Q92 (Q0f.of (aC args 0)) (argL .u32 args 1) (argI args 2) (argI args 3) (argI args 4)) [.sl (.recs .apiOutput) true] [] 2
def Qau(n:Q0r)(m:(List Int))(port:Int)(v:Int)(at0:Int):Tree (Q0r×(List Q04)):=
.br (port==7) (.lf ({Frame:=v,E0:=n.E0,C6:=n.C6,B9:=n.B9,B8:=n.B8,F1:=n.F1},[])) (.br (port==8) (.lf ({Frame:=n.Frame,E0:=v,C6:=n.C6,B9:=n.B9,B8:=n.B8,F1:=n.F1},[])) (.br (port !=9) (.lf (n,[])) (.br (v==0) (.lf ({Frame:=n.Frame,E0:=n.E0,C6:=n.C6,B9:=n.B9,B8:=false,F1:=0},[])) (let T1:Tree ((Q0r×(List Q04))):= .br (v==2) (.lv (Q27 m n.Frame) λ(x2:Bool)=> .br x2 (.br (!n.C6) (.br (!n.B8) (.lf ({Frame:=n.Frame,E0:=n.E0,C6:=true,B9:=n.Frame,B8:=n.B8,F1:=n.F1},[])) (.lf (n,[]))) (.lf (n,[]))) (.lf (n,[]))) (.lf (n,[])); .br (v==1) (.br (decide (n.E0>=1)) (.br (decide (n.E0<=128)) (.lv (Q27 m n.Frame) λ(x0:Bool)=> .br x0 (.an (Qht m (wrap i64 n.Frame)) (.lv (Qj7 m (wrap i64 n.Frame)) λ(x1:List UInt8×Bool)=> .cn (decide ((0:Int)<=(0:Int)/\0<=n.E0/\n.E0<=(x1.1.length:Int))) (.lf (n,[{B6:=2,At:=at0,C0:=0,C8:=List.take (Int.toNat n.E0-Int.toNat 0) (List.drop (Int.toNat 0) x1.1)}])))) T1) T1) T1) T1))))
def Qj8(n:Q0r)(m:(List Int))(port:Int)(v:Int)(at0:Int):(Q0r×(List Q04)):=(Qau n m port v at0).m
abbrev Qj5(n:Q0r)(m:(List Int))(port:Int)(v:Int)(at0:Int):Prop:=(Qau n m port v at0).p
def Z9v:Q0d:=mkP 267 [] true [.agg Q0r.sig, .one (.ints .u32), .one (.int .i64), .one (.int .u32), .one (.int .u64)] [] (λargs rows=>Qj5 (Q0r.of (aC args 0)) (argL .u32 args 1) (argI args 2) (argI args 3) (argI args 4)) (λargs rows=>Qj8 (Q0r.of (aC args 0)) (argL .u32 args 1) (argI args 2) (argI args 3) (argI args 4)) (λX=> .tup [.agg (Q0r.cells (X.1)), .sl 4 (.recs .apiOutput (X.2)) true]) (λX=>[])
theorem Qre:Q06 pG Z9v:=Q0p drawn Q0k (.cons Qgf (.cons Qyp (.nil))) Tryz.func267 Tryz.call267 (λargs rows=>Qau (Q0r.of (aC args 0)) (argL .u32 args 1) (argI args 2) (argI args 3) (argI args 4)) [.sl (.recs .apiOutput) true] [] 2
def Qjh(b:Q09)(m:(List Int))(port:Int)(v:Int)(z:(Int)×(List Int)):Nat:=(32-z.1).toNat
def Q4y(b:Q09)(m:(List Int))(port:Int)(v:Int):Tree (Q09×(List Int)):=
let T1:Tree ((Q09×(List Int))):= .br (port==11) (.br (decide (v<32)) (.cn (decide (0<=v)) (.lf ({D0:=b.D0,C2:=Qhk u32 b.C2 (ishl u32 1 v)},m))) (.lf (b,m))) (.lf (b,m)); .br (port==10) (.lv (Q27 m v) λ(x0:Bool)=> .br x0 (.cn (decide (0<=v)) (.br (iand u32 (ishr u32 b.C2 v) (1:Int)==(0:Int)) (.cn (decide (0<=v)) (.lp inferInstance (Qjh b m port v (0,m)+1) ((True/\rE (v:Int)/\rZ/\rZ/\rE (0:Int)/\True)/\rE (m:List Int)/\(rE b.D0/\rE ((ior u32 b.C2 (ishl u32 1 v)):Int)/\True)/\(rE (0:Int)/\rE (0:Int)/\True)/\True) (0,m) λ(v0:Int×List Int)=> .br (decide (v0.1<32)) (let E2:=wrap i64 (wrap i64 v*32)+v0.1; .cn (Nat.beq 1 1&&Nat.blt 0 1&&decide (0<=wrap i64 E2/\wrap i64 E2<(v0.2.length:Int))) (.nx ((True/\rE (v:Int)/\rZ/\rZ/\rE ((wrap i64 (v0.1+1)):Int)/\True)/\rE ((List.set v0.2 (Int.toNat (wrap i64 (wrap i64 (wrap i64 v*32)+v0.1))) 0):List Int)/\(rE b.D0/\rE ((ior u32 b.C2 (ishl u32 1 v)):Int)/\True)/\(rE (0:Int)/\rE (0:Int)/\True)/\True) (Sum.inl (wrap i64 (v0.1+1),List.set v0.2 (Int.toNat (wrap i64 E2)) 0)))) (.lf (Sum.inr ({D0:=b.D0,C2:=ior u32 b.C2 (ishl u32 1 v)},v0.2))))) T1)) T1) T1
def Q6v(b:Q09)(m:(List Int))(port:Int)(v:Int):(Q09×(List Int)):=(Q4y b m port v).m
abbrev Qmg(b:Q09)(m:(List Int))(port:Int)(v:Int):Prop:=(Q4y b m port v).p
def Zey:LInv:={
 α:=(Int)×(List Int)
 F:=λst a=>([(1, .all 0),(3,(lk st 3)),(4, .ptr 1 0 0),(8, .ptr 2 0 0),(9, .int i64 a.1)],[⟨false,25,1, .ints u32 a.2⟩,⟨true,40,2, .gen [[(cT st 4 0),(cT st 4 1)]]⟩,⟨true,40,2, .gen [[(cT st 8 0),(cT st 8 1)]]⟩])
 a0:=λst=>((lk st 9).toInt,(Q5d st.rows 0))
 ex0:=λst=>[0]++[(rX st 4 1),(rX st 8 2)]}
def Z79:List (Nat×LInv):=[(4,Zey)]
def Zin:Q0d:=mkP 268 [false,true,false,false] true [.agg Q09.sig, .one (.row 0), .one (.int .i64), .one (.int .u32)] [.arr 25 1 (.ints .u32)] (λargs rows=>Qmg (Q09.of (aC args 0)) (rowL .u32 rows 0) (argI args 2) (argI args 3)) (λargs rows=>Q6v (Q09.of (aC args 0)) (rowL .u32 rows 0) (argI args 2) (argI args 3)) (λX=> .agg (Q09.cells (X.1))) (λX=>[⟨false,25,1, .ints .u32 (X.2)⟩])
theorem Qyq:Q06 pG Zin:=Q0p drawn Q0k (.cons Qgf (.nil)) Tryz.func268 Tryz.call268 (λargs rows=>Q4y (Q09.of (aC args 0)) (rowL .u32 rows 0) (argI args 2) (argI args 3)) [] Z79 3
def Qes(m:Q00)(port:Int)(v:Int):Tree ((List Q04)×Q00):=
.br (port==0) (.lf ([{B6:=1,At:=m.A1,C0:=0,C8:=[(λ(n:Int)=>UInt8.ofNat n.toNat) (wrap u8 v)]}],m)) (.br (decide (port<=2)) (.lf ([],m)) (.br (port==3) (.lv (Qtd v) λ(x0:Q0i)=> .lf ([],{B2:=m.B2,Mem:=m.Mem,A4:=m.A4,B0:=x0,B1:=m.B1,C4:=m.C4,A2:=m.A2,A1:=m.A1,A7:=m.A7,A9:=m.A9})) (.br (decide (port<=6)) (.an (Qh7 m.B1 m.Mem port v m.A1) (.lv (Qge m.B1 m.Mem port v m.A1) λ(x1:Q0f×List Q04)=> .lf (x1.2,{B2:=m.B2,Mem:=m.Mem,A4:=m.A4,B0:=m.B0,B1:=x1.1,C4:=m.C4,A2:=m.A2,A1:=m.A1,A7:=m.A7,A9:=m.A9}))) (.br (decide (port<=9)) (.an (Qj5 m.C4 m.Mem port v m.A1) (.lv (Qj8 m.C4 m.Mem port v m.A1) λ(x2:Q0r×List Q04)=> .lf (x2.2,{B2:=m.B2,Mem:=m.Mem,A4:=m.A4,B0:=m.B0,B1:=m.B1,C4:=x2.1,A2:=m.A2,A1:=m.A1,A7:=m.A7,A9:=m.A9}))) (.an (Qmg m.A2 m.Mem port v) (.lv (Q6v m.A2 m.Mem port v) λ(x3:Q09×List Int)=> .lf ([],{B2:=m.B2,Mem:=x3.2,A4:=m.A4,B0:=m.B0,B1:=m.B1,C4:=m.C4,A2:=x3.1,A1:=m.A1,A7:=m.A7,A9:=m.A9})))))))
def Qar(m:Q00)(port:Int)(v:Int):((List Q04)×Q00):=(Qes m port v).m
abbrev Qzl(m:Q00)(port:Int)(v:Int):Prop:=(Qes m port v).p
def Zon:Q0d:=mkP 220 [true,false,false] true [.ptr 0, .one (.int .i64), .one (.int .u32)] [.box 43 49 (Q00.sigW (.row 1)), .arr 25 1 (.ints .u32)] (λargs rows=>Qzl (Q00.ofW (rows.getD 0 default).cs (rowL .u32 rows 1)) (argI args 1) (argI args 2)) (λargs rows=>Qar (Q00.ofW (rows.getD 0 default).cs (rowL .u32 rows 1)) (argI args 1) (argI args 2)) (λX=> .sl 4 (.recs .apiOutput (X.1)) true) (λX=>[⟨true,43,49, .gen [(Q00.cellsW (X.2) (.all 1))]⟩,⟨false,25,1, .ints .u32 (X.2).Mem⟩])
theorem Zk1:Q06 pG Zon:=Q0p drawn Q0k (.cons Z5d (.cons Qpa (.cons Qre (.cons Qyq (.nil))))) Tryz.func220 Tryz.call220 (λargs rows=>Qes (Q00.ofW (rows.getD 0 default).cs (rowL .u32 rows 1)) (argI args 1) (argI args 2)) [.sl (.recs .apiOutput) true, .row 25 1 (.ints .u32)] [] 2
def Q91(m:Q00)(clock:Int):Tree ((List Q04)×Q00):=
.an (Q7i m) (.lv (Q0n m) λ(x0:Q05)=> .an (Qry x0 m.Mem) (.lv (Q7u x0 m.Mem) λ(x1:Q05×Q16×List Int)=>let E1:=({B2:=x1.1,Mem:=x1.2.2,A4:=m.A4,B0:=m.B0,B1:=m.B1,C4:=m.C4,A2:=m.A2,A1:=m.A1,A7:=false,A9:=m.A9}:Q00); .br (x1.2.1.B6==1) (.lv (Qe2 E1 x1.2.1.D1 clock) λ(x2:Int×Q00)=> .an (Q32 x2.2.B2 x1.2.1.D9 x2.1) (.lv (Q1y x2.2.B2 x1.2.1.D9 x2.1) λ(x3:Q05)=> .lf ([],{B2:=x3,Mem:=x2.2.Mem,A4:=x2.2.A4,B0:=x2.2.B0,B1:=x2.2.B1,C4:=x2.2.C4,A2:=x2.2.A2,A1:=wrap u64 (x2.2.A1+1),A7:=x2.2.A7,A9:=x2.2.A9}))) (.br (x1.2.1.B6==2) (.an (Qzl E1 x1.2.1.D1 x1.2.1.Value) (.lv (Qar E1 x1.2.1.D1 x1.2.1.Value) λ(x4:List Q04×Q00)=> .lf (x4.1,{B2:=x4.2.B2,Mem:=x4.2.Mem,A4:=x4.2.A4,B0:=x4.2.B0,B1:=x4.2.B1,C4:=x4.2.C4,A2:=x4.2.A2,A1:=wrap u64 (x4.2.A1+1),A7:=x4.2.A7,A9:=x4.2.A9}))) (.br (x1.2.1.B6==3) (.lf ([],{B2:=x1.1,Mem:=x1.2.2,A4:=m.A4,B0:=m.B0,B1:=m.B1,C4:=m.C4,A2:=m.A2,A1:=wrap u64 (m.A1+1),A7:=true,A9:=m.A9})) (.br (x1.2.1.B6==4) (.lf ([],{B2:=x1.1,Mem:=x1.2.2,A4:=m.A4,B0:=m.B0,B1:=m.B1,C4:=m.C4,A2:=m.A2,A1:=wrap u64 (m.A1+1),A7:=false,A9:=true})) (.lf ([],{B2:=x1.1,Mem:=x1.2.2,A4:=m.A4,B0:=m.B0,B1:=m.B1,C4:=m.C4,A2:=m.A2,A1:=wrap u64 (m.A1+1),A7:=false,A9:=m.A9})))))))
def Q0o(m:Q00)(clock:Int):((List Q04)×Q00):=(Q91 m clock).m
abbrev Qnp(m:Q00)(clock:Int):Prop:=(Q91 m clock).p
def Z5k:Q0d:=mkP 160 [true,false] true [.ptr 0, .one (.int .u32)] [.box 43 49 (Q00.sigW (.row 1)), .arr 25 1 (.ints .u32)] (λargs rows=>Qnp (Q00.ofW (rows.getD 0 default).cs (rowL .u32 rows 1)) (argI args 1)) (λargs rows=>Q0o (Q00.ofW (rows.getD 0 default).cs (rowL .u32 rows 1)) (argI args 1)) (λX=> .sl 4 (.recs .apiOutput (X.1)) true) (λX=>[⟨true,43,49, .gen [(Q00.cellsW (X.2) (.all 1))]⟩,⟨false,25,1, .ints .u32 (X.2).Mem⟩])
theorem Z39:Q06 pG Z5k:=Q0p drawn Q0k (.cons Qcq (.cons Z8y (.cons Zod (.cons Qeq (.cons Zk1 (.nil)))))) Tryz.func160 Tryz.call160 (λargs rows=>Q91 (Q00.ofW (rows.getD 0 default).cs (rowL .u32 rows 1)) (argI args 1)) [.sl (.recs .apiOutput) true, .row 25 1 (.ints .u32)] [] 2
end
noncomputable section
instance sumInhZg {α β:Type} [Inhabited β]:Inhabited (α⊕β):=⟨.inr default⟩
def Qir(m:Q01)(port:Int)(clock:Int):Tree (Int×Q01):=
.br (decide (port<=1)) (.lv (Q5l m.A0.A4 port) λ(x0:Q0c×Int)=> .lf (x0.2,{A0:={B2:=m.A0.B2,Mem:=m.A0.Mem,A4:=x0.1,B0:=m.A0.B0,B1:=m.A0.B1,C4:=m.A0.C4,A2:=m.A0.A2,A1:=m.A0.A1,A7:=m.A0.A7,A9:=m.A0.A9},A3:=m.A3,B4:=m.B4,A6:=m.A6})) (.br (port==2) (.lf (clock,m)) (.br (port==3) (.lv (Qg m.A0.B0) λ(x1:Int)=> .lf (x1,m)) (.br (decide (port<=6)) (.lv (Qjq m.A0.B1 port) λ(x2:Int)=> .lf (x2,m)) (.br (decide (port<=9)) (.lv (Qi4 m.A0.C4 port) λ(x3:Int)=> .lf (x3,m)) (.lv (Q5o m.A0.A2 port) λ(x4:Int)=> .lf (x4,m))))))
def Quq(m:Q01)(port:Int)(clock:Int):(Int×Q01):=(Qir m port clock).m
def Zkj:Q0d:=mkR 218 [true,false,false] true [.ptr 0, .one (.int .i64), .one (.int .u32)] [.box 96 52 (Q01.sigW (.row 1) (.row 2) (.row 3)), .arr 25 1 (.ints .u32), .arr 126 4 (.recs .apiEntry), .arr 66 3 (.recs .apiEvent)] (λargs rows=>Quq (Q01.ofW (rows.getD 0 default).cs (rowL .u32 rows 1) (rowR .apiEntry rows 2) (rowR .apiEvent rows 3)) (argI args 1) (argI args 2)) (λX=> .int .u32 (X.1)) (λX=>[⟨true,96,52, .gen [(Q01.cellsW (X.2) (.all 1) (.all 2) (.all 3))]⟩,⟨false,25,1, .ints .u32 (X.2).A0.Mem⟩,⟨false,126,4, .recs .apiEntry (X.2).B4⟩,⟨false,66,3, .recs .apiEvent (X.2).A6⟩])
theorem Ze8:Q06 pG Zkj:=Q11 drawn Q0k (.cons Qle (.cons Qp4 (.cons Qrj (.cons Qu (.cons Qlc (.nil)))))) Tryz.func218 Tryz.call218 (λargs rows=>Qir (Q01.ofW (rows.getD 0 default).cs (rowL .u32 rows 1) (rowR .apiEntry rows 2) (rowR .apiEvent rows 3)) (argI args 1) (argI args 2)) [.row 25 1 (.ints .u32), .row 126 4 (.recs .apiEntry), .row 66 3 (.recs .apiEvent)] [] 2
def Qd6(m:Q01)(port:Int)(v:Int):Tree ((List Q04)×Q01):=
.br (port==0) (.lf ([{B6:=1,At:=m.A0.A1,C0:=0,C8:=[(λ(n:Int)=>UInt8.ofNat n.toNat) (wrap u8 v)]}],m)) (.br (decide (port<=2)) (.lf ([],m)) (.br (port==3) (.lv (Qtd v) λ(x0:Q0i)=> .lf ([],{A0:={B2:=m.A0.B2,Mem:=m.A0.Mem,A4:=m.A0.A4,B0:=x0,B1:=m.A0.B1,C4:=m.A0.C4,A2:=m.A0.A2,A1:=m.A0.A1,A7:=m.A0.A7,A9:=m.A0.A9},A3:=m.A3,B4:=m.B4,A6:=m.A6})) (.br (decide (port<=6)) (.an (Qh7 m.A0.B1 m.A0.Mem port v m.A0.A1) (.lv (Qge m.A0.B1 m.A0.Mem port v m.A0.A1) λ(x1:Q0f×List Q04)=> .lf (x1.2,{A0:={B2:=m.A0.B2,Mem:=m.A0.Mem,A4:=m.A0.A4,B0:=m.A0.B0,B1:=x1.1,C4:=m.A0.C4,A2:=m.A0.A2,A1:=m.A0.A1,A7:=m.A0.A7,A9:=m.A0.A9},A3:=m.A3,B4:=m.B4,A6:=m.A6}))) (.br (decide (port<=9)) (.an (Qj5 m.A0.C4 m.A0.Mem port v m.A0.A1) (.lv (Qj8 m.A0.C4 m.A0.Mem port v m.A0.A1) λ(x2:Q0r×List Q04)=> .lf (x2.2,{A0:={B2:=m.A0.B2,Mem:=m.A0.Mem,A4:=m.A0.A4,B0:=m.A0.B0,B1:=m.A0.B1,C4:=x2.1,A2:=m.A0.A2,A1:=m.A0.A1,A7:=m.A0.A7,A9:=m.A0.A9},A3:=m.A3,B4:=m.B4,A6:=m.A6}))) (.an (Qmg m.A0.A2 m.A0.Mem port v) (.lv (Q6v m.A0.A2 m.A0.Mem port v) λ(x3:Q09×List Int)=> .lf ([],{A0:={B2:=m.A0.B2,Mem:=x3.2,A4:=m.A0.A4,B0:=m.A0.B0,B1:=m.A0.B1,C4:=m.A0.C4,A2:=x3.1,A1:=m.A0.A1,A7:=m.A0.A7,A9:=m.A0.A9},A3:=m.A3,B4:=m.B4,A6:=m.A6})))))))
def Qqm(m:Q01)(port:Int)(v:Int):((List Q04)×Q01):=(Qd6 m port v).m
abbrev Qrs(m:Q01)(port:Int)(v:Int):Prop:=(Qd6 m port v).p
def Zhy:Q0d:=mkP 220 [true,false,false] true [.ptr 0, .one (.int .i64), .one (.int .u32)] [.box 96 52 (Q01.sigW (.row 1) (.row 2) (.row 3)), .arr 25 1 (.ints .u32), .arr 126 4 (.recs .apiEntry), .arr 66 3 (.recs .apiEvent)] (λargs rows=>Qrs (Q01.ofW (rows.getD 0 default).cs (rowL .u32 rows 1) (rowR .apiEntry rows 2) (rowR .apiEvent rows 3)) (argI args 1) (argI args 2)) (λargs rows=>Qqm (Q01.ofW (rows.getD 0 default).cs (rowL .u32 rows 1) (rowR .apiEntry rows 2) (rowR .apiEvent rows 3)) (argI args 1) (argI args 2)) (λX=> .sl 4 (.recs .apiOutput (X.1)) true) (λX=>[⟨true,96,52, .gen [(Q01.cellsW (X.2) (.all 1) (.all 2) (.all 3))]⟩,⟨false,25,1, .ints .u32 (X.2).A0.Mem⟩,⟨false,126,4, .recs .apiEntry (X.2).B4⟩,⟨false,66,3, .recs .apiEvent (X.2).A6⟩])
theorem Zao:Q06 pG Zhy:=Q0p drawn Q0k (.cons Z5d (.cons Qpa (.cons Qre (.cons Qyq (.nil))))) Tryz.func220 Tryz.call220 (λargs rows=>Qd6 (Q01.ofW (rows.getD 0 default).cs (rowL .u32 rows 1) (rowR .apiEntry rows 2) (rowR .apiEvent rows 3)) (argI args 1) (argI args 2)) [.sl (.recs .apiOutput) true, .row 25 1 (.ints .u32), .row 126 4 (.recs .apiEntry), .row 66 3 (.recs .apiEvent)] [] 2
def Q6a(m:Q01)(clock:Int):Tree ((List Q04)×Q01):=
.an (Q7i m.A0) (.lv (Q0n m.A0) λ(x0:Q05)=> .an (Qry x0 m.A0.Mem) (.lv (Q7u x0 m.A0.Mem) λ(x1:Q05×Q16×List Int)=>let E1:=({B2:=x1.1,Mem:=x1.2.2,A4:=m.A0.A4,B0:=m.A0.B0,B1:=m.A0.B1,C4:=m.A0.C4,A2:=m.A0.A2,A1:=m.A0.A1,A7:=false,A9:=m.A0.A9}:Q00); .br (x1.2.1.B6==1) (.lv (Quq {A0:=E1,A3:=m.A3,B4:=m.B4,A6:=m.A6} x1.2.1.D1 clock) λ(x2:Int×Q01)=> .an (Q32 x2.2.A0.B2 x1.2.1.D9 x2.1) (.lv (Q1y x2.2.A0.B2 x1.2.1.D9 x2.1) λ(x3:Q05)=> .lf ([],{A0:={B2:=x3,Mem:=x2.2.A0.Mem,A4:=x2.2.A0.A4,B0:=x2.2.A0.B0,B1:=x2.2.A0.B1,C4:=x2.2.A0.C4,A2:=x2.2.A0.A2,A1:=wrap u64 (x2.2.A0.A1+1),A7:=x2.2.A0.A7,A9:=x2.2.A0.A9},A3:=x2.2.A3,B4:=x2.2.B4,A6:=x2.2.A6}))) (.br (x1.2.1.B6==2) (.an (Qrs {A0:=E1,A3:=m.A3,B4:=m.B4,A6:=m.A6} x1.2.1.D1 x1.2.1.Value) (.lv (Qqm {A0:=E1,A3:=m.A3,B4:=m.B4,A6:=m.A6} x1.2.1.D1 x1.2.1.Value) λ(x4:List Q04×Q01)=> .lf (x4.1,{A0:={B2:=x4.2.A0.B2,Mem:=x4.2.A0.Mem,A4:=x4.2.A0.A4,B0:=x4.2.A0.B0,B1:=x4.2.A0.B1,C4:=x4.2.A0.C4,A2:=x4.2.A0.A2,A1:=wrap u64 (x4.2.A0.A1+1),A7:=x4.2.A0.A7,A9:=x4.2.A0.A9},A3:=x4.2.A3,B4:=x4.2.B4,A6:=x4.2.A6}))) (.br (x1.2.1.B6==3) (.lf ([],{A0:={B2:=x1.1,Mem:=x1.2.2,A4:=m.A0.A4,B0:=m.A0.B0,B1:=m.A0.B1,C4:=m.A0.C4,A2:=m.A0.A2,A1:=wrap u64 (m.A0.A1+1),A7:=true,A9:=m.A0.A9},A3:=m.A3,B4:=m.B4,A6:=m.A6})) (.br (x1.2.1.B6==4) (.lf ([],{A0:={B2:=x1.1,Mem:=x1.2.2,A4:=m.A0.A4,B0:=m.A0.B0,B1:=m.A0.B1,C4:=m.A0.C4,A2:=m.A0.A2,A1:=wrap u64 (m.A0.A1+1),A7:=false,A9:=true},A3:=m.A3,B4:=m.B4,A6:=m.A6})) (.lf ([],{A0:={B2:=x1.1,Mem:=x1.2.2,A4:=m.A0.A4,B0:=m.A0.B0,B1:=m.A0.B1,C4:=m.A0.C4,A2:=m.A0.A2,A1:=wrap u64 (m.A0.A1+1),A7:=false,A9:=m.A0.A9},A3:=m.A3,B4:=m.B4,A6:=m.A6})))))))
def Q7a(m:Q01)(clock:Int):((List Q04)×Q01):=(Q6a m clock).m
abbrev Q6k(m:Q01)(clock:Int):Prop:=(Q6a m clock).p
def Z0u:Q0d:=mkP 160 [true,false] true [.ptr 0, .one (.int .u32)] [.box 96 52 (Q01.sigW (.row 1) (.row 2) (.row 3)), .arr 25 1 (.ints .u32), .arr 126 4 (.recs .apiEntry), .arr 66 3 (.recs .apiEvent)] (λargs rows=>Q6k (Q01.ofW (rows.getD 0 default).cs (rowL .u32 rows 1) (rowR .apiEntry rows 2) (rowR .apiEvent rows 3)) (argI args 1)) (λargs rows=>Q7a (Q01.ofW (rows.getD 0 default).cs (rowL .u32 rows 1) (rowR .apiEntry rows 2) (rowR .apiEvent rows 3)) (argI args 1)) (λX=> .sl 4 (.recs .apiOutput (X.1)) true) (λX=>[⟨true,96,52, .gen [(Q01.cellsW (X.2) (.all 1) (.all 2) (.all 3))]⟩,⟨false,25,1, .ints .u32 (X.2).A0.Mem⟩,⟨false,126,4, .recs .apiEntry (X.2).B4⟩,⟨false,66,3, .recs .apiEvent (X.2).A6⟩])
theorem Qxh:Q06 pG Z0u:=Q0p drawn Q0k (.cons Qcq (.cons Z8y (.cons Ze8 (.cons Qeq (.cons Zao (.nil)))))) Tryz.func160 Tryz.call160 (λargs rows=>Q6a (Q01.ofW (rows.getD 0 default).cs (rowL .u32 rows 1) (rowR .apiEntry rows 2) (rowR .apiEvent rows 3)) (argI args 1)) [.sl (.recs .apiOutput) true, .row 25 1 (.ints .u32), .row 126 4 (.recs .apiEntry), .row 66 3 (.recs .apiEvent)] [] 2
def Qce(r:Q01)(steps:Int)(clock:Int)(z:(Int)×Q01):Nat:=(z.2.A6.length-z.1).toNat
def Q63(r:Q01)(steps:Int)(clock:Int)(v0:Int×Q01)(z:(Int)×Q01×(List Q04)):Nat:=(4000-z.1).toNat
def Q60(r:Q01)(steps:Int)(clock:Int):Tree (Q01×(List Q04)):=
.an (Qmp r) (.lv (Qoj r) λ(x0:Q01)=> .lv (Q6u x0.A0) λ(x1:Bool)=> .br (!x1) (.lf (x0,[])) (.lp inferInstance (Qce r steps clock (0,{A0:=x0.A0,A3:=if clock>x0.A3 then clock else x0.A3,B4:=x0.B4,A6:=x0.A6})+1) ((rE (steps:Int)/\rZ/\rZ/\rE (0:Int)/\True)/\(mE x0.A0 True (rE ((if clock>x0.A3 then clock else x0.A3):Int)/\True/\True/\True))/\rE x0.A0.Mem/\rE x0.B4/\rE x0.A6/\(mE zM True (rE (0:Int)/\True/\True/\True))/\True) (0,{A0:=x0.A0,A3:=if clock>x0.A3 then clock else x0.A3,B4:=x0.B4,A6:=x0.A6}) λ(v0:Int×Q01)=> .br (decide (v0.1<(v0.2.A6.length:Int))) (.cn (Nat.beq 3 3&&Nat.blt 0 3&&decide (0<=v0.1/\v0.1<(v0.2.A6.length:Int))) (let E2:=v0.2.A6.getD v0.1.toNat (RK.dflt RK.apiEvent); .an (Qix v0.2 E2) (.lv (Qib v0.2 E2) λ(x2:Q01)=> .nx ((rE (steps:Int)/\rZ/\rZ/\rE ((wrap i64 (v0.1+1)):Int)/\True)/\(mE x2.A0 True (rE x2.A3/\True/\True/\True))/\rE x2.A0.Mem/\rE x2.B4/\rE x2.A6/\(mE zM True (rE (0:Int)/\True/\True/\True))/\True) (Sum.inl (wrap i64 (v0.1+1),x2))))) (.lp inferInstance (Q63 r steps clock v0 (0,{A0:=v0.2.A0,A3:=v0.2.A3,B4:=v0.2.B4,A6:=[]},[])+1) ((rE (steps:Int)/\rZ/\rZ/\True/\rE (0:Int)/\True)/\(mE v0.2.A0 True (rE v0.2.A3/\True/\True/\True))/\rE v0.2.A0.Mem/\rE v0.2.B4/\rE ([]:List (RK.T RK.apiEvent))/\(mE zM True (rE (0:Int)/\True/\True/\True))/\rE ([]:List (RK.T RK.apiOutput))/\True) (0,{A0:=v0.2.A0,A3:=v0.2.A3,B4:=v0.2.B4,A6:=[]},[]) λ(v1:Int×Q01×List Q04)=> .lv (Q0m steps) λ(x3:Int)=> .br (decide (v1.1<x3)) (.lv (Q8i v1.2.1.A0.B0 v1.2.1.A3) λ(x4:Bool)=> .br x4 (.an (Qix v1.2.1 {B6:=2,N:=0,C8:=[]}) (.lv (Qib v1.2.1 {B6:=2,N:=0,C8:=[]}) λ(x5:Q01)=> .an (Qfo x5.A0) (.lv (Q0v x5.A0) λ(x6:Bool)=> .br x6 (.lf (Sum.inr (Sum.inr (x5,v1.2.2)))) (.an (Qcp x5.A0) (.lv (Q0h x5.A0) λ(x7:Bool)=> .br x7 (.cn (decide (40*(x5.B4.length+1)<=140737488355328)) (let E3:=({At:=x5.A0.A1,C5:={B6:=1,N:=x5.A3,C8:=[]}}:Q0g); .an (Q6k {A0:=x5.A0,A3:=x5.A3,B4:=x5.B4++[E3],A6:=x5.A6} x5.A3) (.lv (Q7a {A0:=x5.A0,A3:=x5.A3,B4:=x5.B4++[E3],A6:=x5.A6} x5.A3) λ(x8:List Q04×Q01)=> .cn (decide (40*(v1.2.2.length+x8.1.length)<=140737488355328)) (.nx ((rE (steps:Int)/\rZ/\rZ/\True/\rE ((wrap i64 (v1.1+1)):Int)/\True)/\(mE x8.2.A0 True (rE ((wrap u32 (x8.2.A3+1)):Int)/\True/\True/\True))/\rE x8.2.A0.Mem/\rE x8.2.B4/\rE x8.2.A6/\(mE zM True (rE (0:Int)/\True/\True/\True))/\rE ((v1.2.2++x8.1):List (RK.T RK.apiOutput))/\True) (Sum.inl (wrap i64 (v1.1+1),{A0:=x8.2.A0,A3:=wrap u32 (x8.2.A3+1),B4:=x8.2.B4,A6:=x8.2.A6},v1.2.2++x8.1)))))) (.an (Q6k x5 x5.A3) (.lv (Q7a x5 x5.A3) λ(x9:List Q04×Q01)=> .cn (decide (40*(v1.2.2.length+x9.1.length)<=140737488355328)) (.nx ((rE (steps:Int)/\rZ/\rZ/\True/\rE ((wrap i64 (v1.1+1)):Int)/\True)/\(mE x9.2.A0 True (rE ((wrap u32 (x9.2.A3+1)):Int)/\True/\True/\True))/\rE x9.2.A0.Mem/\rE x9.2.B4/\rE x9.2.A6/\(mE zM True (rE (0:Int)/\True/\True/\True))/\rE ((v1.2.2++x9.1):List (RK.T RK.apiOutput))/\True) (Sum.inl (wrap i64 (v1.1+1),{A0:=x9.2.A0,A3:=wrap u32 (x9.2.A3+1),B4:=x9.2.B4,A6:=x9.2.A6},v1.2.2++x9.1)))))))))) (.an (Qfo v1.2.1.A0) (.lv (Q0v v1.2.1.A0) λ(x10:Bool)=> .br x10 (.lf (Sum.inr (Sum.inr (v1.2.1,v1.2.2)))) (.an (Qcp v1.2.1.A0) (.lv (Q0h v1.2.1.A0) λ(x11:Bool)=> .br x11 (.cn (decide (40*(v1.2.1.B4.length+1)<=140737488355328)) (let E1:=({At:=v1.2.1.A0.A1,C5:={B6:=1,N:=v1.2.1.A3,C8:=[]}}:Q0g); .an (Q6k {A0:=v1.2.1.A0,A3:=v1.2.1.A3,B4:=v1.2.1.B4++[E1],A6:=v1.2.1.A6} v1.2.1.A3) (.lv (Q7a {A0:=v1.2.1.A0,A3:=v1.2.1.A3,B4:=v1.2.1.B4++[E1],A6:=v1.2.1.A6} v1.2.1.A3) λ(x12:List Q04×Q01)=> .cn (decide (40*(v1.2.2.length+x12.1.length)<=140737488355328)) (.nx ((rE (steps:Int)/\rZ/\rZ/\True/\rE ((wrap i64 (v1.1+1)):Int)/\True)/\(mE x12.2.A0 True (rE ((wrap u32 (x12.2.A3+1)):Int)/\True/\True/\True))/\rE x12.2.A0.Mem/\rE x12.2.B4/\rE x12.2.A6/\(mE zM True (rE (0:Int)/\True/\True/\True))/\rE ((v1.2.2++x12.1):List (RK.T RK.apiOutput))/\True) (Sum.inl (wrap i64 (v1.1+1),{A0:=x12.2.A0,A3:=wrap u32 (x12.2.A3+1),B4:=x12.2.B4,A6:=x12.2.A6},v1.2.2++x12.1)))))) (.an (Q6k v1.2.1 v1.2.1.A3) (.lv (Q7a v1.2.1 v1.2.1.A3) λ(x13:List Q04×Q01)=> .cn (decide (40*(v1.2.2.length+x13.1.length)<=140737488355328)) (.nx ((rE (steps:Int)/\rZ/\rZ/\True/\rE ((wrap i64 (v1.1+1)):Int)/\True)/\(mE x13.2.A0 True (rE ((wrap u32 (x13.2.A3+1)):Int)/\True/\True/\True))/\rE x13.2.A0.Mem/\rE x13.2.B4/\rE x13.2.A6/\(mE zM True (rE (0:Int)/\True/\True/\True))/\rE ((v1.2.2++x13.1):List (RK.T RK.apiOutput))/\True) (Sum.inl (wrap i64 (v1.1+1),{A0:=x13.2.A0,A3:=wrap u32 (x13.2.A3+1),B4:=x13.2.B4,A6:=x13.2.A6},v1.2.2++x13.1)))))))))) (.lf (Sum.inr (Sum.inr (v1.2.1,v1.2.2)))))))
def Qee(r:Q01)(steps:Int)(clock:Int):(Q01×(List Q04)):=(Q60 r steps clock).m
abbrev Ql5(r:Q01)(steps:Int)(clock:Int):Prop:=(Q60 r steps clock).p
def Qzo:LInv:={
 α:=(Int)×Q01
 F:=λst a=>([(1,(lk st 1)),(3, .ptr 0 0 0),(6, .ptr 4 0 0),(8, .int i64 a.1)],[⟨true,96,52, .gen [[.int u32 a.2.A0.B2.X.a0, .int u32 a.2.A0.B2.X.a1, .int u32 a.2.A0.B2.X.a2, .int u32 a.2.A0.B2.X.a3, .int u32 a.2.A0.B2.X.a4, .int u32 a.2.A0.B2.X.a5, .int u32 a.2.A0.B2.X.a6, .int u32 a.2.A0.B2.X.a7, .int u32 a.2.A0.B2.X.a8, .int u32 a.2.A0.B2.X.a9, .int u32 a.2.A0.B2.X.a10, .int u32 a.2.A0.B2.X.a11, .int u32 a.2.A0.B2.X.a12, .int u32 a.2.A0.B2.X.a13, .int u32 a.2.A0.B2.X.a14, .int u32 a.2.A0.B2.X.a15, .int u32 a.2.A0.B2.Pc, .int u32 a.2.A0.B2.B5.a0, .int u32 a.2.A0.B2.B5.a1, .int u32 a.2.A0.B2.B5.a2, .int u32 a.2.A0.B2.B5.a3, .int u32 a.2.A0.B2.B5.a4, .int u32 a.2.A0.B2.B5.a5, .int u32 a.2.A0.B2.B5.a6, .int u32 a.2.A0.B2.B5.a7, .all 1, .str a.2.A0.A4.D3, .bool a.2.A0.B0.D2, .int u32 a.2.A0.B0.C9, .bool a.2.A0.B0.D5, .int u32 a.2.A0.B1.Blocks, .int u32 a.2.A0.B1.C0, .int u32 a.2.A0.B1.Frame, .int i64 a.2.A0.B1.C1, .int i64 a.2.A0.B1.D8, .int u32 a.2.A0.B1.B7, .int u32 a.2.A0.B1.B3, .str a.2.A0.B1.C3, .int u32 a.2.A0.C4.Frame, .int u32 a.2.A0.C4.E0, .bool a.2.A0.C4.C6, .int u32 a.2.A0.C4.B9, .bool a.2.A0.C4.B8, .int u32 a.2.A0.C4.F1, .int u32 a.2.A0.A2.D0, .int u32 a.2.A0.A2.C2, .int u64 a.2.A0.A1, .bool a.2.A0.A7, .bool a.2.A0.A9, .int u32 a.2.A3, .all 2, .all 3]]⟩,⟨false,25,1, .ints u32 a.2.A0.Mem⟩,⟨false,126,4, .recs RK.apiEntry a.2.B4⟩,⟨false,66,3, .recs RK.apiEvent a.2.A6⟩,⟨true,96,52, .gen [[(cT st 6 0),(cT st 6 1),(cT st 6 2),(cT st 6 3),(cT st 6 4),(cT st 6 5),(cT st 6 6),(cT st 6 7),(cT st 6 8),(cT st 6 9),(cT st 6 10),(cT st 6 11),(cT st 6 12),(cT st 6 13),(cT st 6 14),(cT st 6 15),(cT st 6 16),(cT st 6 17),(cT st 6 18),(cT st 6 19),(cT st 6 20),(cT st 6 21),(cT st 6 22),(cT st 6 23),(cT st 6 24),(cT st 6 25),(cT st 6 26),(cT st 6 27),(cT st 6 28),(cT st 6 29),(cT st 6 30),(cT st 6 31),(cT st 6 32),(cT st 6 33),(cT st 6 34),(cT st 6 35),(cT st 6 36),(cT st 6 37),(cT st 6 38),(cT st 6 39),(cT st 6 40),(cT st 6 41),(cT st 6 42),(cT st 6 43),(cT st 6 44),(cT st 6 45),(cT st 6 46),(cT st 6 47),(cT st 6 48),(cT st 6 49),(cT st 6 50),(cT st 6 51)]]⟩])
 a0:=λst=>((lk st 8).toInt,(⟨(mR (cT st 3) (Q5d st.rows (Q0t (cT st 3 25) 1000000))),(cT st 3 49).toInt,(Q5n RK.apiEntry st.rows (Q0t (cT st 3 50) 1000000)),(Q5n RK.apiEvent st.rows (Q0t (cT st 3 51) 1000000))⟩:Q01))
 ex0:=λst=>[]++[(rX st 3 0),(Q0t (cT st 3 25) (st.rows.length+1)),(Q0t (cT st 3 50) (st.rows.length+2)),(Q0t (cT st 3 51) (st.rows.length+3)),(rX st 6 4)]}
def Z0d:LInv:={
 α:=(Int)×Q01×(List Q04)
 F:=λst a=>([(1,(lk st 1)),(3, .ptr 0 0 0),(6, .ptr 4 0 0),(9, .all 5),(10, .int i64 a.1)],[⟨true,96,52, .gen [[.int u32 a.2.1.A0.B2.X.a0, .int u32 a.2.1.A0.B2.X.a1, .int u32 a.2.1.A0.B2.X.a2, .int u32 a.2.1.A0.B2.X.a3, .int u32 a.2.1.A0.B2.X.a4, .int u32 a.2.1.A0.B2.X.a5, .int u32 a.2.1.A0.B2.X.a6, .int u32 a.2.1.A0.B2.X.a7, .int u32 a.2.1.A0.B2.X.a8, .int u32 a.2.1.A0.B2.X.a9, .int u32 a.2.1.A0.B2.X.a10, .int u32 a.2.1.A0.B2.X.a11, .int u32 a.2.1.A0.B2.X.a12, .int u32 a.2.1.A0.B2.X.a13, .int u32 a.2.1.A0.B2.X.a14, .int u32 a.2.1.A0.B2.X.a15, .int u32 a.2.1.A0.B2.Pc, .int u32 a.2.1.A0.B2.B5.a0, .int u32 a.2.1.A0.B2.B5.a1, .int u32 a.2.1.A0.B2.B5.a2, .int u32 a.2.1.A0.B2.B5.a3, .int u32 a.2.1.A0.B2.B5.a4, .int u32 a.2.1.A0.B2.B5.a5, .int u32 a.2.1.A0.B2.B5.a6, .int u32 a.2.1.A0.B2.B5.a7, .all 1, .str a.2.1.A0.A4.D3, .bool a.2.1.A0.B0.D2, .int u32 a.2.1.A0.B0.C9, .bool a.2.1.A0.B0.D5, .int u32 a.2.1.A0.B1.Blocks, .int u32 a.2.1.A0.B1.C0, .int u32 a.2.1.A0.B1.Frame, .int i64 a.2.1.A0.B1.C1, .int i64 a.2.1.A0.B1.D8, .int u32 a.2.1.A0.B1.B7, .int u32 a.2.1.A0.B1.B3, .str a.2.1.A0.B1.C3, .int u32 a.2.1.A0.C4.Frame, .int u32 a.2.1.A0.C4.E0, .bool a.2.1.A0.C4.C6, .int u32 a.2.1.A0.C4.B9, .bool a.2.1.A0.C4.B8, .int u32 a.2.1.A0.C4.F1, .int u32 a.2.1.A0.A2.D0, .int u32 a.2.1.A0.A2.C2, .int u64 a.2.1.A0.A1, .bool a.2.1.A0.A7, .bool a.2.1.A0.A9, .int u32 a.2.1.A3, .all 2, .all 3]]⟩,⟨false,25,1, .ints u32 a.2.1.A0.Mem⟩,⟨false,126,4, .recs RK.apiEntry a.2.1.B4⟩,⟨false,66,3, .recs RK.apiEvent a.2.1.A6⟩,⟨true,96,52, .gen [[(cT st 6 0),(cT st 6 1),(cT st 6 2),(cT st 6 3),(cT st 6 4),(cT st 6 5),(cT st 6 6),(cT st 6 7),(cT st 6 8),(cT st 6 9),(cT st 6 10),(cT st 6 11),(cT st 6 12),(cT st 6 13),(cT st 6 14),(cT st 6 15),(cT st 6 16),(cT st 6 17),(cT st 6 18),(cT st 6 19),(cT st 6 20),(cT st 6 21),(cT st 6 22),(cT st 6 23),(cT st 6 24),(cT st 6 25),(cT st 6 26),(cT st 6 27),(cT st 6 28),(cT st 6 29),(cT st 6 30),(cT st 6 31),(cT st 6 32),(cT st 6 33),(cT st 6 34),(cT st 6 35),(cT st 6 36),(cT st 6 37),(cT st 6 38),(cT st 6 39),(cT st 6 40),(cT st 6 41),(cT st 6 42),(cT st 6 43),(cT st 6 44),(cT st 6 45),(cT st 6 46),(cT st 6 47),(cT st 6 48),(cT st 6 49),(cT st 6 50),(cT st 6 51)]]⟩,⟨false,71,4, .recs RK.apiOutput a.2.2⟩])
 a0:=λst=>((lk st 10).toInt,(⟨(mR (cT st 3) (Q5d st.rows (Q0t (cT st 3 25) 1000000))),(cT st 3 49).toInt,(Q5n RK.apiEntry st.rows (Q0t (cT st 3 50) 1000000)),(Q5n RK.apiEvent st.rows (Q0t (cT st 3 51) 1000000))⟩:Q01),(Q5n RK.apiOutput st.rows (rN st 9)))
 ex0:=λst=>[]++[(rX st 3 0),(Q0t (cT st 3 25) (st.rows.length+1)),(Q0t (cT st 3 50) (st.rows.length+2)),(Q0t (cT st 3 51) (st.rows.length+3)),(rX st 6 4),(rX st 9 5)]}
def Qv0:List (Nat×LInv):=[(6,Qzo),(12,Z0d)]
def Z5a:Q0d:=mkP 147 [] true [.agg Q01.sig, .one (.int .i64), .one (.int .u32)] [] (λargs rows=>Ql5 (Q01.of (aC args 0)) (argI args 1) (argI args 2)) (λargs rows=>Qee (Q01.of (aC args 0)) (argI args 1) (argI args 2)) (λX=> .tup [.agg (Q01.cellsW (X.1) (.all 0) (.all 1) (.all 2)), .all 3]) (λX=>[⟨false,25,1, .ints .u32 (X.1).A0.Mem⟩,⟨false,126,4, .recs .apiEntry (X.1).B4⟩,⟨false,66,3, .recs .apiEvent (X.1).A6⟩,⟨false,71,4, .recs .apiOutput (X.2)⟩])
theorem Qzx:Q06 pG Z5a:=Q0p drawn Q0k (.cons Qzj (.cons Qsa (.cons Z65 (.cons Z0h (.cons Zjk (.cons Qu7 (.cons Qt7 (.cons Qxh (.nil))))))))) Tryz.func147 Tryz.call147 (λargs rows=>Q60 (Q01.of (aC args 0)) (argI args 1) (argI args 2)) [.row 25 1 (.ints .u32), .row 126 4 (.recs .apiEntry), .row 66 3 (.recs .apiEvent), .row 71 4 (.recs .apiOutput)] Qv0 3

import Derived.Test.YtmalmklaonainaaGreatReplayLiveYz
open Nat renaming blt->bT, beq->bS, lt_succ_self->cK
open List renaming length->dH, replicate->cN, take->cY, drop->cZ, set->dD, getD->aK
open Int renaming toNat->dC, tdiv->eR, tmod->dB
open UInt8 renaming ofNat->eU, toNat->eT
set_option maxRecDepth 100000
set_option linter.all false
namespace Go.Proofs.YtmalmklaonainaaGreat
open Go Go.GD Go.IntKind
noncomputable section
def Qfl(m:List Int):Tree (List Int):=
.cn (bT (0:Nat) (1:Nat)&&bS (1:Nat) (1:Nat)&&List.all [D.int u32 (0:Int)] D.plain&&decide ((0:Int)<=(m.length:Int)/\(m.length:Int)<=(m.length:Int)/\(m.length:Int)<=(9223372036854775807:Int)/\(↑(4:Nat):Int)*(m.length:Int)<=(140737488355328:Int))) (let E1:=dH (cN (dC (m.length:Int)) (0:Int)); .lf (cY (Min.min (m.length) E1) m++cZ (Min.min (m.length) E1) (cN (dC (m.length:Int)) (0:Int))))
def Qu3 m:=(Qfl m).m
abbrev Qul m:=(Qfl m).p
def Zkw:Q0d:=mT 122 [] true [.one (.ints .u32)] [] (λa r=>Qfl (argL .u32 a 0)) (λX=> .all 0) (λX=>[⟨false,25,1, .ints .u32 X⟩])
theorem Zgc:Q06 pG Zkw:=oT (.nil) Tryz.func122 Tryz.call122 [.row 25 1 (.ints .u32)] [] 2
def Qdi(m:Q00):Tree Q00:=
.an (Qul m.Mem) (.lv (Qu3 m.Mem) λ(x0:List Int)=> .lf ({B2:=m.B2,Mem:=x0,A6:=m.A6,B0:=m.B0,B1:=m.B1,C5:=m.C5,A4:=m.A4,A1:=m.A1,A7:=m.A7,A9:=m.A9}))
def Qnn m:=(Qdi m).m
abbrev Qh3 m:=(Qdi m).p
def Zp2:Q0d:=mT 34 [] true [.agg Q00.sig] [] (λa r=>Qdi (Q00.of (aC a 0))) (λX=> .agg (Q00.cellsW X (.all 0))) (λX=>[⟨false,25,1, .ints .u32 X.Mem⟩])
theorem Qtz:Q06 pG Zp2:=oT (.cons Zgc (.nil)) Tryz.func34 Tryz.call34 [.row 25 1 (.ints .u32)] [] 2
def Qsr(n k:Int)(z:(Int)×(List Int)):Prop:=0<=z.1/\(z.2.length:Int)=z.1/\(z.1<=k\/z.1=0)
def Qec(n k:Int)(z:(Int)×(List Int)):Nat:=(k-z.1).toNat
def Qfs(n k:Int):Tree (List UInt8):=
.lp inferInstance (Qec n k (0,[])+1) ((rE (n:Int)/\rE (k:Int)/\True/\rE (0:Int)/\True)/\rE ([]:List Int)/\True) (0,[]) λ(v0:Int×List Int)=> .br (decide (v0.1<k)) (.lv (Q3n n (wrap i64 (eR v0.1 9))) λ(x0:Int)=> .cn (decide (1*(v0.2.length+1)<=140737488355328)) (.nx ((rE (n:Int)/\rE (k:Int)/\True/\rE ((wrap i64 (v0.1+1)):Int)/\True)/\rE ((v0.2++[wrap u8 x0]):List Int)/\True) (Sum.inl (wrap i64 (v0.1+1),v0.2++[wrap u8 x0])))) (.lf (Sum.inr (bytesOf v0.2)))
def Qwk n k:=(Qfs n k).m
def Qaw(n k:Int):Prop:=
k<=1000000000000
theorem Zbe(n k:Int)(hw:Qaw n k):(Qfs n k).p:=by
 simp only[Qaw]at hw
 unfold Tree.p Qfs
 repeat'(first|refine w_lp (inv:=Qsr n k) (μ:=Qec n k) ?_ (cK _) (λ_ _=> ?_)|exact trivial|refine w_br (λ_=> ?_) (λ_=> ?_)|refine w_cn ?_ ?_|refine w_an ?_ ?_|refine w_lv (λ_ _=> ?_)|refine w_nx ?_|refine w_lf ?_|refine And.intro ?_ ?_)
 all_goals((try simp only[Qsr,Qec]at*);exact fin0)
def Zgf:LInv:={
 α:=(Int)×(List Int)
 F:=λst a=>([(0,(lk st 0)),(1,(lk st 1)),(5, .all 0),(6, .int i64 a.1)],[⟨false,5,1, .ints u8 a.2⟩])
 a0:=λst=>((lk st 6).toInt,(Q5t st.rows (rN st 5)))
 ex0:=λst=>[]++[(rX st 5 0)]}
def Z8a:List (Nat×LInv):=[(3,Zgf)]
def Zlv:Q0d:=mkP 84 [] true [.one (.int .i64), .one (.int .i64)] [] (λa r=>Qaw (argI a 0) (argI a 1)) (λa r=>Qwk (argI a 0) (argI a 1)) (λX=> .str X) (λX=>[])
theorem Zf1:Q06 pG Zlv:=Q0p drawn Q0l (.cons Qnm (.nil)) Tryz.func84 Tryz.call84 (λa r=>Qfs (argI a 0) (argI a 1)) [] Z8a 3 (hp:=λa r h=>Zbe (argI a 0) (argI a 1) h)
def Qfy(r:Q01):Tree Q01:=
.an (Qh3 r.A0) (.lv (Qnn r.A0) λ(x0:Q00)=> .cn (decide (40*(0+r.B3.length)<=140737488355328)) (.cn (decide (32*(0+r.A2.length)<=140737488355328)) (.lf ({A0:=x0,A3:=r.A3,B3:=r.B3,A2:=r.A2}))))
def Qpj r:=(Qfy r).m
abbrev Qo5 r:=(Qfy r).p
def Zlx:Q0d:=mT 212 [] true [.agg Q01.sig] [] (λa r=>Qfy (Q01.of (aC a 0))) (λX=> .agg (Q01.cellsW X (.all 0) (.all 1) (.all 2))) (λX=>[⟨false,25,1, .ints .u32 X.A0.Mem⟩,⟨false,126,4, .recs .apiEntry X.B3⟩,⟨false,66,3, .recs .apiEvent X.A2⟩])
theorem Z0f:Q06 pG Zlx:=oT (.cons Qtz (.nil)) Tryz.func212 Tryz.call212 [.row 25 1 (.ints .u32), .row 126 4 (.recs .apiEntry), .row 66 3 (.recs .apiEvent)] [] 2
def Qo4(e:Q07):Tree Bool:=
.br (e.B5==1) (.lf (decide (e.C8=[]))) (.br (e.B5==6) (.lf (decide (e.C8=[]))) (.br (e.B5==2) (.br (e.N==0) (.lf (decide (e.C8=[]))) (.lf false)) (.br (e.B5==3) (.br (decide (e.N<=255)) (.lf (decide (e.C8=[]))) (.lf false)) (.br (e.B5==4) (.br (decide (e.N<=1)) (.br (decide (e.C8=[])) (.lf true) (.br (e.N==1) (.lf ((e.C8.length:Int)==(128:Int))) (.lf false))) (.lf false)) (.br (e.B5==5) (.br (e.N==0) (.br (decide ((e.C8.length:Int)>=(1:Int))) (.lf (decide ((e.C8.length:Int)<=(128:Int)))) (.lf false)) (.lf false)) (.lf false))))))
def Q2 e:=(Qo4 e).m
def Zdm:Q0d:=mS 154 [] true [.agg Q07.sig] [] (λa r=>Qo4 (Q07.of (aC a 0))) (λX=> .bool X) (λX=>[])
theorem Z7:Q06 pG Zdm:=oS (.nil) Tryz.func154 Tryz.call154 [] [] 2
def Q9(r:Q01)(e:Q07):Tree (Q01×Bool):=
.an (Qo5 r) (.lv (Qpj r) λ(x0:Q01)=> .lv (Q2 e) λ(x1:Bool)=> .br (!x1) (.lf (x0,false)) (.br (e.B5==1) (.lf (x0,false)) (.br (decide ((x0.A2.length:Int)>=(16:Int))) (.lf (x0,false)) (.cn (decide (32*(x0.A2.length+1)<=140737488355328)) (.lf ({A0:=x0.A0,A3:=x0.A3,B3:=x0.B3,A2:=x0.A2++[e]},true))))))
def Q2c r e:=(Q9 r e).m
abbrev Qoe r e:=(Q9 r e).p
def Z6r:Q0d:=mT 146 [] true [.agg Q01.sig, .agg Q07.sig] [] (λa r=>Q9 (Q01.of (aC a 0)) (Q07.of (aC a 1))) (λX=> .tup [.agg (Q01.cellsW (X.1) (.all 0) (.all 1) (.all 2)), .bool (X.2)]) (λX=>[⟨false,25,1, .ints .u32 (X.1).A0.Mem⟩,⟨false,126,4, .recs .apiEntry (X.1).B3⟩,⟨false,66,3, .recs .apiEvent (X.1).A2⟩])
theorem Z4m:Q06 pG Z6r:=oT (.cons Z0f (.cons Z7 (.nil))) Tryz.func146 Tryz.call146 [.row 25 1 (.ints .u32), .row 126 4 (.recs .apiEntry), .row 66 3 (.recs .apiEvent)] [] 2
def Q9p(n:Int):Tree Q07:=
.lv (Q3n n 2) λ(x0:Int)=> .br (dB x0 (7:Int)==(0:Int)) (.lf ({B5:=2,N:=0,C8:=[]})) (.br (dB x0 (7:Int)==(1:Int)) (.lf ({B5:=3,N:=wrap u32 (iand i64 (ishr i64 x0 8) 255),C8:=[]})) (.br (dB x0 (7:Int)==(2:Int)) (.lf ({B5:=3,N:=wrap u32 (iand i64 (ishr i64 x0 8) 255),C8:=[]})) (.br (dB x0 (7:Int)==(3:Int)) (.lf ({B5:=4,N:=1,C8:=[]})) (.br (dB x0 (7:Int)==(4:Int)) (.an (Qaw x0 128) (.lv (Qwk x0 128) λ(x1:List UInt8)=> .lf ({B5:=4,N:=1,C8:=x1}))) (.br (dB x0 (7:Int)==(5:Int)) (let E1:=wrap i64 (1+dB (ishr i64 x0 8) 40); .an (Qaw x0 E1) (.lv (Qwk x0 E1) λ(x2:List UInt8)=> .lf ({B5:=5,N:=0,C8:=x2}))) (.br (dB (ishr i64 x0 8) (4:Int)==(0:Int)) (.lf ({B5:=4,N:=0,C8:=[]})) (.lf ({B5:=6,N:=wrap u32 (dB (ishr i64 x0 8) 3),C8:=[]}))))))))
def Q46 n:=(Q9p n).m
abbrev Qlm n:=(Q9p n).p
def Zjm:Q0d:=mT 76 [] true [.one (.int .i64)] [] (λa r=>Q9p (argI a 0)) (λX=> .agg (Q07.cells X)) (λX=>[])
theorem Qwd:Q06 pG Zjm:=oT (.cons Qnm (.cons Zf1 (.nil))) Tryz.func76 Tryz.call76 [] [] 2
def Qp4(m:List Int):Tree Int:=
.br (dB (m.length:Int) (32:Int) !=(0:Int)) (.lf 0) (.br (decide ((m.length:Int)>(1024:Int))) (.lf 0) (.lf (wrap i64 (eR (m.length:Int) 32))))
def Q40 m:=(Qp4 m).m
def Zen:Q0d:=mS 93 [] true [.one (.ints .u32)] [] (λa r=>Qp4 (argL .u32 a 0)) (λX=> .int .i64 X) (λX=>[])
theorem Qe6:Q06 pG Zen:=oS (.nil) Tryz.func93 Tryz.call93 [] [] 2
def Qmw(c:Q0c):Tree Bool:=
.lf (decide ((c.D3.length:Int)<=(16:Int)))
def Qj6 c:=(Qmw c).m
def Qye:Q0d:=mS 94 [] true [.agg Q0c.sig] [] (λa r=>Qmw (Q0c.of (aC a 0))) (λX=> .bool X) (λX=>[])
theorem Qu7:Q06 pG Qye:=oS (.nil) Tryz.func94 Tryz.call94 [] [] 2
def Qkk(t:Q0j):Tree Bool:=
.br t.D2 (.br t.D5 (.lf false) (.br t.D2 (.lf (t.C9 !=0)) (.br t.D5 (.lf true) (.lf (t.C9==0))))) (.br t.D2 (.lf (t.C9 !=0)) (.br t.D5 (.lf true) (.lf (t.C9==0))))
def Qe3 t:=(Qkk t).m
def Z6q:Q0d:=mS 95 [] true [.agg Q0j.sig] [] (λa r=>Qkk (Q0j.of (aC a 0))) (λX=> .bool X) (λX=>[])
theorem Z1r:Q06 pG Z6q:=oS (.nil) Tryz.func95 Tryz.call95 [] [] 2
def Qlj(d0:Q0g)(pages:Int):Tree Bool:=
.br (decide (d0.Blocks>64)) (.lf false) (.br (decide (d0.C1<0)) (.lf false) (.br (decide (d0.C1>3)) (.lf false) (.br (d0.C1 !=1) (.br (d0.D8==0) (.br (d0.B7==0) (.br (d0.B4==0) (.lf (decide (d0.C4=[]))) (.lf false)) (.lf false)) (.lf false)) (.br (decide (d0.B7>=d0.Blocks)) (.lf false) (.br (decide (wrap i64 d0.B4>=pages)) (.lf false) (.br (d0.D8==1) (.br (decide (d0.C4=[])) (.lf true) (.br (d0.D8==2) (.lf ((d0.C4.length:Int)==(128:Int))) (.lf false))) (.br (d0.D8==2) (.lf ((d0.C4.length:Int)==(128:Int))) (.lf false))))))))
def Qh0 d0 pages:=(Qlj d0 pages).m
def Z70:Q0d:=mS 96 [] true [.agg Q0g.sig, .one (.int .i64)] [] (λa r=>Qlj (Q0g.of (aC a 0)) (argI a 1)) (λX=> .bool X) (λX=>[])
theorem Z48:Q06 pG Z70:=oS (.nil) Tryz.func96 Tryz.call96 [] [] 2
def Qnq(n:Q0r)(pages:Int):Tree Bool:=
let T1:Tree (Bool):= .br n.B8 (.br (decide (n.F1>=1)) (.lf (decide (n.F1<=128))) (.lf false)) (.lf (n.F1==0)); .br n.C6 (.br n.B8 (.lf false) (.br (decide (wrap i64 n.B9>=pages)) (.lf false) (.br (!n.C6) (.br (n.B9 !=0) (.lf false) T1) T1))) (.br (!n.C6) (.br (n.B9 !=0) (.lf false) T1) T1)
def Qjg n pages:=(Qnq n pages).m
def Zcx:Q0d:=mS 97 [] true [.agg Q0r.sig, .one (.int .i64)] [] (λa r=>Qnq (Q0r.of (aC a 0)) (argI a 1)) (λX=> .bool X) (λX=>[])
theorem Z7z:Q06 pG Zcx:=oS (.nil) Tryz.func97 Tryz.call97 [] [] 2
def Qhx(b:Q08)(pages:Int)(z:(Int)):Prop:=0<=z/\z<=32
def Q7c(b:Q08)(pages:Int)(z:(Int)):Nat:=(32-z).toNat
def Q5v(b:Q08)(pages:Int):Tree Bool:=
.lp inferInstance (Q7c b pages 0+1) ((rE (pages:Int)/\rZ/\rE (0:Int)/\True)/\(rE b.D0/\rE b.C3/\True)/\True) 0 λ(v0:Int)=> .br (decide (v0<32)) (.cn (decide (0<=wrap u64 v0)) (let T1:Tree ((Int)⊕(Bool)):= .nx ((rE (pages:Int)/\rZ/\rE ((wrap i64 (v0+1)):Int)/\True)/\(rE b.D0/\rE b.C3/\True)/\True) (Sum.inl (wrap i64 (v0+1))); .br (iand u32 (ishr u32 b.C3 (wrap u64 v0)) (1:Int)==(1:Int)) (.br (decide (v0>=pages)) (.lf (Sum.inr false)) T1) T1)) (.lf (Sum.inr true))
def Qa0 b pages:=(Q5v b pages).m
theorem Qsv(b:Q08)(pages:Int):(Q5v b pages).p:=by
 unfold Tree.p Q5v
 repeat'(first|refine w_lp (inv:=Qhx b pages) (μ:=Q7c b pages) ?_ (cK _) (λ_ _=> ?_)|exact trivial|refine w_br (λ_=> ?_) (λ_=> ?_)|refine w_cn ?_ ?_|refine w_an ?_ ?_|refine w_lv (λ_ _=> ?_)|refine w_nx ?_|refine w_lf ?_|refine And.intro ?_ ?_)
 all_goals((try simp only[Qhx,Q7c]at*);exact fin0)
def Qwj:LInv:={
 α:=(Int)
 F:=λst a=>([(1,(lk st 1)),(2, .ptr 0 0 0),(5, .int i64 a)],[⟨true,40,2, .gen [[(cT st 2 0),(cT st 2 1)]]⟩])
 a0:=λst=>(lk st 5).toInt
 ex0:=λst=>[]++[(rX st 2 0)]}
def Qrr:List (Nat×LInv):=[(2,Qwj)]
def Qyw:Q0d:=mS 98 [] true [.agg Q08.sig, .one (.int .i64)] [] (λa r=>Q5v (Q08.of (aC a 0)) (argI a 1)) (λX=> .bool X) (λX=>[])
theorem Qwe:Q06 pG Qyw:=oS (.nil) Tryz.func98 Tryz.call98 [] Qrr 3 (λ_ _ _=>by kernel_rfl) (λa r=>Qsv (Q08.of (aC a 0)) (argI a 1)) (λ_ X=>by kernel_rfl)
def Qza(m:Q00):Tree Bool:=
.lv (Q40 m.Mem) λ(x0:Int)=> .br (decide (x0<1)) (.lf false) (.br (m.B2.X.a0 !=0) (.lf false) (.br (decide (m.B2.B6.a0>31)) (.lf false) (.br (decide (m.B2.B6.a7>31)) (.lf false) (.br (decide (m.B2.B6.a6>255)) (.lf false) (.br (dB m.B2.B6.a1 (4:Int) !=(0:Int)) (.lf false) (.lv (Qj6 m.A6) λ(x1:Bool)=> .br (!x1) (.lf false) (.lv (Qe3 m.B0) λ(x2:Bool)=> .br (!x2) (.lf false) (.lv (Qh0 m.B1 x0) λ(x3:Bool)=> .br (!x3) (.lf false) (.lv (Qjg m.C5 x0) λ(x4:Bool)=> .br (!x4) (.lf false) (.lv (Qa0 m.A4 x0) λ(x5:Bool)=> .br (!x5) (.lf false) (.br (decide (m.A1<=1152921504606846976)) (.br m.A7 (.lf (!m.A9)) (.lf true)) (.lf false))))))))))))
def Q5e m:=(Qza m).m
def Zr5:Q0d:=mS 25 [] true [.agg Q00.sig] [] (λa r=>Qza (Q00.of (aC a 0))) (λX=> .bool X) (λX=>[])
theorem Qtp:Q06 pG Zr5:=oS (.cons Qe6 (.cons Qu7 (.cons Z1r (.cons Z48 (.cons Z7z (.cons Qwe (.nil))))))) Tryz.func25 Tryz.call25 [] [] 2
def Qab(t:Q0j):Tree (Q0j×Bool):=
.br (!t.D2) (.lf (t,false)) (.lf ({D2:=false,C9:=t.C9,D5:=true},true))
def Q6u t:=(Qab t).m
def Zmn:Q0d:=mS 221 [] true [.agg Q0j.sig] [] (λa r=>Qab (Q0j.of (aC a 0))) (λX=> .tup [.agg (Q0j.cells (X.1)), .bool (X.2)]) (λX=>[])
theorem Qzk:Q06 pG Zmn:=oS (.nil) Tryz.func221 Tryz.call221 [] [] 2
def Qcv(c:Q0c)(b:Int):Tree (Q0c×Bool):=
.br (decide ((c.D3.length:Int)>=(16:Int))) (.lf (c,false)) (.cn (decide (c.D3.length+1<=maxLen)) (.lf ({D3:=c.D3++[(λ(n:Int)=>eU n.toNat) b]},true)))
def Qmz c b:=(Qcv c b).m
abbrev Qnc c b:=(Qcv c b).p
def Zki:Q0d:=mT 222 [] true [.agg Q0c.sig, .one (.int .u8)] [] (λa r=>Qcv (Q0c.of (aC a 0)) (argI a 1)) (λX=> .tup [.agg (Q0c.cells (X.1)), .bool (X.2)]) (λX=>[])
theorem Qzp:Q06 pG Zki:=oT (.nil) Tryz.func222 Tryz.call222 [] [] 2
def Qkm(m:List Int)(frame:Int):Tree Bool:=
.lv (Q40 m) λ(x0:Int)=> .lf (decide (wrap u64 frame<wrap u64 x0))
def Q2a m frame:=(Qkm m frame).m
def Zkm:Q0d:=mS 269 [] true [.one (.ints .u32), .one (.int .u32)] [] (λa r=>Qkm (argL .u32 a 0) (argI a 1)) (λX=> .bool X) (λX=>[])
theorem Qgt:Q06 pG Zkm:=oS (.cons Qe6 (.nil)) Tryz.func269 Tryz.call269 [] [] 2
def Qfe(m:List Int)(addr size v:Int):Tree (List Int):=
let E1:=bS 1 1&&bT 0 1&&decide (0<=wrap u32 (eR addr 4)/\wrap u32 (eR addr 4)<(m.length:Int));let E2:=dC (wrap u32 (eR addr 4)); .br (size==4) (.cn E1 (.lf (dD m E2 v))) (.cn E1 (let E3:=decide (0<=wrap u32 (8*dB addr 4)); .cn E3 (.cn E3 (.cn E1 (.lf (dD m E2 (ior u32 (Qie u32 (m.getD E2 0) (ishl u32 255 (wrap u32 (8*dB addr 4)))) (ishl u32 (iand u32 v 255) (wrap u32 (8*dB addr 4))))))))))
def Qap m addr size v:=(Qfe m addr size v).m
abbrev Qgj m addr size v:=(Qfe m addr size v).p
def Zox:Q0d:=mT 300 [true,false,false,false] true [.one (.row 0), .one (.int .u32), .one (.int .i64), .one (.int .u32)] [.arr 25 1 (.ints .u32)] (λa r=>Qfe (rowL .u32 r 0) (argI a 1) (argI a 2) (argI a 3)) (λX=> .tup []) (λX=>[⟨false,25,1, .ints .u32 X⟩])
theorem Z55:Q06 pG Zox:=oT (.nil) Tryz.func300 Tryz.call300 [] [] 2
def Qji(m:List Int)(frame:Int)(s:List UInt8)(z:(Int)×(List Int)):Nat:=(128-z.1).toNat
def Qa2(m:List Int)(frame:Int)(s:List UInt8):Tree (List Int):=
.lp inferInstance (Qji m frame s (0,m)+1) ((True/\rE (frame:Int)/\rE (s:List UInt8)/\rE (0:Int)/\True)/\rE (m:List Int)/\True) (0,m) λ(v0:Int×List Int)=> .br (decide (v0.1<(s.length:Int))) (.br (decide (v0.1<128)) (.cn (decide (0<=v0.1/\v0.1<(s.length:Int))) (let E1:=wrap u32 (↑(eT (s.getD v0.1.toNat (0:UInt8))):Int);let E2:=wrap u32 (wrap i64 (wrap i64 (frame*128)+v0.1)); .an (Qgj v0.2 E2 1 E1) (.lv (Qap v0.2 E2 1 E1) λ(x0:List Int)=> .nx ((True/\rE (frame:Int)/\rE (s:List UInt8)/\rE ((wrap i64 (v0.1+1)):Int)/\True)/\rE (x0:List Int)/\True) (Sum.inl (wrap i64 (v0.1+1),x0))))) (.lf (Sum.inr v0.2))) (.lf (Sum.inr v0.2))
def Qn2 m frame s:=(Qa2 m frame s).m
abbrev Qnk m frame s:=(Qa2 m frame s).p
def Zin:LInv:={
 α:=(Int)×(List Int)
 F:=λst a=>([(0, .all 0),(1,(lk st 1)),(2,(lk st 2)),(6, .int i64 a.1)],[⟨false,25,1, .ints u32 a.2⟩])
 a0:=λst=>((lk st 6).toInt,(Q5t st.rows 0))
 ex0:=λst=>[0]++[]}
def Z76:List (Nat×LInv):=[(1,Zin)]
def Zls:Q0d:=mT 270 [true,false,false] true [.one (.row 0), .one (.int .i64), .one (.str)] [.arr 25 1 (.ints .u32)] (λa r=>Qa2 (rowL .u32 r 0) (argI a 1) (argS a 2)) (λX=> .tup []) (λX=>[⟨false,25,1, .ints .u32 X⟩])
theorem Qzv:Q06 pG Zls:=oT (.cons Z55 (.nil)) Tryz.func270 Tryz.call270 [] Z76 3
def Q7d(d0:Q0g)(m:List Int)(e:Q07):Tree (Q0g×Bool×(List Int)):=
.br (d0.C1 !=1) (.lf (d0,false,m)) (.br (e.B5 !=4) (.lf (d0,false,m)) (.br (decide (e.N>1)) (.lf (d0,false,m)) (let E4:=({Blocks:=d0.Blocks,C2:=d0.C2,Frame:=d0.Frame,C1:=2,D8:=0,B7:=0,B4:=0,C4:=[]}:Q0g);let E5:=({Blocks:=d0.Blocks,C2:=d0.C2,Frame:=d0.Frame,C1:=3,D8:=0,B7:=0,B4:=0,C4:=[]}:Q0g);let T2:Tree ((Q0g×Bool×(List Int))):= .br (e.N==1) (.lf (E4,true,m)) (.lf (E5,true,m));let E6:=decide ((e.C8.length:Int)>(0:Int)); .br (e.N==1) (let T1:Tree ((Q0g×Bool×(List Int))):= .br (d0.D8==1) (.an (Qnk m (wrap i64 d0.B4) e.C8) (.lv (Qn2 m (wrap i64 d0.B4) e.C8) λ(x1:List Int)=> .br (e.N==1) (.lf (E4,true,x1)) (.lf (E5,true,x1)))) T2;let T3:Tree ((Q0g×Bool×(List Int))):= .br (!d0.D8==1) (.br E6 (.lf (d0,false,m)) T1) T1; .br (d0.D8==1) (.br ((e.C8.length:Int) !=(128:Int)) (.lf (d0,false,m)) (.lv (Q2a m d0.B4) λ(x0:Bool)=> .br (!x0) (.lf (d0,false,m)) T3)) T3) (.br E6 (.lf (d0,false,m)) T2))))
def Q8l d0 m e:=(Q7d d0 m e).m
abbrev Qjc d0 m e:=(Q7d d0 m e).p
def Zd3:Q0d:=mT 223 [false,true,false] true [.agg Q0g.sig, .one (.row 0), .agg Q07.sig] [.arr 25 1 (.ints .u32)] (λa r=>Q7d (Q0g.of (aC a 0)) (rowL .u32 r 0) (Q07.of (aC a 2))) (λX=> .tup [.agg (Q0g.cells (X.1)), .bool (X.2.1)]) (λX=>[⟨false,25,1, .ints .u32 (X.2.2)⟩])
theorem Qsp:Q06 pG Zd3:=oT (.cons Qgt (.cons Qzv (.nil))) Tryz.func223 Tryz.call223 [] [] 2
def Q6w(n:Q0r)(m:List Int)(frame:List UInt8):Tree (Q0r×Bool×(List Int)):=
.br (!n.C6) (.lf (n,false,m)) (.br (decide ((frame.length:Int)<(1:Int))) (.lf (n,false,m)) (.br (decide ((frame.length:Int)>(128:Int))) (.lf (n,false,m)) (.lv (Q2a m n.B9) λ(x0:Bool)=> .br (!x0) (.lf (n,false,m)) (.an (Qnk m (wrap i64 n.B9) frame) (.lv (Qn2 m (wrap i64 n.B9) frame) λ(x1:List Int)=> .lf ({Frame:=n.Frame,E0:=n.E0,C6:=false,B9:=0,B8:=true,F1:=wrap u32 (frame.length:Int)},true,x1))))))
def Q8k n m frame:=(Q6w n m frame).m
abbrev Qjf n m frame:=(Q6w n m frame).p
def Zcg:Q0d:=mT 224 [false,true,false] true [.agg Q0r.sig, .one (.row 0), .one (.str)] [.arr 25 1 (.ints .u32)] (λa r=>Q6w (Q0r.of (aC a 0)) (rowL .u32 r 0) (argS a 2)) (λX=> .tup [.agg (Q0r.cells (X.1)), .bool (X.2.1)]) (λX=>[⟨false,25,1, .ints .u32 (X.2.2)⟩])
theorem Qsb:Q06 pG Zcg:=oT (.cons Qgt (.cons Qzv (.nil))) Tryz.func224 Tryz.call224 [] [] 2
def Q4i(m:Q00)(e:Q07):Tree (Bool×Q00):=
.br m.A9 (.lf (false,m)) (let T1:Tree ((Bool×Q00)):= .br (e.B5==4) (.an (Qjc m.B1 m.Mem e) (.lv (Q8l m.B1 m.Mem e) λ(x2:Q0g×Bool×List Int)=> .lf (x2.2.1,{B2:=m.B2,Mem:=x2.2.2,A6:=m.A6,B0:=m.B0,B1:=x2.1,C5:=m.C5,A4:=m.A4,A1:=m.A1,A7:=m.A7,A9:=m.A9}))) (let T3:Tree ((Bool×Q00)):= .br (e.B5==6) (.br (decide (e.C8=[])) (.lf (true,{B2:=m.B2,Mem:=m.Mem,A6:=m.A6,B0:=m.B0,B1:=m.B1,C5:=m.C5,A4:={D0:=e.N,C3:=m.A4.C3},A1:=m.A1,A7:=m.A7,A9:=m.A9})) (.lf (false,m))) (.lf (false,m)); .br (e.B5==5) (.br (e.N==0) (.an (Qjf m.C5 m.Mem e.C8) (.lv (Q8k m.C5 m.Mem e.C8) λ(x3:Q0r×Bool×List Int)=> .lf (x3.2.1,{B2:=m.B2,Mem:=x3.2.2,A6:=m.A6,B0:=m.B0,B1:=m.B1,C5:=x3.1,A4:=m.A4,A1:=m.A1,A7:=m.A7,A9:=m.A9}))) T3) T3);let T2:Tree ((Bool×Q00)):= .br (e.B5==3) (.br (decide (e.N<=255)) (.br (decide (e.C8=[])) (.an (Qnc m.A6 (wrap u8 e.N)) (.lv (Qmz m.A6 (wrap u8 e.N)) λ(x1:Q0c×Bool)=> .lf (x1.2,{B2:=m.B2,Mem:=m.Mem,A6:=x1.1,B0:=m.B0,B1:=m.B1,C5:=m.C5,A4:=m.A4,A1:=m.A1,A7:=m.A7,A9:=m.A9}))) T1) T1) T1; .br (e.B5==2) (.br (e.N==0) (.br (decide (e.C8=[])) (.lv (Q6u m.B0) λ(x0:Q0j×Bool)=> .lf (x0.2,{B2:=m.B2,Mem:=m.Mem,A6:=m.A6,B0:=x0.1,B1:=m.B1,C5:=m.C5,A4:=m.A4,A1:=m.A1,A7:=m.A7,A9:=m.A9})) T2) T2) T2)
def Q0n m e:=(Q4i m e).m
abbrev Qs5 m e:=(Q4i m e).p
def Zge:Q0d:=mT 161 [true,false] true [.ptr 0, .agg Q07.sig] [.box 43 49 (Q00.sigW (.row 1)), .arr 25 1 (.ints .u32)] (λa r=>Q4i (Q00.ofW (r.getD 0 default).cs (rowL .u32 r 1)) (Q07.of (aC a 1))) (λX=> .bool (X.1)) (λX=>[⟨true,43,49, .gen [(Q00.cellsW (X.2) (.all 1))]⟩,⟨false,25,1, .ints .u32 (X.2).Mem⟩])
theorem Zc:Q06 pG Zge:=oT (.cons Qzk (.cons Qzp (.cons Qsp (.cons Qsb (.nil))))) Tryz.func161 Tryz.call161 [.row 25 1 (.ints .u32)] [] 2
def Q92(m:Q01)(e:Q07):Tree (Bool×Q01):=
.br m.A0.A9 (.lf (false,m)) (let T1:Tree ((Bool×Q01)):= .br (e.B5==4) (.an (Qjc m.A0.B1 m.A0.Mem e) (.lv (Q8l m.A0.B1 m.A0.Mem e) λ(x2:Q0g×Bool×List Int)=> .lf (x2.2.1,{A0:={B2:=m.A0.B2,Mem:=x2.2.2,A6:=m.A0.A6,B0:=m.A0.B0,B1:=x2.1,C5:=m.A0.C5,A4:=m.A0.A4,A1:=m.A0.A1,A7:=m.A0.A7,A9:=m.A0.A9},A3:=m.A3,B3:=m.B3,A2:=m.A2}))) (let T3:Tree ((Bool×Q01)):= .br (e.B5==6) (.br (decide (e.C8=[])) (.lf (true,{A0:={B2:=m.A0.B2,Mem:=m.A0.Mem,A6:=m.A0.A6,B0:=m.A0.B0,B1:=m.A0.B1,C5:=m.A0.C5,A4:={D0:=e.N,C3:=m.A0.A4.C3},A1:=m.A0.A1,A7:=m.A0.A7,A9:=m.A0.A9},A3:=m.A3,B3:=m.B3,A2:=m.A2})) (.lf (false,m))) (.lf (false,m)); .br (e.B5==5) (.br (e.N==0) (.an (Qjf m.A0.C5 m.A0.Mem e.C8) (.lv (Q8k m.A0.C5 m.A0.Mem e.C8) λ(x3:Q0r×Bool×List Int)=> .lf (x3.2.1,{A0:={B2:=m.A0.B2,Mem:=x3.2.2,A6:=m.A0.A6,B0:=m.A0.B0,B1:=m.A0.B1,C5:=x3.1,A4:=m.A0.A4,A1:=m.A0.A1,A7:=m.A0.A7,A9:=m.A0.A9},A3:=m.A3,B3:=m.B3,A2:=m.A2}))) T3) T3);let T2:Tree ((Bool×Q01)):= .br (e.B5==3) (.br (decide (e.N<=255)) (.br (decide (e.C8=[])) (.an (Qnc m.A0.A6 (wrap u8 e.N)) (.lv (Qmz m.A0.A6 (wrap u8 e.N)) λ(x1:Q0c×Bool)=> .lf (x1.2,{A0:={B2:=m.A0.B2,Mem:=m.A0.Mem,A6:=x1.1,B0:=m.A0.B0,B1:=m.A0.B1,C5:=m.A0.C5,A4:=m.A0.A4,A1:=m.A0.A1,A7:=m.A0.A7,A9:=m.A0.A9},A3:=m.A3,B3:=m.B3,A2:=m.A2}))) T1) T1) T1; .br (e.B5==2) (.br (e.N==0) (.br (decide (e.C8=[])) (.lv (Q6u m.A0.B0) λ(x0:Q0j×Bool)=> .lf (x0.2,{A0:={B2:=m.A0.B2,Mem:=m.A0.Mem,A6:=m.A0.A6,B0:=x0.1,B1:=m.A0.B1,C5:=m.A0.C5,A4:=m.A0.A4,A1:=m.A0.A1,A7:=m.A0.A7,A9:=m.A0.A9},A3:=m.A3,B3:=m.B3,A2:=m.A2})) T2) T2) T2)
def Qkw m e:=(Q92 m e).m
abbrev Qoq m e:=(Q92 m e).p
def Z78:Q0d:=mT 161 [true,false] true [.ptr 0, .agg Q07.sig] [.box 96 52 (Q01.sigW (.row 1) (.row 2) (.row 3)), .arr 25 1 (.ints .u32), .arr 126 4 (.recs .apiEntry), .arr 66 3 (.recs .apiEvent)] (λa r=>Q92 (Q01.ofW (r.getD 0 default).cs (rowL .u32 r 1) (rowR .apiEntry r 2) (rowR .apiEvent r 3)) (Q07.of (aC a 1))) (λX=> .bool (X.1)) (λX=>[⟨true,96,52, .gen [(Q01.cellsW (X.2) (.all 1) (.all 2) (.all 3))]⟩,⟨false,25,1, .ints .u32 (X.2).A0.Mem⟩,⟨false,126,4, .recs .apiEntry (X.2).B3⟩,⟨false,66,3, .recs .apiEvent (X.2).A2⟩])
theorem Z3s:Q06 pG Z78:=oT (.cons Qzk (.cons Qzp (.cons Qsp (.cons Qsb (.nil))))) Tryz.func161 Tryz.call161 [.row 25 1 (.ints .u32), .row 126 4 (.recs .apiEntry), .row 66 3 (.recs .apiEvent)] [] 2
def Q8(m:Q01)(e:Q07):Tree (Bool×Q01):=
.an (Qoq m e) (.lv (Qkw m e) λ(x0:Bool×Q01)=> .lf (x0.1,x0.2))
def Qi2 m e:=(Q8 m e).m
abbrev Qmx m e:=(Q8 m e).p
def Z49:Q0d:=mT 159 [true,false] true [.ptr 0, .agg Q07.sig] [.box 96 52 (Q01.sigW (.row 1) (.row 2) (.row 3)), .arr 25 1 (.ints .u32), .arr 126 4 (.recs .apiEntry), .arr 66 3 (.recs .apiEvent)] (λa r=>Q8 (Q01.ofW (r.getD 0 default).cs (rowL .u32 r 1) (rowR .apiEntry r 2) (rowR .apiEvent r 3)) (Q07.of (aC a 1))) (λX=> .bool (X.1)) (λX=>[⟨true,96,52, .gen [(Q01.cellsW (X.2) (.all 1) (.all 2) (.all 3))]⟩,⟨false,25,1, .ints .u32 (X.2).A0.Mem⟩,⟨false,126,4, .recs .apiEntry (X.2).B3⟩,⟨false,66,3, .recs .apiEvent (X.2).A2⟩])
theorem Z1p:Q06 pG Z49:=oT (.cons Z3s (.nil)) Tryz.func159 Tryz.call159 [.row 25 1 (.ints .u32), .row 126 4 (.recs .apiEntry), .row 66 3 (.recs .apiEvent)] [] 2
def Qb5(r:Q01)(e:Q07):Tree Q01:=
.an (Qmx r e) (.lv (Qi2 r e) λ(x0:Bool×Q01)=> .br x0.1 (.cn (decide (40*(x0.2.B3.length+1)<=140737488355328)) (.lf ({A0:=x0.2.A0,A3:=x0.2.A3,B3:=x0.2.B3++[{At:=x0.2.A0.A1,C0:=e}],A2:=x0.2.A2}))) (.lf x0.2))
def Qj3 r e:=(Qb5 r e).m
abbrev Qk1 r e:=(Qb5 r e).p
def Zby:Q0d:=mkKP 1 213 [true,false] [.ptr 0, .agg Q07.sig] [.box 96 52 (Q01.sigW (.row 1) (.row 2) (.row 3)), .arr 25 1 (.ints .u32), .arr 126 4 (.recs .apiEntry), .arr 66 3 (.recs .apiEvent)] (λa r=>Qk1 (Q01.ofW (r.getD 0 default).cs (rowL .u32 r 1) (rowR .apiEntry r 2) (rowR .apiEvent r 3)) (Q07.of (aC a 1))) (λa r=>Qj3 (Q01.ofW (r.getD 0 default).cs (rowL .u32 r 1) (rowR .apiEntry r 2) (rowR .apiEvent r 3)) (Q07.of (aC a 1))) (λX=> .tup []) (λX=>[⟨true,96,52, .gen [(Q01.cellsW X (.all 1) (.all 2) (.all 3))]⟩,⟨false,25,1, .ints .u32 X.A0.Mem⟩,⟨false,126,4, .recs .apiEntry X.B3⟩,⟨false,66,3, .recs .apiEvent X.A2⟩])
theorem Z74:Q06 pG Zby:=Z6l drawn Q0l (.cons Z1p (.nil)) Tryz.func213 Tryz.call213 (λa r=>Qb5 (Q01.ofW (r.getD 0 default).cs (rowL .u32 r 1) (rowR .apiEntry r 2) (rowR .apiEvent r 3)) (Q07.of (aC a 1))) [.row 25 1 (.ints .u32), .row 126 4 (.recs .apiEntry), .row 66 3 (.recs .apiEvent)] [] 2 (λ_ _ _=>by kernel_rfl) (λ_ _=>rfl) (λ_ _ h=>h)
def Qkj(is:Bool)(n:Int):Tree Int:=
.br is (.cn (decide (0<=wrap u64 n)) (.lf (ishl u32 1 (wrap u64 n)))) (.lf 0)
def Qa8 is n:=(Qkj is n).m
abbrev Qbb is n:=(Qkj is n).p
def Zjv:Q0d:=mT 104 [] true [.one (.bool), .one (.int .i64)] [] (λa r=>Qkj (argB a 0) (argI a 1)) (λX=> .int .u32 X) (λX=>[])
theorem Zfg:Q06 pG Zjv:=oT (.nil) Tryz.func104 Tryz.call104 [] [] 2
def Qj1(t:Q0j):Tree Bool:=
.lf t.D5
def Qas t:=(Qj1 t).m
def Qsx:Q0d:=mS 105 [] true [.agg Q0j.sig] [] (λa r=>Qj1 (Q0j.of (aC a 0))) (λX=> .bool X) (λX=>[])
theorem Qrs:Q06 pG Qsx:=oS (.nil) Tryz.func105 Tryz.call105 [] [] 2
def Qh1(c:Q0c):Tree Bool:=
.lf (decide ((c.D3.length:Int)>(0:Int)))
def Q6c c:=(Qh1 c).m
def Qpm:Q0d:=mS 106 [] true [.agg Q0c.sig] [] (λa r=>Qh1 (Q0c.of (aC a 0))) (λX=> .bool X) (λX=>[])
theorem Qp2:Q06 pG Qpm:=oS (.nil) Tryz.func106 Tryz.call106 [] [] 2
def Ql9(d0:Q0g):Tree Bool:=
.br (d0.C1==2) (.lf true) (.lf (d0.C1==3))
def Qcl d0:=(Ql9 d0).m
def Qu5:Q0d:=mS 107 [] true [.agg Q0g.sig] [] (λa r=>Ql9 (Q0g.of (aC a 0))) (λX=> .bool X) (λX=>[])
theorem Qtq:Q06 pG Qu5:=oS (.nil) Tryz.func107 Tryz.call107 [] [] 2
def Qmc(n:Q0r):Tree Bool:=
.lf n.B8
def Qe9 n:=(Qmc n).m
def Qxe:Q0d:=mS 108 [] true [.agg Q0r.sig] [] (λa r=>Qmc (Q0r.of (aC a 0))) (λX=> .bool X) (λX=>[])
theorem Qvb:Q06 pG Qxe:=oS (.nil) Tryz.func108 Tryz.call108 [] [] 2
def Qpn(b:Q08)(z:(Int)×(Int)):Prop:=0<=z.2/\z.2<=32
def Qhu(b:Q08)(z:(Int)×(Int)):Nat:=(32-z.2).toNat
def Ql3(b:Q08):Tree Int:=
.lp inferInstance (Qhu b (0,0)+1) ((rZ/\rE (0:Int)/\rE (0:Int)/\True)/\(rE b.D0/\rE b.C3/\True)/\True) (0,0) λ(v0:Int×Int)=> .br (decide (v0.2<32)) (.cn (decide (0<=wrap u64 v0.2)) (.nx ((rZ/\rE ((wrap i64 (v0.1+wrap i64 (iand u32 (ishr u32 b.C3 (wrap u64 v0.2)) 1))):Int)/\rE ((wrap i64 (v0.2+1)):Int)/\True)/\(rE b.D0/\rE b.C3/\True)/\True) (Sum.inl (wrap i64 (v0.1+wrap i64 (iand u32 (ishr u32 b.C3 (wrap u64 v0.2)) 1)),wrap i64 (v0.2+1))))) (.lf (Sum.inr v0.1))
def Qfa b:=(Ql3 b).m
theorem Z79(b:Q08):(Ql3 b).p:=by
 unfold Tree.p Ql3
 repeat'(first|refine w_lp (inv:=Qpn b) (μ:=Qhu b) ?_ (cK _) (λ_ _=> ?_)|exact trivial|refine w_br (λ_=> ?_) (λ_=> ?_)|refine w_cn ?_ ?_|refine w_an ?_ ?_|refine w_lv (λ_ _=> ?_)|refine w_nx ?_|refine w_lf ?_|refine And.intro ?_ ?_)
 all_goals((try simp only[Qpn,Qhu]at*);exact fin0)
def Zbi:LInv:={
 α:=(Int)×(Int)
 F:=λst a=>([(1, .ptr 0 0 0),(3, .int i64 a.1),(4, .int i64 a.2)],[⟨true,40,2, .gen [[(cT st 1 0),(cT st 1 1)]]⟩])
 a0:=λst=>((lk st 3).toInt,(lk st 4).toInt)
 ex0:=λst=>[]++[(rX st 1 0)]}
def Z3x:List (Nat×LInv):=[(3,Zbi)]
def Zis:Q0d:=mS 177 [] true [.agg Q08.sig] [] (λa r=>Ql3 (Q08.of (aC a 0))) (λX=> .int .i64 X) (λX=>[])
theorem Qv2:Q06 pG Zis:=oS (.nil) Tryz.func177 Tryz.call177 [] Z3x 3 (λ_ _ _=>by kernel_rfl) (λa r=>Z79 (Q08.of (aC a 0))) (λ_ X=>by kernel_rfl)
def Qai(b:Q08):Tree Bool:=
.lv (Qfa b) λ(x0:Int)=> .lf (wrap u64 x0 !=wrap u64 b.D0)
def Q43 b:=(Qai b).m
def Qqq:Q0d:=mS 109 [] true [.agg Q08.sig] [] (λa r=>Qai (Q08.of (aC a 0))) (λX=> .bool X) (λX=>[])
theorem Qp:Q06 pG Qqq:=oS (.cons Qv2 (.nil)) Tryz.func109 Tryz.call109 [] [] 2
def Qgh(m:Q00):Tree Int:=
.lv (Qas m.B0) λ(x0:Bool)=> .an (Qbb x0 0) (.lv (Qa8 x0 0) λ(x1:Int)=> .lv (Q6c m.A6) λ(x2:Bool)=> .an (Qbb x2 1) (.lv (Qa8 x2 1) λ(x3:Int)=> .lv (Qcl m.B1) λ(x4:Bool)=> .an (Qbb x4 2) (.lv (Qa8 x4 2) λ(x5:Int)=> .lv (Qe9 m.C5) λ(x6:Bool)=> .an (Qbb x6 3) (.lv (Qa8 x6 3) λ(x7:Int)=> .lv (Q43 m.A4) λ(x8:Bool)=> .an (Qbb x8 4) (.lv (Qa8 x8 4) λ(x9:Int)=> .lf (ior u32 (ior u32 (ior u32 (ior u32 x1 x3) x5) x7) x9))))))
def Qil m:=(Qgh m).m
abbrev Qsq m:=(Qgh m).p
def Zjk:Q0d:=mT 27 [] true [.agg Q00.sig] [] (λa r=>Qgh (Q00.of (aC a 0))) (λX=> .int .u32 X) (λX=>[])
theorem Zdk:Q06 pG Zjk:=oT (.cons Zfg (.cons Qrs (.cons Qp2 (.cons Qtq (.cons Qvb (.cons Qp (.nil))))))) Tryz.func27 Tryz.call27 [] [] 2
def Q95(m:Q00):Tree Int:=
.an (Qsq m) (.lv (Qil m) λ(x0:Int)=> .lf (iand u32 x0 m.B2.B6.a7))
def Q37 m:=(Q95 m).m
abbrev Qhp m:=(Q95 m).p
def Z7b:Q0d:=mT 111 [] true [.agg Q00.sig] [] (λa r=>Q95 (Q00.of (aC a 0))) (λX=> .int .u32 X) (λX=>[])
theorem Qpp:Q06 pG Z7b:=oT (.cons Zdk (.nil)) Tryz.func111 Tryz.call111 [] [] 2
def Qfz(m:Q00):Tree Bool:=
.br m.A7 (.an (Qhp m) (.lv (Q37 m) λ(x0:Int)=> .lf (x0==0))) (.lf false)
def Qed m:=(Qfz m).m
abbrev Qn9 m:=(Qfz m).p
def Zlm:Q0d:=mT 29 [] true [.agg Q00.sig] [] (λa r=>Qfz (Q00.of (aC a 0))) (λX=> .bool X) (λX=>[])
theorem Z02:Q06 pG Zlm:=oT (.cons Qpp (.nil)) Tryz.func29 Tryz.call29 [] [] 2
def Q8b(m:Q00):Tree Bool:=
.lv (Q5e m) λ(x0:Bool)=> .br (!x0) (.lf true) (.br m.A9 (.lf true) (.an (Qn9 m) (.lv (Qed m) λ(x1:Bool)=> .br x1 (.lf true) (.lf (decide (m.A1>=1152921504606846976))))))
def Q0s m:=(Q8b m).m
abbrev Qg3 m:=(Q8b m).p
def Zh8:Q0d:=mT 115 [] true [.agg Q00.sig] [] (λa r=>Q8b (Q00.of (aC a 0))) (λX=> .bool X) (λX=>[])
theorem Qwr:Q06 pG Zh8:=oT (.cons Qtp (.cons Z02 (.nil))) Tryz.func115 Tryz.call115 [] [] 2
end
noncomputable section
def Z8v(b:Bool):Tree Int:=
.br b (.lf 1) (.lf 0)
def Qch b:=(Z8v b).m
def Zp7:Q0d:=mS 281 [] true [.one (.bool)] [] (λa r=>Z8v (argB a 0)) (λX=> .int .u32 X) (λX=>[])
theorem Qtm:Q06 pG Zp7:=oS (.nil) Tryz.func281 Tryz.call281 [] [] 2
def Qkc(c:Q05)(cause bad:Int):Tree Q05:=
.lv (Qch (iand u32 c.B6.a0 (1:Int) !=(0:Int))) λ(x0:Int)=> .lv (Qch (iand u32 c.B6.a0 (2:Int) !=(0:Int))) λ(x1:Int)=> .lf ({X:=c.X,Pc:=c.B6.a1,B6:={a0:=ior u32 (Qie u32 (ior u32 (ior u32 (Qie u32 c.B6.a0 24) (wrap u32 (8*x0))) (wrap u32 (16*x1))) 2) 1,a1:=c.B6.a1,a2:=c.Pc,a3:=wrap u32 cause,a4:=bad,a5:=c.B6.a5,a6:=c.B6.a6,a7:=c.B6.a7}})
def Q3 c cause bad:=(Qkc c cause bad).m
def Zk0:Q0d:=mS 244 [] true [.agg Q05.sig, .one (.int .i64), .one (.int .u32)] [] (λa r=>Qkc (Q05.of (aC a 0)) (argI a 1) (argI a 2)) (λX=> .agg (Q05.cells X)) (λX=>[])
theorem Qlh:Q06 pG Zk0:=oS (.cons Qtm (.nil)) Tryz.func244 Tryz.call244 [] [] 2
def Q8r(m:List Int)(addr size:Int):Tree Bool:=
let T1:Tree (Bool):= .cn (decide (wrap u32 size≠0)) (.br (dB addr (wrap u32 size)==0) (.lv (Q40 m) λ(x0:Int)=> .lf (decide (addr<wrap u32 (wrap i64 (128*x0))))) (.lf false)); .br (size !=1) (.br (size !=4) (.lf false) T1) T1
def Q28 m addr size:=(Q8r m addr size).m
abbrev Qel m addr size:=(Q8r m addr size).p
def Zcf:Q0d:=mT 245 [] true [.one (.ints .u32), .one (.int .u32), .one (.int .i64)] [] (λa r=>Q8r (argL .u32 a 0) (argI a 1) (argI a 2)) (λX=> .bool X) (λX=>[])
theorem Qlv:Q06 pG Zcf:=oT (.cons Qe6 (.nil)) Tryz.func245 Tryz.call245 [] [] 2
def Q48(m:List Int)(addr size:Int):Tree (Int×Bool):=
.an (Qel m addr size) (.lv (Q28 m addr size) λ(x0:Bool)=> .br (!x0) (.lf (0,false)) (.cn (bS 1 1&&bT 0 1&&decide (0<=wrap u32 (eR addr 4)/\wrap u32 (eR addr 4)<(m.length:Int))) (.br (size==1) (.cn (decide (0<=wrap u32 (8*dB addr 4))) (.lf (iand u32 (ishr u32 (m.getD (dC (wrap u32 (eR addr 4))) 0) (wrap u32 (8*dB addr 4))) 255,true))) (.lf (m.getD (dC (wrap u32 (eR addr 4))) 0,true)))))
def Q1g m addr size:=(Q48 m addr size).m
abbrev Qei m addr size:=(Q48 m addr size).p
def Zjs:Q0d:=mT 187 [] true [.one (.ints .u32), .one (.int .u32), .one (.int .i64)] [] (λa r=>Q48 (argL .u32 a 0) (argI a 1) (argI a 2)) (λX=> .tup [.int .u32 (X.1), .bool (X.2)]) (λX=>[])
theorem Qpi:Q06 pG Zjs:=oT (.cons Qlv (.nil)) Tryz.func187 Tryz.call187 [] [] 2
def Q6y(w:Int):Tree (Q0o×Bool):=
.lv (Q2i (wrap i64 (ishr u32 w 24))) λ(x0:Int)=>let E5:=({Op:=0,A:=0,B:=0,C:=0,Imm:=0}:Q0o); .br (x0==0) (.lf (E5,false)) (.br (x0==2) (let E3:=({Op:=wrap i64 (ishr u32 w 24),A:=wrap i64 (iand u32 (ishr u32 w 20) 15),B:=wrap i64 (iand u32 (ishr u32 w 16) 15),C:=wrap i64 (iand u32 w 65535),Imm:=0}:Q0o); .lv (Q85 E3) λ(x1:Bool)=> .br (!x1) (.lf (E5,false)) (.lf (E3,true))) (let T1:Tree ((Q0o×Bool)):=let E2:=({Op:=wrap i64 (ishr u32 w 24),A:=wrap i64 (iand u32 (ishr u32 w 20) 15),B:=wrap i64 (iand u32 (ishr u32 w 16) 15),C:=0,Imm:=wrap i32 (wrap i16 (iand u32 w 65535))}:Q0o); .lv (Q85 E2) λ(x2:Bool)=> .br (!x2) (.lf (E5,false)) (.lf (E2,true)); .br (x0==3) T1 (.br (x0==7) T1 (let E4:=({Op:=wrap i64 (ishr u32 w 24),A:=wrap i64 (iand u32 (ishr u32 w 20) 15),B:=wrap i64 (iand u32 (ishr u32 w 16) 15),C:=0,Imm:=wrap i32 (iand u32 w 65535)}:Q0o); .lv (Q85 E4) λ(x4:Bool)=> .br (!x4) (.lf (E5,false)) (.lf (E4,true))))))
def Q25 w:=(Q6y w).m
def Zei:Q0d:=mS 188 [] true [.one (.int .u32)] [] (λa r=>Q6y (argI a 0)) (λX=> .tup [.agg (Q0o.cells (X.1)), .bool (X.2)]) (λX=>[])
theorem Qsi:Q06 pG Zei:=oS (.cons Qgi (.cons Qvx (.nil))) Tryz.func188 Tryz.call188 [] [] 2
def Z05(access:Int):Tree Bool:=
.br (decide (access>=1)) (.lf (decide (access<=3))) (.lf false)
def Qfj access:=(Z05 access).m
def Zj1:Q0d:=mS 292 [] true [.one (.int .i64)] [] (λa r=>Z05 (argI a 0)) (λX=> .bool X) (λX=>[])
theorem Qv6:Q06 pG Zj1:=oS (.nil) Tryz.func292 Tryz.call292 [] [] 2
def Qzg(c:Q05):Tree Bool:=
.lf (iand u32 c.B6.a0 (5:Int)==(4:Int))
def Qm c:=(Qzg c).m
def Zh7:Q0d:=mS 293 [] true [.agg Q05.sig] [] (λa r=>Qzg (Q05.of (aC a 0))) (λX=> .bool X) (λX=>[])
theorem Zdt:Q06 pG Zh7:=oS (.nil) Tryz.func293 Tryz.call293 [] [] 2
def Q93(access:Int):Tree Int:=
.br (access==1) (.lf 4) (.br (access==3) (.lf 6) (.lf 5))
def Q27 access:=(Q93 access).m
def Z8n:Q0d:=mS 294 [] true [.one (.int .i64)] [] (λa r=>Q93 (argI a 0)) (λX=> .int .i64 X) (λX=>[])
theorem Qqp:Q06 pG Z8n:=oS (.nil) Tryz.func294 Tryz.call294 [] [] 2
def Q9w(m:List Int)(root va access:Int):Tree Q1f:=
.lv (Q27 access) λ(x0:Int)=> .lv (Q40 m) λ(x1:Int)=> .lv (Qfj access) λ(x2:Bool)=>let E4:=({Addr:=0,F2:=0,F0:=x0}:Q1f); .br (!x2) (.lf (E4)) (.br (decide (va>=4096)) (.lf (E4)) (.br (decide (root>=wrap u32 x1)) (.lf (E4)) (let E6:=wrap u32 (root*128)+wrap u32 (4*wrap u32 (eR va 128));let E3:=eR (wrap u32 E6) 4; .cn (bS 1 1&&bT 0 1&&decide (0<=wrap u32 E3/\wrap u32 E3<(m.length:Int))) (let E5:=m.getD (dC (wrap u32 E3)) 0; .br (iand u32 E5 (1:Int)==(0:Int)) (.lf (E4)) (let T1:Tree (Q1f):= .br (decide (iand u32 (ishr u32 E5 8) 255>=wrap u32 x1)) (.lf (E4)) (.lf ({Addr:=wrap u32 (wrap u32 (iand u32 (ishr u32 E5 8) (255:Int)*(128:Int))+dB va 128),F2:=wrap u32 E6,F0:=0}));let T2:Tree (Q1f):= .br (access==1) (.br (iand u32 E5 (4:Int)==(0:Int)) (.lf (E4)) T1) T1; .br (access==3) (.br (iand u32 E5 (2:Int)==(0:Int)) (.lf (E4)) T2) T2)))))
def Q71 m root va access:=(Q9w m root va access).m
abbrev Qwa m root va access:=(Q9w m root va access).p
def Zju:Q0d:=mT 295 [] true [.one (.ints .u32), .one (.int .u32), .one (.int .u32), .one (.int .i64)] [] (λa r=>Q9w (argL .u32 a 0) (argI a 1) (argI a 2) (argI a 3)) (λX=> .agg (Q1f.cells X)) (λX=>[])
theorem Zfm:Q06 pG Zju:=oT (.cons Qqp (.cons Qe6 (.cons Qv6 (.nil)))) Tryz.func295 Tryz.call295 [] [] 2
def Qfk(m:List Int)(entry access:Int):Tree (List Int):=
.an (Qel m entry 4) (.lv (Q28 m entry 4) λ(x0:Bool)=> .br (!x0) (.lf m) (let E3:=bS 1 1&&bT 0 1&&decide (0<=wrap u32 (eR entry 4)/\wrap u32 (eR entry 4)<(m.length:Int)); .cn E3 (.cn E3 (let E4:=dC (wrap u32 (eR entry 4));let E1:=dD m E4 (ior u32 (m.getD E4 0) 8); .br (access==3) (let E2:=bS 1 1&&bT 0 1&&decide (0<=wrap u32 (eR entry 4)/\wrap u32 (eR entry 4)<(↑(dH E1):Int)); .cn E2 (.cn E2 (.lf (dD E1 E4 (ior u32 (aK E1 E4 0) 16))))) (.lf E1)))))
def Qpz m entry access:=(Qfk m entry access).m
abbrev Qw6 m entry access:=(Qfk m entry access).p
def Zm:Q0d:=mT 296 [true,false,false] true [.one (.row 0), .one (.int .u32), .one (.int .i64)] [.arr 25 1 (.ints .u32)] (λa r=>Qfk (rowL .u32 r 0) (argI a 1) (argI a 2)) (λX=> .tup []) (λX=>[⟨false,25,1, .ints .u32 X⟩])
theorem Zeu:Q06 pG Zm:=oT (.cons Qlv (.nil)) Tryz.func296 Tryz.call296 [] [] 2
def Q8c(c:Q05)(m:List Int)(va size access:Int):Tree (Int×Int×(List Int)):=
.lv (Qfj access) λ(x0:Bool)=> .br (!x0) (.lf (0,5,m)) (let T1:Tree ((Int×Int×(List Int))):= .cn (decide (wrap u32 size≠0)) (.br (dB va (wrap u32 size) !=0) (.lf (0,3,m)) (.lv (Qm c) λ(x1:Bool)=> .br (!x1) (.an (Qel m va size) (.lv (Q28 m va size) λ(x2:Bool)=> .br (!x2) (.lv (Q27 access) λ(x3:Int)=> .lf (0,x3,m)) (.lf (va,0,m)))) (.an (Qwa m c.B6.a6 va access) (.lv (Q71 m c.B6.a6 va access) λ(x4:Q1f)=> .br (x4.F0 !=0) (.lf (0,x4.F0,m)) (.an (Qw6 m x4.F2 access) (.lv (Qpz m x4.F2 access) λ(x5:List Int)=> .lf (x4.Addr,0,x5))))))); .br (size !=1) (.br (size !=4) (.lf (0,5,m)) T1) T1)
def Q18 c m va size access:=(Q8c c m va size access).m
abbrev Q99 c m va size access:=(Q8c c m va size access).p
def Zhw:Q0d:=mT 254 [false,true,false,false,false] true [.agg Q05.sig, .one (.row 0), .one (.int .u32), .one (.int .i64), .one (.int .i64)] [.arr 25 1 (.ints .u32)] (λa r=>Q8c (Q05.of (aC a 0)) (rowL .u32 r 0) (argI a 2) (argI a 3) (argI a 4)) (λX=> .tup [.int .u32 (X.1), .int .i64 (X.2.1)]) (λX=>[⟨false,25,1, .ints .u32 (X.2.2)⟩])
theorem Qu9:Q06 pG Zhw:=oT (.cons Qv6 (.cons Zdt (.cons Qlv (.cons Qqp (.cons Zfm (.cons Zeu (.nil))))))) Tryz.func254 Tryz.call254 [] [] 2
def Qm0(op:Int):Tree Bool:=
.br (decide (op>=57)) (.lf (decide (op<=64))) (.lf false)
def Q3m op:=(Qm0 op).m
def Qxi:Q0d:=mS 255 [] true [.one (.int .i64)] [] (λa r=>Qm0 (argI a 0)) (λX=> .bool X) (λX=>[])
theorem Qv8:Q06 pG Qxi:=oS (.nil) Tryz.func255 Tryz.call255 [] [] 2
def Qef(c:Q05):Tree Q05:=
.lv (Qch (iand u32 c.B6.a0 (8:Int) !=(0:Int))) λ(x0:Int)=> .lv (Qch (iand u32 c.B6.a0 (16:Int) !=(0:Int))) λ(x1:Int)=> .lf ({X:=c.X,Pc:=c.B6.a2,B6:={a0:=ior u32 (ior u32 (Qie u32 c.B6.a0 3) (wrap u32 (1*x0))) (wrap u32 (2*x1)),a1:=c.B6.a1,a2:=c.B6.a2,a3:=c.B6.a3,a4:=c.B6.a4,a5:=c.B6.a5,a6:=c.B6.a6,a7:=c.B6.a7}})
def Qj2 c:=(Qef c).m
def Zc8:Q0d:=mS 297 [] true [.agg Q05.sig] [] (λa r=>Qef (Q05.of (aC a 0))) (λX=> .agg (Q05.cells X)) (λX=>[])
theorem Z7d:Q06 pG Zc8:=oS (.cons Qtm (.nil)) Tryz.func297 Tryz.call297 [] [] 2
def Qfb(c:Q05)(r v:Int):Tree Q05:=
.br (decide (r>0)) (.br (decide (r<16)) (.cn (bT 0 1&&decide (0<=r/\r<(↑16:Int))) (.lf ({X:=A16.of 0 (dD (A16.l c.X) r.toNat v),Pc:=c.Pc,B6:=c.B6}))) (.lf c)) (.lf c)
def Q20 c r v:=(Qfb c r v).m
abbrev Q34 c r v:=(Qfb c r v).p
def Zqo:Q0d:=mT 219 [] true [.agg Q05.sig, .one (.int .i64), .one (.int .u32)] [] (λa r=>Qfb (Q05.of (aC a 0)) (argI a 1) (argI a 2)) (λX=> .agg (Q05.cells X)) (λX=>[])
theorem Qfh:Q06 pG Zqo:=oT (.nil) Tryz.func219 Tryz.call219 [] [] 2
def Qdl(c:Q05)(csr v:Int):Tree Q05:=
let E4:=bT 0 1&&decide (0<=csr/\csr<(↑8:Int));let T2:Tree (Q05):= .cn E4 (.lf ({X:=c.X,Pc:=c.Pc,B6:=A8.of 0 (dD (A8.l c.B6) csr.toNat (iand u32 v 31))})); .br (csr==0) T2 (.br (csr==7) T2 (.br (csr==6) (.cn E4 (.lf ({X:=c.X,Pc:=c.Pc,B6:=A8.of 0 (dD (A8.l c.B6) csr.toNat (iand u32 v 255))}))) (let T3:Tree (Q05):= .cn E4 (.lf ({X:=c.X,Pc:=c.Pc,B6:=A8.of 0 (dD (A8.l c.B6) csr.toNat (Qie u32 v 3))})); .br (csr==1) T3 (.br (csr==2) T3 (let T1:Tree (Q05):= .cn E4 (.lf ({X:=c.X,Pc:=c.Pc,B6:=A8.of 0 (dD (A8.l c.B6) csr.toNat v)})); .br (csr==3) T1 (.br (csr==4) T1 (.br (csr==5) T1 (.lf c))))))))
def Qir c csr v:=(Qdl c csr v).m
abbrev Qso c csr v:=(Qdl c csr v).p
def Zfj:Q0d:=mT 298 [] true [.agg Q05.sig, .one (.int .i64), .one (.int .u32)] [] (λa r=>Qdl (Q05.of (aC a 0)) (argI a 1) (argI a 2)) (λX=> .agg (Q05.cells X)) (λX=>[])
theorem Zbg:Q06 pG Zfj:=oT (.nil) Tryz.func298 Tryz.call298 [] [] 2
def Q8p(c:Q05)(i:Q0o):Tree (Q05×Q17):=
.br (i.Op==56) (.lv (Q3 c 7 0) λ(x0:Q05)=> .lf (x0,{B5:=0,D1:=0,D9:=0,Value:=0})) (.br (i.Op==57) (.lv (Qj2 c) λ(x1:Q05)=> .lf (x1,{B5:=0,D1:=0,D9:=0,Value:=0})) (.br (i.Op==58) (.cn (bT 0 1&&decide (0<=i.Imm/\i.Imm<(↑8:Int))) (let E3:=aK (A8.l c.B6) i.Imm.toNat 0; .an (Q34 c i.A E3) (.lv (Q20 c i.A E3) λ(x2:Q05)=> .lf ({X:=x2.X,Pc:=wrap u32 (x2.Pc+4),B6:=x2.B6},{B5:=0,D1:=0,D9:=0,Value:=0})))) (let E2:=bT 0 1&&decide (0<=i.A/\i.A<(↑16:Int)); .br (i.Op==59) (.cn E2 (let E4:=aK (A16.l c.X) i.A.toNat 0; .an (Qso c (wrap i64 i.Imm) E4) (.lv (Qir c (wrap i64 i.Imm) E4) λ(x3:Q05)=> .lf ({X:=x3.X,Pc:=wrap u32 (x3.Pc+4),B6:=x3.B6},{B5:=0,D1:=0,D9:=0,Value:=0})))) (let E1:=({X:=c.X,Pc:=wrap u32 (c.Pc+4),B6:=c.B6}:Q05); .br (i.Op==60) (.lf (E1,{B5:=1,D1:=wrap i64 i.Imm,D9:=i.A,Value:=0})) (.br (i.Op==61) (.cn E2 (.lf (E1,{B5:=2,D1:=wrap i64 i.Imm,D9:=0,Value:=aK (A16.l c.X) i.A.toNat 0}))) (.br (i.Op==62) (.lf (E1,{B5:=3,D1:=0,D9:=0,Value:=0})) (.br (i.Op==63) (.lf (E1,{B5:=5,D1:=0,D9:=0,Value:=0})) (.br (i.Op==64) (.lf (E1,{B5:=4,D1:=0,D9:=0,Value:=0})) (.lf (E1,{B5:=0,D1:=0,D9:=0,Value:=0}))))))))))
def Qjv c i:=(Q8p c i).m
abbrev Qpt c i:=(Q8p c i).p
def Zc1:Q0d:=mT 256 [] true [.agg Q05.sig, .agg Q0o.sig] [] (λa r=>Q8p (Q05.of (aC a 0)) (Q0o.of (aC a 1))) (λX=> .tup [.agg (Q05.cells (X.1)), .agg (Q17.cells (X.2))]) (λX=>[])
theorem Z7u:Q06 pG Zc1:=oT (.cons Qlh (.cons Z7d (.cons Qfh (.cons Zbg (.nil))))) Tryz.func256 Tryz.call256 [] [] 2
def Qzm(op a b:Int):Tree Bool:=
.br (op==40) (.lf (a==b)) (.br (op==41) (.lf (a !=b)) (.br (op==42) (.lf (decide (wrap i32 a<wrap i32 b))) (.br (op==43) (.lf (decide (wrap i32 a>=wrap i32 b))) (.br (op==44) (.lf (decide (a<b))) (.lf (decide (a>=b)))))))
def Q2f op a b:=(Qzm op a b).m
def Zf0:Q0d:=mS 299 [] true [.one (.int .i64), .one (.int .u32), .one (.int .u32)] [] (λa r=>Qzm (argI a 0) (argI a 1) (argI a 2)) (λX=> .bool X) (λX=>[])
theorem Ze4:Q06 pG Zf0:=oS (.nil) Tryz.func299 Tryz.call299 [] [] 2
def Qjr(c:Q05)(i:Q0o):Tree Q05:=
.br (i.Op==48) (.an (Q34 c i.A (wrap u32 (c.Pc+4))) (.lv (Q20 c i.A (wrap u32 (c.Pc+4))) λ(x0:Q05)=> .lf ({X:=x0.X,Pc:=wrap u32 (c.Pc+wrap u32 (4*wrap u32 i.Imm)),B6:=x0.B6}))) (let E1:=bT 0 1&&decide (0<=i.B/\i.B<(↑16:Int)); .br (i.Op==49) (.cn E1 (.an (Q34 c i.A (wrap u32 (c.Pc+4))) (.lv (Q20 c i.A (wrap u32 (c.Pc+4))) λ(x1:Q05)=> .lf ({X:=x1.X,Pc:=wrap u32 (aK (A16.l c.X) i.B.toNat 0+wrap u32 i.Imm),B6:=x1.B6})))) (.cn (bT 0 1&&decide (0<=i.A/\i.A<(↑16:Int))) (.cn E1 (.lv (Q2f i.Op (aK (A16.l c.X) i.A.toNat 0) (aK (A16.l c.X) i.B.toNat 0)) λ(x2:Bool)=> .br x2 (.lf ({X:=c.X,Pc:=wrap u32 (c.Pc+wrap u32 (4*wrap u32 i.Imm)),B6:=c.B6})) (.lf ({X:=c.X,Pc:=wrap u32 (c.Pc+4),B6:=c.B6}))))))
def Z2q c i:=(Qjr c i).m
abbrev Que c i:=(Qjr c i).p
def Zl9:Q0d:=mT 257 [] true [.agg Q05.sig, .agg Q0o.sig] [] (λa r=>Qjr (Q05.of (aC a 0)) (Q0o.of (aC a 1))) (λX=> .agg (Q05.cells X)) (λX=>[])
theorem Zh6:Q06 pG Zl9:=oT (.cons Qfh (.cons Ze4 (.nil))) Tryz.func257 Tryz.call257 [] [] 2
def Q82(x n:Int):Tree Int:=
.br (decide (n<1)) (.lf 0) (.br (decide (n>=32)) (.lf x) (.cn (decide (0<=wrap u64 n)) (.cn (decide (0<=wrap u64 (wrap i64 (n-1)))) (let E1:=iand u32 x (wrap u32 (ishl u32 1 (wrap u64 n)-1)); .br (ishr u32 E1 (wrap u64 (wrap i64 (n-1)))==1) (.cn (decide (0<=wrap u64 n)) (.lf (ior u32 E1 (ishl u32 4294967295 (wrap u64 n))))) (.lf E1)))))
def Q3f x n:=(Q82 x n).m
abbrev Qct x n:=(Q82 x n).p
def Qwy:Q0d:=mT 301 [] true [.one (.int .u32), .one (.int .i64)] [] (λa r=>Q82 (argI a 0) (argI a 1)) (λX=> .int .u32 X) (λX=>[])
theorem Qvl:Q06 pG Qwy:=oT (.nil) Tryz.func301 Tryz.call301 [] [] 2
def Q9q(c:Q05)(m:List Int)(i:Q0o):Tree (Q05×(List Int)):=
.cn (bT 0 1&&decide (0<=i.B/\i.B<(↑16:Int))) (let E4:=wrap u32 (aK (A16.l c.X) i.B.toNat 0+wrap u32 i.Imm);let E5:=aK (A16.l c.X) i.A.toNat 0;let E6:=bT 0 1&&decide (0<=i.A/\i.A<(↑16:Int));let E7:=({X:=c.X,Pc:=wrap u32 (c.Pc+4),B6:=c.B6}:Q05);let T1:Tree ((Q05×(List Int))):=let T3:Tree ((Q05×(List Int))):= .an (Q99 c m E4 4 3) (.lv (Q18 c m E4 4 3) λ(x0:Int×Int×List Int)=> .br (x0.2.1 !=0) (.lv (Q3 c x0.2.1 E4) λ(x1:Q05)=> .lf (x1,x0.2.2)) (.cn E6 (.an (Qgj x0.2.2 x0.1 4 E5) (.lv (Qap x0.2.2 x0.1 4 E5) λ(x2:List Int)=> .lf (E7,x2))))); .br (i.Op==35) T3 (.br (i.Op==36) T3 (.an (Q99 c m E4 4 2) (.lv (Q18 c m E4 4 2) λ(x6:Int×Int×List Int)=> .br (x6.2.1 !=0) (.lv (Q3 c x6.2.1 E4) λ(x7:Q05)=> .lf (x7,x6.2.2)) (.an (Qei x6.2.2 x6.1 4) (.lv (Q1g x6.2.2 x6.1 4) λ(x8:Int×Bool)=> .br (i.Op==33) (.an (Qct x8.1 8) (.lv (Q3f x8.1 8) λ(x9:Int)=> .an (Q34 c i.A x9) (.lv (Q20 c i.A x9) λ(x10:Q05)=> .lf ({X:=x10.X,Pc:=wrap u32 (x10.Pc+4),B6:=x10.B6},x6.2.2)))) (.an (Q34 c i.A x8.1) (.lv (Q20 c i.A x8.1) λ(x11:Q05)=> .lf ({X:=x11.X,Pc:=wrap u32 (x11.Pc+4),B6:=x11.B6},x6.2.2)))))))); .br (i.Op==32) T1 (.br (i.Op==35) T1 (let T2:Tree ((Q05×(List Int))):= .an (Q99 c m E4 1 3) (.lv (Q18 c m E4 1 3) λ(x24:Int×Int×List Int)=> .br (x24.2.1 !=0) (.lv (Q3 c x24.2.1 E4) λ(x25:Q05)=> .lf (x25,x24.2.2)) (.cn E6 (.an (Qgj x24.2.2 x24.1 1 E5) (.lv (Qap x24.2.2 x24.1 1 E5) λ(x26:List Int)=> .lf (E7,x26))))); .br (i.Op==35) T2 (.br (i.Op==36) T2 (.an (Q99 c m E4 1 2) (.lv (Q18 c m E4 1 2) λ(x30:Int×Int×List Int)=> .br (x30.2.1 !=0) (.lv (Q3 c x30.2.1 E4) λ(x31:Q05)=> .lf (x31,x30.2.2)) (.an (Qei x30.2.2 x30.1 1) (.lv (Q1g x30.2.2 x30.1 1) λ(x32:Int×Bool)=> .br (i.Op==33) (.an (Qct x32.1 8) (.lv (Q3f x32.1 8) λ(x33:Int)=> .an (Q34 c i.A x33) (.lv (Q20 c i.A x33) λ(x34:Q05)=> .lf ({X:=x34.X,Pc:=wrap u32 (x34.Pc+4),B6:=x34.B6},x30.2.2)))) (.an (Q34 c i.A x32.1) (.lv (Q20 c i.A x32.1) λ(x35:Q05)=> .lf ({X:=x35.X,Pc:=wrap u32 (x35.Pc+4),B6:=x35.B6},x30.2.2)))))))))))
def Q5c c m i:=(Q9q c m i).m
abbrev Qmy c m i:=(Q9q c m i).p
def Z4i:Q0d:=mT 258 [false,true,false] true [.agg Q05.sig, .one (.row 0), .agg Q0o.sig] [.arr 25 1 (.ints .u32)] (λa r=>Q9q (Q05.of (aC a 0)) (rowL .u32 r 0) (Q0o.of (aC a 2))) (λX=> .agg (Q05.cells (X.1))) (λX=>[⟨false,25,1, .ints .u32 (X.2)⟩])
theorem Z1o:Q06 pG Z4i:=oT (.cons Qu9 (.cons Qlh (.cons Z55 (.cons Qpi (.cons Qvl (.cons Qfh (.nil))))))) Tryz.func258 Tryz.call258 [] [] 2
def Qzr(op:Int):Tree Int:=
.br (op==16) (.lf 1) (.br (op==17) (.lf 3) (.br (op==18) (.lf 4) (.br (op==19) (.lf 5) (.br (op==20) (.lf 6) (.br (op==21) (.lf 7) (.br (op==22) (.lf 8) (.br (op==23) (.lf 12) (.lf op))))))))
def Zae op:=(Qzr op).m
def Zg:Q0d:=mS 302 [] true [.one (.int .i64)] [] (λa r=>Qzr (argI a 0)) (λX=> .int .i64 X) (λX=>[])
theorem Zek:Q06 pG Zg:=oS (.nil) Tryz.func302 Tryz.call302 [] [] 2
def Qax(a b:Int):Tree (Int×Int):=
.br (b==0) (.lf (4294967295,a)) (.cn (decide (wrap i64 (wrap i32 b)≠0)) (.cn (decide (wrap i64 (wrap i32 b)≠0)) (.lf (wrap u32 (wrap i64 (eR (wrap i64 (wrap i32 a)) (wrap i64 (wrap i32 b)))),wrap u32 (dB (wrap i64 (wrap i32 a)) (wrap i64 (wrap i32 b)))))))
def Qdd a b:=(Qax a b).m
abbrev Qjt a b:=(Qax a b).p
def Zc7:Q0d:=mT 303 [] true [.one (.int .u32), .one (.int .u32)] [] (λa r=>Qax (argI a 0) (argI a 1)) (λX=> .tup [.int .u32 (X.1), .int .u32 (X.2)]) (λX=>[])
theorem Z8q:Q06 pG Zc7:=oT (.nil) Tryz.func303 Tryz.call303 [] [] 2
def Qmr(op a b:Int):Tree (Int×Bool):=
.lv (Zae op) λ(x0:Int)=> .br (x0==1) (.lf (wrap u32 (a+b),true)) (.br (x0==2) (.lf (wrap u32 (a-b),true)) (.br (x0==3) (.lf (iand u32 a b,true)) (.br (x0==4) (.lf (ior u32 a b,true)) (.br (x0==5) (.lf (ixor u32 a b,true)) (.br (x0==6) (.lf (ishl u32 a (iand u32 b 31),true)) (.br (x0==7) (.lf (ishr u32 a (iand u32 b 31),true)) (.br (x0==8) (.lf (wrap u32 (ishr i32 (wrap i32 a) (iand u32 b 31)),true)) (.br (x0==9) (.lf (wrap u32 (a*b),true)) (.br (x0==10) (.an (Qjt a b) (.lv (Qdd a b) λ(x1:Int×Int)=> .lf (x1.1,true))) (.br (x0==11) (.an (Qjt a b) (.lv (Qdd a b) λ(x2:Int×Int)=> .lf (x2.2,true))) (.br (x0==12) (.lv (Qch (decide (wrap i32 a<wrap i32 b))) λ(x3:Int)=> .lf (x3,true)) (.br (x0==13) (.lv (Qch (decide (a<b))) λ(x4:Int)=> .lf (x4,true)) (.lf (0,false))))))))))))))
def Qeb op a b:=(Qmr op a b).m
abbrev Qq9 op a b:=(Qmr op a b).p
def Zqm:Q0d:=mT 259 [] true [.one (.int .i64), .one (.int .u32), .one (.int .u32)] [] (λa r=>Qmr (argI a 0) (argI a 1) (argI a 2)) (λX=> .tup [.int .u32 (X.1), .bool (X.2)]) (λX=>[])
theorem Zlc:Q06 pG Zqm:=oT (.cons Zek (.cons Z8q (.cons Qtm (.nil)))) Tryz.func259 Tryz.call259 [] [] 2
def Qq6(c:Q05)(m:List Int):Tree (Q05×Q17×(List Int)):=
.an (Q99 c m c.Pc 4 1) (.lv (Q18 c m c.Pc 4 1) λ(x0:Int×Int×List Int)=> .br (x0.2.1 !=0) (.lv (Q3 c x0.2.1 c.Pc) λ(x1:Q05)=> .lf (x1,{B5:=0,D1:=0,D9:=0,Value:=0},x0.2.2)) (.an (Qei x0.2.2 x0.1 4) (.lv (Q1g x0.2.2 x0.1 4) λ(x2:Int×Bool)=> .lv (Q25 x2.1) λ(x3:Q0o×Bool)=> .br (!x3.2) (.lv (Q3 c 1 x2.1) λ(x4:Q05)=> .lf (x4,{B5:=0,D1:=0,D9:=0,Value:=0},x0.2.2)) (.lv (Q3m x3.1.Op) λ(x5:Bool)=>let T1:Tree ((Q05×Q17×(List Int))):= .br (decide (x3.1.Op>=56)) (.an (Qpt c x3.1) (.lv (Qjv c x3.1) λ(x7:Q05×Q17)=> .lf (x7.1,x7.2,x0.2.2))) (.br (decide (x3.1.Op>=40)) (.an (Que c x3.1) (.lv (Z2q c x3.1) λ(x8:Q05)=> .lf (x8,{B5:=0,D1:=0,D9:=0,Value:=0},x0.2.2))) (.br (decide (x3.1.Op>=32)) (.an (Qmy c x0.2.2 x3.1) (.lv (Q5c c x0.2.2 x3.1) λ(x9:Q05×List Int)=> .lf (x9.1,{B5:=0,D1:=0,D9:=0,Value:=0},x9.2))) (.br (x3.1.Op==24) (.an (Q34 c x3.1.A (ishl u32 (wrap u32 x3.1.Imm) 16)) (.lv (Q20 c x3.1.A (ishl u32 (wrap u32 x3.1.Imm) 16)) λ(x10:Q05)=> .lf ({X:=x10.X,Pc:=wrap u32 (x10.Pc+4),B6:=x10.B6},{B5:=0,D1:=0,D9:=0,Value:=0},x0.2.2))) (let E2:=aK (A16.l c.X) x3.1.B.toNat 0;let E3:=bT 0 1&&decide (0<=x3.1.B/\x3.1.B<(↑16:Int)); .br (decide (x3.1.Op<=13)) (.cn (bT 0 1&&decide (0<=x3.1.C/\x3.1.C<(↑16:Int))) (.cn E3 (let E4:=aK (A16.l c.X) x3.1.C.toNat 0; .an (Qq9 x3.1.Op E2 E4) (.lv (Qeb x3.1.Op E2 E4) λ(x11:Int×Bool)=> .an (Q34 c x3.1.A x11.1) (.lv (Q20 c x3.1.A x11.1) λ(x12:Q05)=> .lf ({X:=x12.X,Pc:=wrap u32 (x12.Pc+4),B6:=x12.B6},{B5:=0,D1:=0,D9:=0,Value:=0},x0.2.2)))))) (.cn E3 (.an (Qq9 x3.1.Op E2 (wrap u32 x3.1.Imm)) (.lv (Qeb x3.1.Op E2 (wrap u32 x3.1.Imm)) λ(x13:Int×Bool)=> .an (Q34 c x3.1.A x13.1) (.lv (Q20 c x3.1.A x13.1) λ(x14:Q05)=> .lf ({X:=x14.X,Pc:=wrap u32 (x14.Pc+4),B6:=x14.B6},{B5:=0,D1:=0,D9:=0,Value:=0},x0.2.2))))))))); .br x5 (.br (iand u32 c.B6.a0 (1:Int)==(0:Int)) (.lv (Q3 c 2 x2.1) λ(x6:Q05)=> .lf (x6,{B5:=0,D1:=0,D9:=0,Value:=0},x0.2.2)) T1) T1))))
def Q7v c m:=(Qq6 c m).m
abbrev Qts c m:=(Qq6 c m).p
def yB:Q0d:=mT 217 [false,true] true [.agg Q05.sig, .one (.row 0)] [.arr 25 1 (.ints .u32)] (λa r=>Qq6 (Q05.of (aC a 0)) (rowL .u32 r 0)) (λX=> .tup [.agg (Q05.cells (X.1)), .agg (Q17.cells (X.2.1))]) (λX=>[⟨false,25,1, .ints .u32 (X.2.2)⟩])
theorem Zaq:Q06 pG yB:=oT (.cons Qu9 (.cons Qlh (.cons Qpi (.cons Qsi (.cons Qv8 (.cons Z7u (.cons Zh6 (.cons Z1o (.cons Qfh (.cons Zlc (.nil))))))))))) Tryz.func217 Tryz.call217 [] [] 2
end
noncomputable section
def Qea(steps:Int):Tree Int:=
.lf (if 4000<if 0>steps then 0 else steps then 4000 else if 0>steps then 0 else steps)
def Q0i steps:=(Qea steps).m
def Z42:Q0d:=mS 158 [] true [.one (.int .i64)] [] (λa r=>Qea (argI a 0)) (λX=> .int .i64 X) (λX=>[])
theorem Z19:Q06 pG Z42:=oS (.nil) Tryz.func158 Tryz.call158 [] [] 2
def Qx7(t:Q0j)(now:Int):Tree Bool:=
.br t.D2 (.lf (decide (now>=t.C9))) (.lf false)
def Q74 t now:=(Qx7 t now).m
def Zrb:Q0d:=mS 214 [] true [.agg Q0j.sig, .one (.int .u32)] [] (λa r=>Qx7 (Q0j.of (aC a 0)) (argI a 1)) (λX=> .bool X) (λX=>[])
theorem Zm2:Q06 pG Zrb:=oS (.nil) Tryz.func214 Tryz.call214 [] [] 2
def Qf1(m:Q00)(z:(Int)):Nat:=(32-z).toNat
def Q4u(m:Q00):Tree Q05:=
.an (Qhp m) (.lv (Q37 m) λ(x0:Int)=> .br (iand u32 m.B2.B6.a0 (2:Int)==(0:Int)) (.lf m.B2) (.br (x0==0) (.lf m.B2) (.lp inferInstance (Qf1 m 0+1) ((rZ/\rZ/\rE (x0:Int)/\rE (0:Int)/\True)/\(mE m (((Els.Nil (Els.ints u32 m.Mem)\/rE (1:Nat))/\rE m.Mem)) True)/\(rE (0:Int)/\rE (0:Int)/\rE (0:Int)/\rE (0:Int)/\rE (0:Int)/\rE (0:Int)/\rE (0:Int)/\rE (0:Int)/\rE (0:Int)/\rE (0:Int)/\rE (0:Int)/\rE (0:Int)/\rE (0:Int)/\rE (0:Int)/\rE (0:Int)/\rE (0:Int)/\rE (0:Int)/\rE (0:Int)/\rE (0:Int)/\rE (0:Int)/\rE (0:Int)/\rE (0:Int)/\rE (0:Int)/\rE (0:Int)/\rE (0:Int)/\True)/\True) 0 λ(v0:Int)=> .cn (decide (0<=wrap u64 v0)) (.br (iand u32 (ishr u32 x0 (wrap u64 v0)) (1:Int)==(0:Int)) (.nx ((rZ/\rZ/\rE (x0:Int)/\rE ((wrap i64 (v0+1)):Int)/\True)/\(mE m (((Els.Nil (Els.ints u32 m.Mem)\/rE (1:Nat))/\rE m.Mem)) True)/\(rE (0:Int)/\rE (0:Int)/\rE (0:Int)/\rE (0:Int)/\rE (0:Int)/\rE (0:Int)/\rE (0:Int)/\rE (0:Int)/\rE (0:Int)/\rE (0:Int)/\rE (0:Int)/\rE (0:Int)/\rE (0:Int)/\rE (0:Int)/\rE (0:Int)/\rE (0:Int)/\rE (0:Int)/\rE (0:Int)/\rE (0:Int)/\rE (0:Int)/\rE (0:Int)/\rE (0:Int)/\rE (0:Int)/\rE (0:Int)/\rE (0:Int)/\True)/\True) (Sum.inl (wrap i64 (v0+1)))) (.lv (Q3 m.B2 (wrap i64 (16+v0)) 0) λ(x1:Q05)=> .lf (Sum.inr x1))))))
def Q0q m:=(Q4u m).m
abbrev Q7r m:=(Q4u m).p
def Qtv:LInv:={
 α:=(Int)
 F:=λst a=>([(1, .ptr 0 0 0),(2, .ptr 1 0 0),(3,(lk st 3)),(4, .int i64 a)],[⟨true,43,49, .gen [mB (cT st 1)]⟩,⟨true,29,25, .gen [[(cT st 2 0),(cT st 2 1),(cT st 2 2),(cT st 2 3),(cT st 2 4),(cT st 2 5),(cT st 2 6),(cT st 2 7),(cT st 2 8),(cT st 2 9),(cT st 2 10),(cT st 2 11),(cT st 2 12),(cT st 2 13),(cT st 2 14),(cT st 2 15),(cT st 2 16),(cT st 2 17),(cT st 2 18),(cT st 2 19),(cT st 2 20),(cT st 2 21),(cT st 2 22),(cT st 2 23),(cT st 2 24)]]⟩])
 a0:=λst=>(lk st 4).toInt
 ex0:=λst=>[]++[(rX st 1 0),(rX st 2 1)]}
def Qq7:List (Nat×LInv):=[(5,Qtv)]
def Qvn:Q0d:=mT 186 [] true [.agg Q00.sig] [] (λa r=>Q4u (Q00.of (aC a 0))) (λX=> .agg (Q05.cells X)) (λX=>[])
theorem Qd1:Q06 pG Qvn:=oT (.cons Qpp (.cons Qlh (.nil))) Tryz.func186 Tryz.call186 [] Qq7 3
def Qgd(m:Q00):Tree Bool:=
.an (Q7r m) (.lv (Q0q m) λ(x0:Q05)=> .br (iand u32 x0.B6.a0 (1:Int)==(0:Int)) (.lf false) (.an (Qei m.Mem x0.Pc 4) (.lv (Q1g m.Mem x0.Pc 4) λ(x1:Int×Bool)=> .lv (Q25 x1.1) λ(x2:Q0o×Bool)=> .br x1.2 (.br x2.2 (.br (x2.1.Op==60) (.lf (x2.1.Imm==2)) (.lf false)) (.lf false)) (.lf false))))
def Qfp m:=(Qgd m).m
abbrev Qlt m:=(Qgd m).p
def Zj2:Q0d:=mT 116 [] true [.agg Q00.sig] [] (λa r=>Qgd (Q00.of (aC a 0))) (λX=> .bool X) (λX=>[])
theorem Qur:Q06 pG Zj2:=oT (.cons Qd1 (.cons Qpi (.cons Qsi (.nil)))) Tryz.func116 Tryz.call116 [] [] 2
def Q7z(m:Q00):Tree Bool:=
.an (Qg3 m) (.lv (Q0s m) λ(x0:Bool)=> .br x0 (.lf false) (.an (Qlt m) (.lv (Qfp m) λ(x1:Bool)=> .lf x1)))
def Q0h m:=(Q7z m).m
abbrev Qcs m:=(Q7z m).p
def Qxb:Q0d:=mT 31 [] true [.agg Q00.sig] [] (λa r=>Q7z (Q00.of (aC a 0))) (λX=> .bool X) (λX=>[])
theorem Qua:Q06 pG Qxb:=oT (.cons Qwr (.cons Qur (.nil))) Tryz.func31 Tryz.call31 [] [] 2
def Q3q(c:Q0c)(port:Int):Tree (Q0c×Int):=
let T1:Tree ((Q0c×Int)):= .br (port==0) (.cn (decide ((0:Int)<=(1:Int)/\1<=(c.D3.length:Int)/\(c.D3.length:Int)<=(c.D3.length:Int))) (.cn (decide ((0:Int)<=(0:Int)/\0<(c.D3.length:Int))) (.lf ({D3:=cY (dC (c.D3.length:Int)-dC 1) (cZ (dC 1) c.D3)},wrap u32 (↑(eT (c.D3.getD (dC 0) (0:UInt8))):Int))))) (.br (port==1) (.lf (c,wrap u32 (c.D3.length:Int))) (.lf (c,0))); .br (port==0) (.br ((c.D3.length:Int)==(0:Int)) (.lf (c,4294967295)) T1) T1
def Q5r c port:=(Q3q c port).m
theorem Qvu(c:Q0c)(port:Int):(Q3q c port).p:=by
 unfold Tree.p Q3q
 repeat'(first|exact trivial|refine w_br (λ_=> ?_) (λ_=> ?_)|refine w_cn ?_ ?_|refine w_an ?_ ?_|refine w_lv (λ_ _=> ?_)|refine w_nx ?_|refine w_lf ?_|refine And.intro ?_ ?_)
 all_goals(exact fin0)
def Z1l:Q0d:=mS 260 [] true [.agg Q0c.sig, .one (.int .i64)] [] (λa r=>Q3q (Q0c.of (aC a 0)) (argI a 1)) (λX=> .tup [.agg (Q0c.cells (X.1)), .int .u32 (X.2)]) (λX=>[])
theorem Qma:Q06 pG Z1l:=oS (.nil) Tryz.func260 Tryz.call260 [] [] 2 (λ_ _ _=>by kernel_rfl) (λa r=>Qvu (Q0c.of (aC a 0)) (argI a 1)) (λ_ X=>by kernel_rfl)
def Qg4(t:Q0j):Tree Int:=
.br t.D5 (.lf 1) (.lf 0)
def Qh9 t:=(Qg4 t).m
def Z7k:Q0d:=mS 261 [] true [.agg Q0j.sig] [] (λa r=>Qg4 (Q0j.of (aC a 0))) (λX=> .int .u32 X) (λX=>[])
theorem Qps:Q06 pG Z7k:=oS (.nil) Tryz.func261 Tryz.call261 [] [] 2
def Qi6(d0:Q0g)(port:Int):Tree Int:=
.br (port==4) (.lf d0.C2) (.br (port==5) (.lf d0.Frame) (.br (port==6) (.lf (wrap u32 d0.C1)) (.lf 0)))
def Qj0 d0 port:=(Qi6 d0 port).m
def Zcy:Q0d:=mS 262 [] true [.agg Q0g.sig, .one (.int .i64)] [] (λa r=>Qi6 (Q0g.of (aC a 0)) (argI a 1)) (λX=> .int .u32 X) (λX=>[])
theorem Qs2:Q06 pG Zcy:=oS (.nil) Tryz.func262 Tryz.call262 [] [] 2
def Qgb(n:Q0r)(port:Int):Tree Int:=
.br (port==7) (.lf n.Frame) (.br (port==8) (.lf n.F1) (.br (port==9) (.br n.C6 (.br n.B8 (.lf (wrap u32 ((1:Int)+(2:Int)))) (.lf 1)) (.br n.B8 (.lf (wrap u32 ((0:Int)+(2:Int)))) (.lf 0))) (.lf 0)))
def Qiq n port:=(Qgb n port).m
def Zew:Q0d:=mS 263 [] true [.agg Q0r.sig, .one (.int .i64)] [] (λa r=>Qgb (Q0r.of (aC a 0)) (argI a 1)) (λX=> .int .u32 X) (λX=>[])
theorem Qwb:Q06 pG Zew:=oS (.nil) Tryz.func263 Tryz.call263 [] [] 2
def Q6m(b:Q08)(port:Int):Tree Int:=
.br (port==10) (.lf b.D0) (.br (port==11) (.lv (Qfa b) λ(x0:Int)=> .lf (wrap u32 x0)) (.lf 0))
def Q5q b port:=(Q6m b port).m
def Z1w:Q0d:=mS 264 [] true [.agg Q08.sig, .one (.int .i64)] [] (λa r=>Q6m (Q08.of (aC a 0)) (argI a 1)) (λX=> .int .u32 X) (λX=>[])
theorem Qn1:Q06 pG Z1w:=oS (.cons Qv2 (.nil)) Tryz.func264 Tryz.call264 [] [] 2
def Qm2(m:Q00)(port clock:Int):Tree (Int×Q00):=
.br (decide (port<=1)) (.lv (Q5r m.A6 port) λ(x0:Q0c×Int)=> .lf (x0.2,{B2:=m.B2,Mem:=m.Mem,A6:=x0.1,B0:=m.B0,B1:=m.B1,C5:=m.C5,A4:=m.A4,A1:=m.A1,A7:=m.A7,A9:=m.A9})) (.br (port==2) (.lf (clock,m)) (.br (port==3) (.lv (Qh9 m.B0) λ(x1:Int)=> .lf (x1,m)) (.br (decide (port<=6)) (.lv (Qj0 m.B1 port) λ(x2:Int)=> .lf (x2,m)) (.br (decide (port<=9)) (.lv (Qiq m.C5 port) λ(x3:Int)=> .lf (x3,m)) (.lv (Q5q m.A4 port) λ(x4:Int)=> .lf (x4,m))))))
def Qet m port clock:=(Qm2 m port clock).m
def vB:Q0d:=mS 218 [true,false,false] true [.ptr 0, .one (.int .i64), .one (.int .u32)] [.box 43 49 (Q00.sigW (.row 1)), .arr 25 1 (.ints .u32)] (λa r=>Qm2 (Q00.ofW (r.getD 0 default).cs (rowL .u32 r 1)) (argI a 1) (argI a 2)) (λX=> .int .u32 (X.1)) (λX=>[⟨true,43,49, .gen [(Q00.cellsW (X.2) (.all 1))]⟩,⟨false,25,1, .ints .u32 (X.2).Mem⟩])
theorem Zqp:Q06 pG vB:=oS (.cons Qma (.cons Qps (.cons Qs2 (.cons Qwb (.cons Qn1 (.nil)))))) Tryz.func218 Tryz.call218 [.row 25 1 (.ints .u32)] [] 2
def Qz7(deadline:Int):Tree Q0j:=
.br (deadline==0) (.lf ({D2:=false,C9:=0,D5:=false})) (.lf ({D2:=true,C9:=deadline,D5:=false}))
def Qum deadline:=(Qz7 deadline).m
def Zpc:Q0d:=mS 265 [] true [.one (.int .u32)] [] (λa r=>Qz7 (argI a 0)) (λX=> .agg (Q0j.cells X)) (λX=>[])
theorem Z5b:Q06 pG Zpc:=oS (.nil) Tryz.func265 Tryz.call265 [] [] 2
def Qvm(x n:Int)(z:(Int)×(List Int)):Prop:=0<=z.1/\(z.2.length:Int)=z.1/\(z.1<=n\/z.1=0)
def Qg0(x n:Int)(z:(Int)×(List Int)):Nat:=(n-z.1).toNat
def Qip(x n:Int):Tree (List UInt8):=
.lp inferInstance (Qg0 x n (0,[])+1) ((rE (x:Int)/\rE (n:Int)/\True/\rE (0:Int)/\True)/\rE ([]:List Int)/\True) (0,[]) λ(v0:Int×List Int)=> .br (decide (v0.1<n)) (.cn (decide (0<=wrap u64 (wrap i64 (8*v0.1)))) (.cn (decide (1*(v0.2.length+1)<=140737488355328)) (.nx ((rE (x:Int)/\rE (n:Int)/\True/\rE ((wrap i64 (v0.1+1)):Int)/\True)/\rE ((v0.2++[wrap u8 (ishr u32 x (wrap u64 (wrap i64 (8*v0.1))))]):List Int)/\True) (Sum.inl (wrap i64 (v0.1+1),v0.2++[wrap u8 (ishr u32 x (wrap u64 (wrap i64 (8*v0.1))))]))))) (.lf (Sum.inr (bytesOf v0.2)))
def Zdu x n:=(Qip x n).m
def Qla(x n:Int):Prop:=
n<=1000000000000
theorem Zgy(x n:Int)(hw:Qla x n):(Qip x n).p:=by
 simp only[Qla]at hw
 unfold Tree.p Qip
 repeat'(first|refine w_lp (inv:=Qvm x n) (μ:=Qg0 x n) ?_ (cK _) (λ_ _=> ?_)|exact trivial|refine w_br (λ_=> ?_) (λ_=> ?_)|refine w_cn ?_ ?_|refine w_an ?_ ?_|refine w_lv (λ_ _=> ?_)|refine w_nx ?_|refine w_lf ?_|refine And.intro ?_ ?_)
 all_goals((try simp only[Qvm,Qg0]at*);exact fin0)
def Zjo:LInv:={
 α:=(Int)×(List Int)
 F:=λst a=>([(0,(lk st 0)),(1,(lk st 1)),(5, .all 0),(6, .int i64 a.1)],[⟨false,5,1, .ints u8 a.2⟩])
 a0:=λst=>((lk st 6).toInt,(Q5t st.rows (rN st 5)))
 ex0:=λst=>[]++[(rX st 5 0)]}
def Zdo:List (Nat×LInv):=[(3,Zjo)]
def Zpg:Q0d:=mkP 315 [] true [.one (.int .u32), .one (.int .i64)] [] (λa r=>Qla (argI a 0) (argI a 1)) (λa r=>Zdu (argI a 0) (argI a 1)) (λX=> .str X) (λX=>[])
theorem Zml:Q06 pG Zpg:=Q0p drawn Q0l (.nil) Tryz.func315 Tryz.call315 (λa r=>Qip (argI a 0) (argI a 1)) [] Zdo 3 (hp:=λa r h=>Zgy (argI a 0) (argI a 1) h)
def Qjo(m:List Int)(frame:Int)(z:(Int)×(List Int)):Nat:=(32-z.1).toNat
def Qac(m:List Int)(frame:Int):Tree ((List UInt8)×Bool):=
.br (decide (frame<0)) (.lf ([],false)) (.lv (Q40 m) λ(x0:Int)=> .br (decide (frame>=x0)) (.lf ([],false)) (.lp inferInstance (Qjo m frame (0,[])+1) ((((Els.Nil (Els.ints u32 m)\/rE (1:Nat))/\rE (m:List Int))/\rE (frame:Int)/\True/\rE (0:Int)/\True)/\rE ([]:List Int)/\True) (0,[]) λ(v0:Int×List Int)=> .br (decide (v0.1<32)) (.cn (bS 1 1&&bT 0 1&&decide (0<=wrap i64 (wrap i64 (frame*32)+v0.1)/\wrap i64 (wrap i64 (frame*32)+v0.1)<(m.length:Int))) (let E1:=m.getD (dC (wrap i64 (wrap i64 (frame*32)+v0.1))) 0; .an (Qla E1 4) (.lv (Zdu E1 4) λ(x1:List UInt8)=> .cn (decide (1*(v0.2.length+dH (Qcf x1))<=140737488355328)) (.nx ((((Els.Nil (Els.ints u32 m)\/rE (1:Nat))/\rE (m:List Int))/\rE (frame:Int)/\True/\rE ((wrap i64 (v0.1+1)):Int)/\True)/\rE ((v0.2++Qcf x1):List Int)/\True) (Sum.inl (wrap i64 (v0.1+1),v0.2++Qcf x1)))))) (.lf (Sum.inr (bytesOf v0.2,true)))))
def Qk3 m frame:=(Qac m frame).m
abbrev Qig m frame:=(Qac m frame).p
def Zid:LInv:={
 α:=(Int)×(List Int)
 F:=λst a=>([(0,(lk st 0)),(1,(lk st 1)),(6, .all 0),(7, .int i64 a.1)],[⟨false,5,1, .ints u8 a.2⟩])
 a0:=λst=>((lk st 7).toInt,(Q5t st.rows (rN st 6)))
 ex0:=λst=>[]++[(rX st 6 0)]}
def Z7m:List (Nat×LInv):=[(5,Zid)]
def Zkz:Q0d:=mT 304 [] true [.one (.ints .u32), .one (.int .i64)] [] (λa r=>Qac (argL .u32 a 0) (argI a 1)) (λX=> .tup [.str (X.1), .bool (X.2)]) (λX=>[])
theorem Z0h:Q06 pG Zkz:=oT (.cons Qe6 (.cons Zml (.nil))) Tryz.func304 Tryz.call304 [] Z7m 3
def Qsn(d0:Q0g)(at0:Int):Tree (Q03×Bool):=
.br (d0.C1 !=1) (.lf ({B5:=0,At:=0,C2:=0,C8:=[]},false)) (.br (d0.D8==1) (.lf ({B5:=3,At:=at0,C2:=d0.B7,C8:=[]},true)) (.br (d0.D8==2) (.lf ({B5:=4,At:=at0,C2:=d0.B7,C8:=d0.C4},true)) (.lf ({B5:=0,At:=0,C2:=0,C8:=[]},false))))
def Qku d0 at0:=(Qsn d0 at0).m
def Z88:Q0d:=mS 305 [] true [.agg Q0g.sig, .one (.int .u64)] [] (λa r=>Qsn (Q0g.of (aC a 0)) (argI a 1)) (λX=> .tup [.agg (Q03.cells (X.1)), .bool (X.2)]) (λX=>[])
theorem Z5:Q06 pG Z88:=oS (.nil) Tryz.func305 Tryz.call305 [] [] 2
def Q9a(d0:Q0g)(m:List Int)(port v at0:Int):Tree (Q0g×(List Q03)):=
.br (port==4) (.lf ({Blocks:=d0.Blocks,C2:=v,Frame:=d0.Frame,C1:=d0.C1,D8:=d0.D8,B7:=d0.B7,B4:=d0.B4,C4:=d0.C4},[])) (.br (port==5) (.lf ({Blocks:=d0.Blocks,C2:=d0.C2,Frame:=v,C1:=d0.C1,D8:=d0.D8,B7:=d0.B7,B4:=d0.B4,C4:=d0.C4},[])) (.br (port !=6) (.lf (d0,[])) (let T1:Tree ((Q0g×(List Q03))):= .br (d0.C1==0) (let T2:Tree ((Q0g×(List Q03))):= .lf ({Blocks:=d0.Blocks,C2:=d0.C2,Frame:=d0.Frame,C1:=3,D8:=d0.D8,B7:=d0.B7,B4:=d0.B4,C4:=d0.C4},[]); .br (decide (d0.C2>=d0.Blocks)) T2 (.lv (Q2a m d0.Frame) λ(x0:Bool)=> .br (!x0) T2 (.br (v==2) (.an (Qig m (wrap i64 d0.Frame)) (.lv (Qk3 m (wrap i64 d0.Frame)) λ(x1:List UInt8×Bool)=>let E4:=({Blocks:=d0.Blocks,C2:=d0.C2,Frame:=d0.Frame,C1:=1,D8:=wrap i64 v,B7:=d0.C2,B4:=d0.Frame,C4:=x1.1}:Q0g); .lv (Qku E4 at0) λ(x2:Q03×Bool)=> .lf (E4,[x2.1]))) (let E5:=({Blocks:=d0.Blocks,C2:=d0.C2,Frame:=d0.Frame,C1:=1,D8:=wrap i64 v,B7:=d0.C2,B4:=d0.Frame,C4:=[]}:Q0g); .lv (Qku E5 at0) λ(x3:Q03×Bool)=> .lf (E5,[x3.1]))))) (.lf (d0,[])); .br (v==0) (let T3:Tree ((Q0g×(List Q03))):= .lf ({Blocks:=d0.Blocks,C2:=d0.C2,Frame:=d0.Frame,C1:=0,D8:=d0.D8,B7:=d0.B7,B4:=d0.B4,C4:=d0.C4},[]); .br (d0.C1==2) T3 (.br (d0.C1==3) T3 (.br (v==1) T1 (.br (v==2) T1 (.lf (d0,[])))))) (.br (v==1) T1 (.br (v==2) T1 (.lf (d0,[])))))))
def Qgu d0 m port v at0:=(Q9a d0 m port v at0).m
abbrev Qhf d0 m port v at0:=(Q9a d0 m port v at0).p
def Z7y:Q0d:=mT 266 [] true [.agg Q0g.sig, .one (.ints .u32), .one (.int .i64), .one (.int .u32), .one (.int .u64)] [] (λa r=>Q9a (Q0g.of (aC a 0)) (argL .u32 a 1) (argI a 2) (argI a 3) (argI a 4)) (λX=> .tup [.agg (Q0g.cells (X.1)), .sl 4 (.recs .apiOutput (X.2)) true]) (λX=>[])
theorem Qqi:Q06 pG Z7y:=oT (.cons Qgt (.cons Z0h (.cons Z5 (.nil)))) Tryz.func266 Tryz.call266 [.sl (.recs .apiOutput) true] [] 2
def Qbd(n:Q0r)(m:List Int)(port v at0:Int):Tree (Q0r×(List Q03)):=
.br (port==7) (.lf ({Frame:=v,E0:=n.E0,C6:=n.C6,B9:=n.B9,B8:=n.B8,F1:=n.F1},[])) (.br (port==8) (.lf ({Frame:=n.Frame,E0:=v,C6:=n.C6,B9:=n.B9,B8:=n.B8,F1:=n.F1},[])) (.br (port !=9) (.lf (n,[])) (.br (v==0) (.lf ({Frame:=n.Frame,E0:=n.E0,C6:=n.C6,B9:=n.B9,B8:=false,F1:=0},[])) (let T1:Tree ((Q0r×(List Q03))):= .br (v==2) (.lv (Q2a m n.Frame) λ(x2:Bool)=> .br x2 (.br (!n.C6) (.br (!n.B8) (.lf ({Frame:=n.Frame,E0:=n.E0,C6:=true,B9:=n.Frame,B8:=n.B8,F1:=n.F1},[])) (.lf (n,[]))) (.lf (n,[]))) (.lf (n,[]))) (.lf (n,[])); .br (v==1) (.br (decide (n.E0>=1)) (.br (decide (n.E0<=128)) (.lv (Q2a m n.Frame) λ(x0:Bool)=> .br x0 (.an (Qig m (wrap i64 n.Frame)) (.lv (Qk3 m (wrap i64 n.Frame)) λ(x1:List UInt8×Bool)=> .cn (decide ((0:Int)<=(0:Int)/\0<=n.E0/\n.E0<=(x1.1.length:Int))) (.lf (n,[{B5:=2,At:=at0,C2:=0,C8:=cY (dC n.E0-dC 0) (cZ (dC 0) x1.1)}])))) T1) T1) T1) T1))))
def Qjd n m port v at0:=(Qbd n m port v at0).m
abbrev Qjz n m port v at0:=(Qbd n m port v at0).p
def Zd4:Q0d:=mT 267 [] true [.agg Q0r.sig, .one (.ints .u32), .one (.int .i64), .one (.int .u32), .one (.int .u64)] [] (λa r=>Qbd (Q0r.of (aC a 0)) (argL .u32 a 1) (argI a 2) (argI a 3) (argI a 4)) (λX=> .tup [.agg (Q0r.cells (X.1)), .sl 4 (.recs .apiOutput (X.2)) true]) (λX=>[])
theorem Qsm:Q06 pG Zd4:=oT (.cons Qgt (.cons Z0h (.nil))) Tryz.func267 Tryz.call267 [.sl (.recs .apiOutput) true] [] 2
def Qjw(b:Q08)(m:List Int)(port v:Int)(z:(Int)×(List Int)):Nat:=(32-z.1).toNat
def Q50(b:Q08)(m:List Int)(port v:Int):Tree (Q08×(List Int)):=
let T1:Tree ((Q08×(List Int))):= .br (port==11) (.br (decide (v<32)) (.cn (decide (0<=v)) (.lf ({D0:=b.D0,C3:=Qie u32 b.C3 (ishl u32 1 v)},m))) (.lf (b,m))) (.lf (b,m)); .br (port==10) (.lv (Q2a m v) λ(x0:Bool)=> .br x0 (.cn (decide (0<=v)) (.br (iand u32 (ishr u32 b.C3 v) (1:Int)==(0:Int)) (.cn (decide (0<=v)) (.lp inferInstance (Qjw b m port v (0,m)+1) ((True/\rE (v:Int)/\rZ/\rZ/\rE (0:Int)/\True)/\rE (m:List Int)/\(rE b.D0/\rE ((ior u32 b.C3 (ishl u32 1 v)):Int)/\True)/\(rE (0:Int)/\rE (0:Int)/\True)/\True) (0,m) λ(v0:Int×List Int)=> .br (decide (v0.1<32)) (let E2:=wrap i64 (wrap i64 v*32)+v0.1; .cn (bS 1 1&&bT 0 1&&decide (0<=wrap i64 E2/\wrap i64 E2<(v0.2.length:Int))) (.nx ((True/\rE (v:Int)/\rZ/\rZ/\rE ((wrap i64 (v0.1+1)):Int)/\True)/\rE ((dD v0.2 (dC (wrap i64 (wrap i64 (wrap i64 v*32)+v0.1))) 0):List Int)/\(rE b.D0/\rE ((ior u32 b.C3 (ishl u32 1 v)):Int)/\True)/\(rE (0:Int)/\rE (0:Int)/\True)/\True) (Sum.inl (wrap i64 (v0.1+1),dD v0.2 (dC (wrap i64 E2)) 0)))) (.lf (Sum.inr ({D0:=b.D0,C3:=ior u32 b.C3 (ishl u32 1 v)},v0.2))))) T1)) T1) T1
def Q76 b m port v:=(Q50 b m port v).m
abbrev Qnd b m port v:=(Q50 b m port v).p
def Zfa:LInv:={
 α:=(Int)×(List Int)
 F:=λst a=>([(1, .all 0),(3,(lk st 3)),(4, .ptr 1 0 0),(8, .ptr 2 0 0),(9, .int i64 a.1)],[⟨false,25,1, .ints u32 a.2⟩,⟨true,40,2, .gen [[(cT st 4 0),(cT st 4 1)]]⟩,⟨true,40,2, .gen [[(cT st 8 0),(cT st 8 1)]]⟩])
 a0:=λst=>((lk st 9).toInt,(Q5t st.rows 0))
 ex0:=λst=>[0]++[(rX st 4 1),(rX st 8 2)]}
def Z7i:List (Nat×LInv):=[(4,Zfa)]
def Zkx:Q0d:=mT 268 [false,true,false,false] true [.agg Q08.sig, .one (.row 0), .one (.int .i64), .one (.int .u32)] [.arr 25 1 (.ints .u32)] (λa r=>Q50 (Q08.of (aC a 0)) (rowL .u32 r 0) (argI a 2) (argI a 3)) (λX=> .agg (Q08.cells (X.1))) (λX=>[⟨false,25,1, .ints .u32 (X.2)⟩])
theorem Z0e:Q06 pG Zkx:=oT (.cons Qgt (.nil)) Tryz.func268 Tryz.call268 [] Z7i 3
def Qfi(m:Q00)(port v:Int):Tree ((List Q03)×Q00):=
.br (port==0) (.lf ([{B5:=1,At:=m.A1,C2:=0,C8:=[(λ(n:Int)=>eU n.toNat) (wrap u8 v)]}],m)) (.br (decide (port<=2)) (.lf ([],m)) (.br (port==3) (.lv (Qum v) λ(x0:Q0j)=> .lf ([],{B2:=m.B2,Mem:=m.Mem,A6:=m.A6,B0:=x0,B1:=m.B1,C5:=m.C5,A4:=m.A4,A1:=m.A1,A7:=m.A7,A9:=m.A9})) (.br (decide (port<=6)) (.an (Qhf m.B1 m.Mem port v m.A1) (.lv (Qgu m.B1 m.Mem port v m.A1) λ(x1:Q0g×List Q03)=> .lf (x1.2,{B2:=m.B2,Mem:=m.Mem,A6:=m.A6,B0:=m.B0,B1:=x1.1,C5:=m.C5,A4:=m.A4,A1:=m.A1,A7:=m.A7,A9:=m.A9}))) (.br (decide (port<=9)) (.an (Qjz m.C5 m.Mem port v m.A1) (.lv (Qjd m.C5 m.Mem port v m.A1) λ(x2:Q0r×List Q03)=> .lf (x2.2,{B2:=m.B2,Mem:=m.Mem,A6:=m.A6,B0:=m.B0,B1:=m.B1,C5:=x2.1,A4:=m.A4,A1:=m.A1,A7:=m.A7,A9:=m.A9}))) (.an (Qnd m.A4 m.Mem port v) (.lv (Q76 m.A4 m.Mem port v) λ(x3:Q08×List Int)=> .lf ([],{B2:=m.B2,Mem:=x3.2,A6:=m.A6,B0:=m.B0,B1:=m.B1,C5:=m.C5,A4:=x3.1,A1:=m.A1,A7:=m.A7,A9:=m.A9})))))))
def Qb8 m port v:=(Qfi m port v).m
abbrev Z0k m port v:=(Qfi m port v).p
def Zoy:Q0d:=mT 220 [true,false,false] true [.ptr 0, .one (.int .i64), .one (.int .u32)] [.box 43 49 (Q00.sigW (.row 1)), .arr 25 1 (.ints .u32)] (λa r=>Qfi (Q00.ofW (r.getD 0 default).cs (rowL .u32 r 1)) (argI a 1) (argI a 2)) (λX=> .sl 4 (.recs .apiOutput (X.1)) true) (λX=>[⟨true,43,49, .gen [(Q00.cellsW (X.2) (.all 1))]⟩,⟨false,25,1, .ints .u32 (X.2).Mem⟩])
theorem Zl:Q06 pG Zoy:=oT (.cons Z5b (.cons Qqi (.cons Qsm (.cons Z0e (.nil))))) Tryz.func220 Tryz.call220 [.sl (.recs .apiOutput) true, .row 25 1 (.ints .u32)] [] 2
def Q98(m:Q00)(clock:Int):Tree ((List Q03)×Q00):=
.an (Q7r m) (.lv (Q0q m) λ(x0:Q05)=> .an (Qts x0 m.Mem) (.lv (Q7v x0 m.Mem) λ(x1:Q05×Q17×List Int)=>let E1:=({B2:=x1.1,Mem:=x1.2.2,A6:=m.A6,B0:=m.B0,B1:=m.B1,C5:=m.C5,A4:=m.A4,A1:=m.A1,A7:=false,A9:=m.A9}:Q00); .br (x1.2.1.B5==1) (.lv (Qet E1 x1.2.1.D1 clock) λ(x2:Int×Q00)=> .an (Q34 x2.2.B2 x1.2.1.D9 x2.1) (.lv (Q20 x2.2.B2 x1.2.1.D9 x2.1) λ(x3:Q05)=> .lf ([],{B2:=x3,Mem:=x2.2.Mem,A6:=x2.2.A6,B0:=x2.2.B0,B1:=x2.2.B1,C5:=x2.2.C5,A4:=x2.2.A4,A1:=wrap u64 (x2.2.A1+1),A7:=x2.2.A7,A9:=x2.2.A9}))) (.br (x1.2.1.B5==2) (.an (Z0k E1 x1.2.1.D1 x1.2.1.Value) (.lv (Qb8 E1 x1.2.1.D1 x1.2.1.Value) λ(x4:List Q03×Q00)=> .lf (x4.1,{B2:=x4.2.B2,Mem:=x4.2.Mem,A6:=x4.2.A6,B0:=x4.2.B0,B1:=x4.2.B1,C5:=x4.2.C5,A4:=x4.2.A4,A1:=wrap u64 (x4.2.A1+1),A7:=x4.2.A7,A9:=x4.2.A9}))) (.br (x1.2.1.B5==3) (.lf ([],{B2:=x1.1,Mem:=x1.2.2,A6:=m.A6,B0:=m.B0,B1:=m.B1,C5:=m.C5,A4:=m.A4,A1:=wrap u64 (m.A1+1),A7:=true,A9:=m.A9})) (.br (x1.2.1.B5==4) (.lf ([],{B2:=x1.1,Mem:=x1.2.2,A6:=m.A6,B0:=m.B0,B1:=m.B1,C5:=m.C5,A4:=m.A4,A1:=wrap u64 (m.A1+1),A7:=false,A9:=true})) (.lf ([],{B2:=x1.1,Mem:=x1.2.2,A6:=m.A6,B0:=m.B0,B1:=m.B1,C5:=m.C5,A4:=m.A4,A1:=wrap u64 (m.A1+1),A7:=false,A9:=m.A9})))))))
def Q0k m clock:=(Q98 m clock).m
abbrev Qor m clock:=(Q98 m clock).p
def Z7j:Q0d:=mT 160 [true,false] true [.ptr 0, .one (.int .u32)] [.box 43 49 (Q00.sigW (.row 1)), .arr 25 1 (.ints .u32)] (λa r=>Q98 (Q00.ofW (r.getD 0 default).cs (rowL .u32 r 1)) (argI a 1)) (λX=> .sl 4 (.recs .apiOutput (X.1)) true) (λX=>[⟨true,43,49, .gen [(Q00.cellsW (X.2) (.all 1))]⟩,⟨false,25,1, .ints .u32 (X.2).Mem⟩])
theorem Z5n:Q06 pG Z7j:=oT (.cons Qd1 (.cons Zaq (.cons Zqp (.cons Qfh (.cons Zl (.nil)))))) Tryz.func160 Tryz.call160 [.sl (.recs .apiOutput) true, .row 25 1 (.ints .u32)] [] 2
end
noncomputable section
instance sumInhZg {α β:Type} [Inhabited β]:Inhabited (α⊕β):=⟨.inr default⟩
def Qkq(m:Q01)(port clock:Int):Tree (Int×Q01):=
.br (decide (port<=1)) (.lv (Q5r m.A0.A6 port) λ(x0:Q0c×Int)=> .lf (x0.2,{A0:={B2:=m.A0.B2,Mem:=m.A0.Mem,A6:=x0.1,B0:=m.A0.B0,B1:=m.A0.B1,C5:=m.A0.C5,A4:=m.A0.A4,A1:=m.A0.A1,A7:=m.A0.A7,A9:=m.A0.A9},A3:=m.A3,B3:=m.B3,A2:=m.A2})) (.br (port==2) (.lf (clock,m)) (.br (port==3) (.lv (Qh9 m.A0.B0) λ(x1:Int)=> .lf (x1,m)) (.br (decide (port<=6)) (.lv (Qj0 m.A0.B1 port) λ(x2:Int)=> .lf (x2,m)) (.br (decide (port<=9)) (.lv (Qiq m.A0.C5 port) λ(x3:Int)=> .lf (x3,m)) (.lv (Q5q m.A0.A4 port) λ(x4:Int)=> .lf (x4,m))))))
def Quq m port clock:=(Qkq m port clock).m
def Zky:Q0d:=mS 218 [true,false,false] true [.ptr 0, .one (.int .i64), .one (.int .u32)] [.box 96 52 (Q01.sigW (.row 1) (.row 2) (.row 3)), .arr 25 1 (.ints .u32), .arr 126 4 (.recs .apiEntry), .arr 66 3 (.recs .apiEvent)] (λa r=>Qkq (Q01.ofW (r.getD 0 default).cs (rowL .u32 r 1) (rowR .apiEntry r 2) (rowR .apiEvent r 3)) (argI a 1) (argI a 2)) (λX=> .int .u32 (X.1)) (λX=>[⟨true,96,52, .gen [(Q01.cellsW (X.2) (.all 1) (.all 2) (.all 3))]⟩,⟨false,25,1, .ints .u32 (X.2).A0.Mem⟩,⟨false,126,4, .recs .apiEntry (X.2).B3⟩,⟨false,66,3, .recs .apiEvent (X.2).A2⟩])
theorem Zi8:Q06 pG Zky:=oS (.cons Qma (.cons Qps (.cons Qs2 (.cons Qwb (.cons Qn1 (.nil)))))) Tryz.func218 Tryz.call218 [.row 25 1 (.ints .u32), .row 126 4 (.recs .apiEntry), .row 66 3 (.recs .apiEvent)] [] 2
def Qdp(m:Q01)(port v:Int):Tree ((List Q03)×Q01):=
.br (port==0) (.lf ([{B5:=1,At:=m.A0.A1,C2:=0,C8:=[(λ(n:Int)=>eU n.toNat) (wrap u8 v)]}],m)) (.br (decide (port<=2)) (.lf ([],m)) (.br (port==3) (.lv (Qum v) λ(x0:Q0j)=> .lf ([],{A0:={B2:=m.A0.B2,Mem:=m.A0.Mem,A6:=m.A0.A6,B0:=x0,B1:=m.A0.B1,C5:=m.A0.C5,A4:=m.A0.A4,A1:=m.A0.A1,A7:=m.A0.A7,A9:=m.A0.A9},A3:=m.A3,B3:=m.B3,A2:=m.A2})) (.br (decide (port<=6)) (.an (Qhf m.A0.B1 m.A0.Mem port v m.A0.A1) (.lv (Qgu m.A0.B1 m.A0.Mem port v m.A0.A1) λ(x1:Q0g×List Q03)=> .lf (x1.2,{A0:={B2:=m.A0.B2,Mem:=m.A0.Mem,A6:=m.A0.A6,B0:=m.A0.B0,B1:=x1.1,C5:=m.A0.C5,A4:=m.A0.A4,A1:=m.A0.A1,A7:=m.A0.A7,A9:=m.A0.A9},A3:=m.A3,B3:=m.B3,A2:=m.A2}))) (.br (decide (port<=9)) (.an (Qjz m.A0.C5 m.A0.Mem port v m.A0.A1) (.lv (Qjd m.A0.C5 m.A0.Mem port v m.A0.A1) λ(x2:Q0r×List Q03)=> .lf (x2.2,{A0:={B2:=m.A0.B2,Mem:=m.A0.Mem,A6:=m.A0.A6,B0:=m.A0.B0,B1:=m.A0.B1,C5:=x2.1,A4:=m.A0.A4,A1:=m.A0.A1,A7:=m.A0.A7,A9:=m.A0.A9},A3:=m.A3,B3:=m.B3,A2:=m.A2}))) (.an (Qnd m.A0.A4 m.A0.Mem port v) (.lv (Q76 m.A0.A4 m.A0.Mem port v) λ(x3:Q08×List Int)=> .lf ([],{A0:={B2:=m.A0.B2,Mem:=x3.2,A6:=m.A0.A6,B0:=m.A0.B0,B1:=m.A0.B1,C5:=m.A0.C5,A4:=x3.1,A1:=m.A0.A1,A7:=m.A0.A7,A9:=m.A0.A9},A3:=m.A3,B3:=m.B3,A2:=m.A2})))))))
def Qrk m port v:=(Qdp m port v).m
abbrev Qss m port v:=(Qdp m port v).p
def Zfe:Q0d:=mT 220 [true,false,false] true [.ptr 0, .one (.int .i64), .one (.int .u32)] [.box 96 52 (Q01.sigW (.row 1) (.row 2) (.row 3)), .arr 25 1 (.ints .u32), .arr 126 4 (.recs .apiEntry), .arr 66 3 (.recs .apiEvent)] (λa r=>Qdp (Q01.ofW (r.getD 0 default).cs (rowL .u32 r 1) (rowR .apiEntry r 2) (rowR .apiEvent r 3)) (argI a 1) (argI a 2)) (λX=> .sl 4 (.recs .apiOutput (X.1)) true) (λX=>[⟨true,96,52, .gen [(Q01.cellsW (X.2) (.all 1) (.all 2) (.all 3))]⟩,⟨false,25,1, .ints .u32 (X.2).A0.Mem⟩,⟨false,126,4, .recs .apiEntry (X.2).B3⟩,⟨false,66,3, .recs .apiEvent (X.2).A2⟩])
theorem Zds:Q06 pG Zfe:=oT (.cons Z5b (.cons Qqi (.cons Qsm (.cons Z0e (.nil))))) Tryz.func220 Tryz.call220 [.sl (.recs .apiOutput) true, .row 25 1 (.ints .u32), .row 126 4 (.recs .apiEntry), .row 66 3 (.recs .apiEvent)] [] 2
def Q6o(m:Q01)(clock:Int):Tree ((List Q03)×Q01):=
.an (Q7r m.A0) (.lv (Q0q m.A0) λ(x0:Q05)=> .an (Qts x0 m.A0.Mem) (.lv (Q7v x0 m.A0.Mem) λ(x1:Q05×Q17×List Int)=>let E1:=({B2:=x1.1,Mem:=x1.2.2,A6:=m.A0.A6,B0:=m.A0.B0,B1:=m.A0.B1,C5:=m.A0.C5,A4:=m.A0.A4,A1:=m.A0.A1,A7:=false,A9:=m.A0.A9}:Q00); .br (x1.2.1.B5==1) (.lv (Quq {A0:=E1,A3:=m.A3,B3:=m.B3,A2:=m.A2} x1.2.1.D1 clock) λ(x2:Int×Q01)=> .an (Q34 x2.2.A0.B2 x1.2.1.D9 x2.1) (.lv (Q20 x2.2.A0.B2 x1.2.1.D9 x2.1) λ(x3:Q05)=> .lf ([],{A0:={B2:=x3,Mem:=x2.2.A0.Mem,A6:=x2.2.A0.A6,B0:=x2.2.A0.B0,B1:=x2.2.A0.B1,C5:=x2.2.A0.C5,A4:=x2.2.A0.A4,A1:=wrap u64 (x2.2.A0.A1+1),A7:=x2.2.A0.A7,A9:=x2.2.A0.A9},A3:=x2.2.A3,B3:=x2.2.B3,A2:=x2.2.A2}))) (.br (x1.2.1.B5==2) (.an (Qss {A0:=E1,A3:=m.A3,B3:=m.B3,A2:=m.A2} x1.2.1.D1 x1.2.1.Value) (.lv (Qrk {A0:=E1,A3:=m.A3,B3:=m.B3,A2:=m.A2} x1.2.1.D1 x1.2.1.Value) λ(x4:List Q03×Q01)=> .lf (x4.1,{A0:={B2:=x4.2.A0.B2,Mem:=x4.2.A0.Mem,A6:=x4.2.A0.A6,B0:=x4.2.A0.B0,B1:=x4.2.A0.B1,C5:=x4.2.A0.C5,A4:=x4.2.A0.A4,A1:=wrap u64 (x4.2.A0.A1+1),A7:=x4.2.A0.A7,A9:=x4.2.A0.A9},A3:=x4.2.A3,B3:=x4.2.B3,A2:=x4.2.A2}))) (.br (x1.2.1.B5==3) (.lf ([],{A0:={B2:=x1.1,Mem:=x1.2.2,A6:=m.A0.A6,B0:=m.A0.B0,B1:=m.A0.B1,C5:=m.A0.C5,A4:=m.A0.A4,A1:=wrap u64 (m.A0.A1+1),A7:=true,A9:=m.A0.A9},A3:=m.A3,B3:=m.B3,A2:=m.A2})) (.br (x1.2.1.B5==4) (.lf ([],{A0:={B2:=x1.1,Mem:=x1.2.2,A6:=m.A0.A6,B0:=m.A0.B0,B1:=m.A0.B1,C5:=m.A0.C5,A4:=m.A0.A4,A1:=wrap u64 (m.A0.A1+1),A7:=false,A9:=true},A3:=m.A3,B3:=m.B3,A2:=m.A2})) (.lf ([],{A0:={B2:=x1.1,Mem:=x1.2.2,A6:=m.A0.A6,B0:=m.A0.B0,B1:=m.A0.B1,C5:=m.A0.C5,A4:=m.A0.A4,A1:=wrap u64 (m.A0.A1+1),A7:=false,A9:=m.A0.A9},A3:=m.A3,B3:=m.B3,A2:=m.A2})))))))
def Q7h m clock:=(Q6o m clock).m
abbrev Q6q m clock:=(Q6o m clock).p
def Z23:Q0d:=mT 160 [true,false] true [.ptr 0, .one (.int .u32)] [.box 96 52 (Q01.sigW (.row 1) (.row 2) (.row 3)), .arr 25 1 (.ints .u32), .arr 126 4 (.recs .apiEntry), .arr 66 3 (.recs .apiEvent)] (λa r=>Q6o (Q01.ofW (r.getD 0 default).cs (rowL .u32 r 1) (rowR .apiEntry r 2) (rowR .apiEvent r 3)) (argI a 1)) (λX=> .sl 4 (.recs .apiOutput (X.1)) true) (λX=>[⟨true,96,52, .gen [(Q01.cellsW (X.2) (.all 1) (.all 2) (.all 3))]⟩,⟨false,25,1, .ints .u32 (X.2).A0.Mem⟩,⟨false,126,4, .recs .apiEntry (X.2).B3⟩,⟨false,66,3, .recs .apiEvent (X.2).A2⟩])
theorem Qyu:Q06 pG Z23:=oT (.cons Qd1 (.cons Zaq (.cons Zi8 (.cons Qfh (.cons Zds (.nil)))))) Tryz.func160 Tryz.call160 [.sl (.recs .apiOutput) true, .row 25 1 (.ints .u32), .row 126 4 (.recs .apiEntry), .row 66 3 (.recs .apiEvent)] [] 2
def Qcw(r:Q01)(steps clock:Int)(z:(Int)×Q01):Nat:=(z.2.A2.length-z.1).toNat
def Q64(r:Q01)(steps clock:Int)(v0:Int×Q01)(z:(Int)×Q01×(List Q03)):Nat:=(4000-z.1).toNat
def Q5y(r:Q01)(steps clock:Int):Tree (Q01×(List Q03)):=
.an (Qo5 r) (.lv (Qpj r) λ(x0:Q01)=> .lv (Q5e x0.A0) λ(x1:Bool)=> .br (!x1) (.lf (x0,[])) (.lp inferInstance (Qcw r steps clock (0,{A0:=x0.A0,A3:=if clock>x0.A3 then clock else x0.A3,B3:=x0.B3,A2:=x0.A2})+1) ((rE (steps:Int)/\rZ/\rZ/\rE (0:Int)/\True)/\(mE x0.A0 True (rE ((if clock>x0.A3 then clock else x0.A3):Int)/\True/\True/\True))/\rE x0.A0.Mem/\rE x0.B3/\rE x0.A2/\(mE zM True (rE (0:Int)/\True/\True/\True))/\True) (0,{A0:=x0.A0,A3:=if clock>x0.A3 then clock else x0.A3,B3:=x0.B3,A2:=x0.A2}) λ(v0:Int×Q01)=> .br (decide (v0.1<(v0.2.A2.length:Int))) (.cn (bS 3 3&&bT 0 3&&decide (0<=v0.1/\v0.1<(v0.2.A2.length:Int))) (let E2:=v0.2.A2.getD v0.1.toNat (RK.dflt RK.apiEvent); .an (Qk1 v0.2 E2) (.lv (Qj3 v0.2 E2) λ(x2:Q01)=> .nx ((rE (steps:Int)/\rZ/\rZ/\rE ((wrap i64 (v0.1+1)):Int)/\True)/\(mE x2.A0 True (rE x2.A3/\True/\True/\True))/\rE x2.A0.Mem/\rE x2.B3/\rE x2.A2/\(mE zM True (rE (0:Int)/\True/\True/\True))/\True) (Sum.inl (wrap i64 (v0.1+1),x2))))) (.lp inferInstance (Q64 r steps clock v0 (0,{A0:=v0.2.A0,A3:=v0.2.A3,B3:=v0.2.B3,A2:=[]},[])+1) ((rE (steps:Int)/\rZ/\rZ/\True/\rE (0:Int)/\True)/\(mE v0.2.A0 True (rE v0.2.A3/\True/\True/\True))/\rE v0.2.A0.Mem/\rE v0.2.B3/\rE ([]:List (RK.T RK.apiEvent))/\(mE zM True (rE (0:Int)/\True/\True/\True))/\rE ([]:List (RK.T RK.apiOutput))/\True) (0,{A0:=v0.2.A0,A3:=v0.2.A3,B3:=v0.2.B3,A2:=[]},[]) λ(v1:Int×Q01×List Q03)=> .lv (Q0i steps) λ(x3:Int)=> .br (decide (v1.1<x3)) (.lv (Q74 v1.2.1.A0.B0 v1.2.1.A3) λ(x4:Bool)=> .br x4 (.an (Qk1 v1.2.1 {B5:=2,N:=0,C8:=[]}) (.lv (Qj3 v1.2.1 {B5:=2,N:=0,C8:=[]}) λ(x5:Q01)=> .an (Qg3 x5.A0) (.lv (Q0s x5.A0) λ(x6:Bool)=> .br x6 (.lf (Sum.inr (Sum.inr (x5,v1.2.2)))) (.an (Qcs x5.A0) (.lv (Q0h x5.A0) λ(x7:Bool)=> .br x7 (.cn (decide (40*(x5.B3.length+1)<=140737488355328)) (let E3:=({At:=x5.A0.A1,C0:={B5:=1,N:=x5.A3,C8:=[]}}:Q0f); .an (Q6q {A0:=x5.A0,A3:=x5.A3,B3:=x5.B3++[E3],A2:=x5.A2} x5.A3) (.lv (Q7h {A0:=x5.A0,A3:=x5.A3,B3:=x5.B3++[E3],A2:=x5.A2} x5.A3) λ(x8:List Q03×Q01)=> .cn (decide (40*(v1.2.2.length+x8.1.length)<=140737488355328)) (.nx ((rE (steps:Int)/\rZ/\rZ/\True/\rE ((wrap i64 (v1.1+1)):Int)/\True)/\(mE x8.2.A0 True (rE ((wrap u32 (x8.2.A3+1)):Int)/\True/\True/\True))/\rE x8.2.A0.Mem/\rE x8.2.B3/\rE x8.2.A2/\(mE zM True (rE (0:Int)/\True/\True/\True))/\rE ((v1.2.2++x8.1):List (RK.T RK.apiOutput))/\True) (Sum.inl (wrap i64 (v1.1+1),{A0:=x8.2.A0,A3:=wrap u32 (x8.2.A3+1),B3:=x8.2.B3,A2:=x8.2.A2},v1.2.2++x8.1)))))) (.an (Q6q x5 x5.A3) (.lv (Q7h x5 x5.A3) λ(x9:List Q03×Q01)=> .cn (decide (40*(v1.2.2.length+x9.1.length)<=140737488355328)) (.nx ((rE (steps:Int)/\rZ/\rZ/\True/\rE ((wrap i64 (v1.1+1)):Int)/\True)/\(mE x9.2.A0 True (rE ((wrap u32 (x9.2.A3+1)):Int)/\True/\True/\True))/\rE x9.2.A0.Mem/\rE x9.2.B3/\rE x9.2.A2/\(mE zM True (rE (0:Int)/\True/\True/\True))/\rE ((v1.2.2++x9.1):List (RK.T RK.apiOutput))/\True) (Sum.inl (wrap i64 (v1.1+1),{A0:=x9.2.A0,A3:=wrap u32 (x9.2.A3+1),B3:=x9.2.B3,A2:=x9.2.A2},v1.2.2++x9.1)))))))))) (.an (Qg3 v1.2.1.A0) (.lv (Q0s v1.2.1.A0) λ(x10:Bool)=> .br x10 (.lf (Sum.inr (Sum.inr (v1.2.1,v1.2.2)))) (.an (Qcs v1.2.1.A0) (.lv (Q0h v1.2.1.A0) λ(x11:Bool)=> .br x11 (.cn (decide (40*(v1.2.1.B3.length+1)<=140737488355328)) (let E1:=({At:=v1.2.1.A0.A1,C0:={B5:=1,N:=v1.2.1.A3,C8:=[]}}:Q0f); .an (Q6q {A0:=v1.2.1.A0,A3:=v1.2.1.A3,B3:=v1.2.1.B3++[E1],A2:=v1.2.1.A2} v1.2.1.A3) (.lv (Q7h {A0:=v1.2.1.A0,A3:=v1.2.1.A3,B3:=v1.2.1.B3++[E1],A2:=v1.2.1.A2} v1.2.1.A3) λ(x12:List Q03×Q01)=> .cn (decide (40*(v1.2.2.length+x12.1.length)<=140737488355328)) (.nx ((rE (steps:Int)/\rZ/\rZ/\True/\rE ((wrap i64 (v1.1+1)):Int)/\True)/\(mE x12.2.A0 True (rE ((wrap u32 (x12.2.A3+1)):Int)/\True/\True/\True))/\rE x12.2.A0.Mem/\rE x12.2.B3/\rE x12.2.A2/\(mE zM True (rE (0:Int)/\True/\True/\True))/\rE ((v1.2.2++x12.1):List (RK.T RK.apiOutput))/\True) (Sum.inl (wrap i64 (v1.1+1),{A0:=x12.2.A0,A3:=wrap u32 (x12.2.A3+1),B3:=x12.2.B3,A2:=x12.2.A2},v1.2.2++x12.1)))))) (.an (Q6q v1.2.1 v1.2.1.A3) (.lv (Q7h v1.2.1 v1.2.1.A3) λ(x13:List Q03×Q01)=> .cn (decide (40*(v1.2.2.length+x13.1.length)<=140737488355328)) (.nx ((rE (steps:Int)/\rZ/\rZ/\True/\rE ((wrap i64 (v1.1+1)):Int)/\True)/\(mE x13.2.A0 True (rE ((wrap u32 (x13.2.A3+1)):Int)/\True/\True/\True))/\rE x13.2.A0.Mem/\rE x13.2.B3/\rE x13.2.A2/\(mE zM True (rE (0:Int)/\True/\True/\True))/\rE ((v1.2.2++x13.1):List (RK.T RK.apiOutput))/\True) (Sum.inl (wrap i64 (v1.1+1),{A0:=x13.2.A0,A3:=wrap u32 (x13.2.A3+1),B3:=x13.2.B3,A2:=x13.2.A2},v1.2.2++x13.1)))))))))) (.lf (Sum.inr (Sum.inr (v1.2.1,v1.2.2)))))))
def Qe4 r steps clock:=(Q5y r steps clock).m
abbrev Qmh r steps clock:=(Q5y r steps clock).p
def Z1m:LInv:={
 α:=(Int)×Q01
 F:=λst a=>([(1,(lk st 1)),(3, .ptr 0 0 0),(6, .ptr 4 0 0),(8, .int i64 a.1)],[⟨true,96,52, .gen [[.int u32 a.2.A0.B2.X.a0, .int u32 a.2.A0.B2.X.a1, .int u32 a.2.A0.B2.X.a2, .int u32 a.2.A0.B2.X.a3, .int u32 a.2.A0.B2.X.a4, .int u32 a.2.A0.B2.X.a5, .int u32 a.2.A0.B2.X.a6, .int u32 a.2.A0.B2.X.a7, .int u32 a.2.A0.B2.X.a8, .int u32 a.2.A0.B2.X.a9, .int u32 a.2.A0.B2.X.a10, .int u32 a.2.A0.B2.X.a11, .int u32 a.2.A0.B2.X.a12, .int u32 a.2.A0.B2.X.a13, .int u32 a.2.A0.B2.X.a14, .int u32 a.2.A0.B2.X.a15, .int u32 a.2.A0.B2.Pc, .int u32 a.2.A0.B2.B6.a0, .int u32 a.2.A0.B2.B6.a1, .int u32 a.2.A0.B2.B6.a2, .int u32 a.2.A0.B2.B6.a3, .int u32 a.2.A0.B2.B6.a4, .int u32 a.2.A0.B2.B6.a5, .int u32 a.2.A0.B2.B6.a6, .int u32 a.2.A0.B2.B6.a7, .all 1, .str a.2.A0.A6.D3, .bool a.2.A0.B0.D2, .int u32 a.2.A0.B0.C9, .bool a.2.A0.B0.D5, .int u32 a.2.A0.B1.Blocks, .int u32 a.2.A0.B1.C2, .int u32 a.2.A0.B1.Frame, .int i64 a.2.A0.B1.C1, .int i64 a.2.A0.B1.D8, .int u32 a.2.A0.B1.B7, .int u32 a.2.A0.B1.B4, .str a.2.A0.B1.C4, .int u32 a.2.A0.C5.Frame, .int u32 a.2.A0.C5.E0, .bool a.2.A0.C5.C6, .int u32 a.2.A0.C5.B9, .bool a.2.A0.C5.B8, .int u32 a.2.A0.C5.F1, .int u32 a.2.A0.A4.D0, .int u32 a.2.A0.A4.C3, .int u64 a.2.A0.A1, .bool a.2.A0.A7, .bool a.2.A0.A9, .int u32 a.2.A3, .all 2, .all 3]]⟩,⟨false,25,1, .ints u32 a.2.A0.Mem⟩,⟨false,126,4, .recs RK.apiEntry a.2.B3⟩,⟨false,66,3, .recs RK.apiEvent a.2.A2⟩,⟨true,96,52, .gen [[(cT st 6 0),(cT st 6 1),(cT st 6 2),(cT st 6 3),(cT st 6 4),(cT st 6 5),(cT st 6 6),(cT st 6 7),(cT st 6 8),(cT st 6 9),(cT st 6 10),(cT st 6 11),(cT st 6 12),(cT st 6 13),(cT st 6 14),(cT st 6 15),(cT st 6 16),(cT st 6 17),(cT st 6 18),(cT st 6 19),(cT st 6 20),(cT st 6 21),(cT st 6 22),(cT st 6 23),(cT st 6 24),(cT st 6 25),(cT st 6 26),(cT st 6 27),(cT st 6 28),(cT st 6 29),(cT st 6 30),(cT st 6 31),(cT st 6 32),(cT st 6 33),(cT st 6 34),(cT st 6 35),(cT st 6 36),(cT st 6 37),(cT st 6 38),(cT st 6 39),(cT st 6 40),(cT st 6 41),(cT st 6 42),(cT st 6 43),(cT st 6 44),(cT st 6 45),(cT st 6 46),(cT st 6 47),(cT st 6 48),(cT st 6 49),(cT st 6 50),(cT st 6 51)]]⟩])
 a0:=λst=>((lk st 8).toInt,(⟨(mR (cT st 3) (Q5t st.rows (Q0t (cT st 3 25) 1000000))),(cT st 3 49).toInt,(Q3d RK.apiEntry st.rows (Q0t (cT st 3 50) 1000000)),(Q3d RK.apiEvent st.rows (Q0t (cT st 3 51) 1000000))⟩:Q01))
 ex0:=λst=>[]++[(rX st 3 0),(Q0t (cT st 3 25) (st.rows.length+1)),(Q0t (cT st 3 50) (st.rows.length+2)),(Q0t (cT st 3 51) (st.rows.length+3)),(rX st 6 4)]}
def Z16:LInv:={
 α:=(Int)×Q01×(List Q03)
 F:=λst a=>([(1,(lk st 1)),(3, .ptr 0 0 0),(6, .ptr 4 0 0),(9, .all 5),(10, .int i64 a.1)],[⟨true,96,52, .gen [[.int u32 a.2.1.A0.B2.X.a0, .int u32 a.2.1.A0.B2.X.a1, .int u32 a.2.1.A0.B2.X.a2, .int u32 a.2.1.A0.B2.X.a3, .int u32 a.2.1.A0.B2.X.a4, .int u32 a.2.1.A0.B2.X.a5, .int u32 a.2.1.A0.B2.X.a6, .int u32 a.2.1.A0.B2.X.a7, .int u32 a.2.1.A0.B2.X.a8, .int u32 a.2.1.A0.B2.X.a9, .int u32 a.2.1.A0.B2.X.a10, .int u32 a.2.1.A0.B2.X.a11, .int u32 a.2.1.A0.B2.X.a12, .int u32 a.2.1.A0.B2.X.a13, .int u32 a.2.1.A0.B2.X.a14, .int u32 a.2.1.A0.B2.X.a15, .int u32 a.2.1.A0.B2.Pc, .int u32 a.2.1.A0.B2.B6.a0, .int u32 a.2.1.A0.B2.B6.a1, .int u32 a.2.1.A0.B2.B6.a2, .int u32 a.2.1.A0.B2.B6.a3, .int u32 a.2.1.A0.B2.B6.a4, .int u32 a.2.1.A0.B2.B6.a5, .int u32 a.2.1.A0.B2.B6.a6, .int u32 a.2.1.A0.B2.B6.a7, .all 1, .str a.2.1.A0.A6.D3, .bool a.2.1.A0.B0.D2, .int u32 a.2.1.A0.B0.C9, .bool a.2.1.A0.B0.D5, .int u32 a.2.1.A0.B1.Blocks, .int u32 a.2.1.A0.B1.C2, .int u32 a.2.1.A0.B1.Frame, .int i64 a.2.1.A0.B1.C1, .int i64 a.2.1.A0.B1.D8, .int u32 a.2.1.A0.B1.B7, .int u32 a.2.1.A0.B1.B4, .str a.2.1.A0.B1.C4, .int u32 a.2.1.A0.C5.Frame, .int u32 a.2.1.A0.C5.E0, .bool a.2.1.A0.C5.C6, .int u32 a.2.1.A0.C5.B9, .bool a.2.1.A0.C5.B8, .int u32 a.2.1.A0.C5.F1, .int u32 a.2.1.A0.A4.D0, .int u32 a.2.1.A0.A4.C3, .int u64 a.2.1.A0.A1, .bool a.2.1.A0.A7, .bool a.2.1.A0.A9, .int u32 a.2.1.A3, .all 2, .all 3]]⟩,⟨false,25,1, .ints u32 a.2.1.A0.Mem⟩,⟨false,126,4, .recs RK.apiEntry a.2.1.B3⟩,⟨false,66,3, .recs RK.apiEvent a.2.1.A2⟩,⟨true,96,52, .gen [[(cT st 6 0),(cT st 6 1),(cT st 6 2),(cT st 6 3),(cT st 6 4),(cT st 6 5),(cT st 6 6),(cT st 6 7),(cT st 6 8),(cT st 6 9),(cT st 6 10),(cT st 6 11),(cT st 6 12),(cT st 6 13),(cT st 6 14),(cT st 6 15),(cT st 6 16),(cT st 6 17),(cT st 6 18),(cT st 6 19),(cT st 6 20),(cT st 6 21),(cT st 6 22),(cT st 6 23),(cT st 6 24),(cT st 6 25),(cT st 6 26),(cT st 6 27),(cT st 6 28),(cT st 6 29),(cT st 6 30),(cT st 6 31),(cT st 6 32),(cT st 6 33),(cT st 6 34),(cT st 6 35),(cT st 6 36),(cT st 6 37),(cT st 6 38),(cT st 6 39),(cT st 6 40),(cT st 6 41),(cT st 6 42),(cT st 6 43),(cT st 6 44),(cT st 6 45),(cT st 6 46),(cT st 6 47),(cT st 6 48),(cT st 6 49),(cT st 6 50),(cT st 6 51)]]⟩,⟨false,71,4, .recs RK.apiOutput a.2.2⟩])
 a0:=λst=>((lk st 10).toInt,(⟨(mR (cT st 3) (Q5t st.rows (Q0t (cT st 3 25) 1000000))),(cT st 3 49).toInt,(Q3d RK.apiEntry st.rows (Q0t (cT st 3 50) 1000000)),(Q3d RK.apiEvent st.rows (Q0t (cT st 3 51) 1000000))⟩:Q01),(Q3d RK.apiOutput st.rows (rN st 9)))
 ex0:=λst=>[]++[(rX st 3 0),(Q0t (cT st 3 25) (st.rows.length+1)),(Q0t (cT st 3 50) (st.rows.length+2)),(Q0t (cT st 3 51) (st.rows.length+3)),(rX st 6 4),(rX st 9 5)]}
def Qw1:List (Nat×LInv):=[(6,Z1m),(12,Z16)]
def Z4j:Q0d:=mT 147 [] true [.agg Q01.sig, .one (.int .i64), .one (.int .u32)] [] (λa r=>Q5y (Q01.of (aC a 0)) (argI a 1) (argI a 2)) (λX=> .tup [.agg (Q01.cellsW (X.1) (.all 0) (.all 1) (.all 2)), .all 3]) (λX=>[⟨false,25,1, .ints .u32 (X.1).A0.Mem⟩,⟨false,126,4, .recs .apiEntry (X.1).B3⟩,⟨false,66,3, .recs .apiEvent (X.1).A2⟩,⟨false,71,4, .recs .apiOutput (X.2)⟩])
theorem Z1y:Q06 pG Z4j:=oT (.cons Z0f (.cons Qtp (.cons Z74 (.cons Z19 (.cons Zm2 (.cons Qwr (.cons Qua (.cons Qyu (.nil))))))))) Tryz.func147 Tryz.call147 [.row 25 1 (.ints .u32), .row 126 4 (.recs .apiEntry), .row 66 3 (.recs .apiEvent), .row 71 4 (.recs .apiOutput)] Qw1 3

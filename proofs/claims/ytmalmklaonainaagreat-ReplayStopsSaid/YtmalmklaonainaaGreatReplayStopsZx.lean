import Derived.Test.YtmalmklaonainaaGreatReplayStopsYz
open Nat renaming blt->bT, beq->bS, lt_succ_self->cK
open List renaming length->dH, replicate->cN, take->cY, drop->cZ, set->dD, getD->aK
open Int renaming toNat->dC, tdiv->eS, tmod->dB
open UInt8 renaming ofNat->eV, toNat->eU
set_option maxRecDepth 100000
set_option linter.all false
namespace Go.Proofs.YtmalmklaonainaaGreat
open Go Go.GD Go.IntKind
noncomputable section
def Qew(m:List Int):Tree (List Int):=
.cn (bT (0:Nat) (1:Nat)&&bS (1:Nat) (1:Nat)&&List.all [D.int u32 (0:Int)] D.plain&&decide ((0:Int)<=(m.length:Int)/\(m.length:Int)<=(m.length:Int)/\(m.length:Int)<=(9223372036854775807:Int)/\(↑(4:Nat):Int)*(m.length:Int)<=(140737488355328:Int))) (let E1:=dH (cN (dC (m.length:Int)) (0:Int)); .lf (cY (Min.min (m.length) E1) m++cZ (Min.min (m.length) E1) (cN (dC (m.length:Int)) (0:Int))))
def Qua m:=(Qew m).m
abbrev Quv m:=(Qew m).p
def Ziu:Q0e:=mT 122 [] true [.one (.ints .u32)] [] (λa r=>Qew (argL .u32 a 0)) (λX=> .all 0) (λX=>[⟨false,25,1, .ints .u32 X⟩])
theorem Ze7:Q06 pG Ziu:=oT (.nil) Tryz.func122 Tryz.call122 [.row 25 1 (.ints .u32)] [] 2
def Qdb(m:Q00):Tree Q00:=
.an (Quv m.Mem) (.lv (Qua m.Mem) λ(x0:List Int)=> .lf ({B2:=m.B2,Mem:=x0,A4:=m.A4,B0:=m.B0,B1:=m.B1,C5:=m.C5,A2:=m.A2,A1:=m.A1,A7:=m.A7,A9:=m.A9}))
def Qk2 m:=(Qdb m).m
abbrev Qd6 m:=(Qdb m).p
def Zp9:Q0e:=mT 34 [] true [.agg Q00.sig] [] (λa r=>Qdb (Q00.of (aC a 0))) (λX=> .agg (Q00.cellsW X (.all 0))) (λX=>[⟨false,25,1, .ints .u32 X.Mem⟩])
theorem Qmr:Q06 pG Zp9:=oT (.cons Ze7 (.nil)) Tryz.func34 Tryz.call34 [.row 25 1 (.ints .u32)] [] 2
def Qra(n k:Int)(z:(Int)×(List Int)):Prop:=0<=z.1/\(z.2.length:Int)=z.1/\(z.1<=k\/z.1=0)
def Qe6(n k:Int)(z:(Int)×(List Int)):Nat:=(k-z.1).toNat
def Qf6(n k:Int):Tree (List UInt8):=
.lp inferInstance (Qe6 n k (0,[])+1) ((rE (n:Int)/\rE (k:Int)/\True/\rE (0:Int)/\True)/\rE ([]:List Int)/\True) (0,[]) λ(v0:Int×List Int)=> .br (decide (v0.1<k)) (.lv (Q3c n (wrap i64 (eS v0.1 9))) λ(x0:Int)=> .cn (decide (1*(v0.2.length+1)<=140737488355328)) (.nx ((rE (n:Int)/\rE (k:Int)/\True/\rE ((wrap i64 (v0.1+1)):Int)/\True)/\rE ((v0.2++[wrap u8 x0]):List Int)/\True) (Sum.inl (wrap i64 (v0.1+1),v0.2++[wrap u8 x0])))) (.lf (Sum.inr (bytesOf v0.2)))
def Qtd n k:=(Qf6 n k).m
def Qag(n k:Int):Prop:=
k<=1000000000000
theorem Zch(n k:Int)(hw:Qag n k):(Qf6 n k).p:=by
 simp only[Qag]at hw
 unfold Tree.p Qf6
 repeat'(first|refine w_lp (inv:=Qra n k) (μ:=Qe6 n k) ?_ (cK _) (λ_ _=> ?_)|exact trivial|refine w_br (λ_=> ?_) (λ_=> ?_)|refine w_cn ?_ ?_|refine w_an ?_ ?_|refine w_lv (λ_ _=> ?_)|refine w_nx ?_|refine w_lf ?_|refine And.intro ?_ ?_)
 all_goals((try simp only[Qra,Qe6]at*);exact fin0)
def Zfj:LInv:={
 α:=(Int)×(List Int)
 F:=λst a=>([(0,(lk st 0)),(1,(lk st 1)),(5, .all 0),(6, .int i64 a.1)],[⟨false,5,1, .ints u8 a.2⟩])
 a0:=λst=>((lk st 6).toInt,(Q46 st.rows (rN st 5)))
 ex0:=λst=>[]++[(rX st 5 0)]}
def Z6j:List (Nat×LInv):=[(3,Zfj)]
def Zkj:Q0e:=mkP 84 [] true [.one (.int .i64), .one (.int .i64)] [] (λa r=>Qag (argI a 0) (argI a 1)) (λa r=>Qtd (argI a 0) (argI a 1)) (λX=> .str X) (λX=>[])
theorem Zg0:Q06 pG Zkj:=Q0p drawn Q0l (.cons Qmw (.nil)) Tryz.func84 Tryz.call84 (λa r=>Qf6 (argI a 0) (argI a 1)) [] Z6j 3 (hp:=λa r h=>Zch (argI a 0) (argI a 1) h)
def Qf4(r:Q01):Tree Q01:=
.an (Qd6 r.A0) (.lv (Qk2 r.A0) λ(x0:Q00)=> .cn (decide (40*(0+r.B4.length)<=140737488355328)) (.cn (decide (32*(0+r.A6.length)<=140737488355328)) (.lf ({A0:=x0,A3:=r.A3,B4:=r.B4,A6:=r.A6}))))
def Qo5 r:=(Qf4 r).m
abbrev Qml r:=(Qf4 r).p
def Zih:Q0e:=mT 212 [] true [.agg Q01.sig] [] (λa r=>Qf4 (Q01.of (aC a 0))) (λX=> .agg (Q01.cellsW X (.all 0) (.all 1) (.all 2))) (λX=>[⟨false,25,1, .ints .u32 X.A0.Mem⟩,⟨false,126,4, .recs .apiEntry X.B4⟩,⟨false,66,3, .recs .apiEvent X.A6⟩])
theorem Qyb:Q06 pG Zih:=oT (.cons Qmr (.nil)) Tryz.func212 Tryz.call212 [.row 25 1 (.ints .u32), .row 126 4 (.recs .apiEntry), .row 66 3 (.recs .apiEvent)] [] 2
def Qmp(e:Q0a):Tree Bool:=
.br (e.B6==1) (.lf (decide (e.D0=[]))) (.br (e.B6==6) (.lf (decide (e.D0=[]))) (.br (e.B6==2) (.br (e.N==0) (.lf (decide (e.D0=[]))) (.lf false)) (.br (e.B6==3) (.br (decide (e.N<=255)) (.lf (decide (e.D0=[]))) (.lf false)) (.br (e.B6==4) (.br (decide (e.N<=1)) (.br (decide (e.D0=[])) (.lf true) (.br (e.N==1) (.lf ((e.D0.length:Int)==(128:Int))) (.lf false))) (.lf false)) (.br (e.B6==5) (.br (e.N==0) (.br (decide ((e.D0.length:Int)>=(1:Int))) (.lf (decide ((e.D0.length:Int)<=(128:Int)))) (.lf false)) (.lf false)) (.lf false))))))
def Q1w e:=(Qmp e).m
def Zac:Q0e:=mS 154 [] true [.agg Q0a.sig] [] (λa r=>Qmp (Q0a.of (aC a 0))) (λX=> .bool X) (λX=>[])
theorem Z6g:Q06 pG Zac:=oS (.nil) Tryz.func154 Tryz.call154 [] [] 2
def Q8w(r:Q01)(e:Q0a):Tree (Q01×Bool):=
.an (Qml r) (.lv (Qo5 r) λ(x0:Q01)=> .lv (Q1w e) λ(x1:Bool)=> .br (!x1) (.lf (x0,false)) (.br (e.B6==1) (.lf (x0,false)) (.br (decide ((x0.A6.length:Int)>=(16:Int))) (.lf (x0,false)) (.cn (decide (32*(x0.A6.length+1)<=140737488355328)) (.lf ({A0:=x0.A0,A3:=x0.A3,B4:=x0.B4,A6:=x0.A6++[e]},true))))))
def Q2t r e:=(Q8w r e).m
abbrev Qnt r e:=(Q8w r e).p
def Z5u:Q0e:=mT 146 [] true [.agg Q01.sig, .agg Q0a.sig] [] (λa r=>Q8w (Q01.of (aC a 0)) (Q0a.of (aC a 1))) (λX=> .tup [.agg (Q01.cellsW (X.1) (.all 0) (.all 1) (.all 2)), .bool (X.2)]) (λX=>[⟨false,25,1, .ints .u32 (X.1).A0.Mem⟩,⟨false,126,4, .recs .apiEntry (X.1).B4⟩,⟨false,66,3, .recs .apiEvent (X.1).A6⟩])
theorem Z2u:Q06 pG Z5u:=oT (.cons Qyb (.cons Z6g (.nil))) Tryz.func146 Tryz.call146 [.row 25 1 (.ints .u32), .row 126 4 (.recs .apiEntry), .row 66 3 (.recs .apiEvent)] [] 2
def Q9g(n:Int):Tree Q0a:=
.lv (Q3c n 2) λ(x0:Int)=> .br (dB x0 (7:Int)==(0:Int)) (.lf ({B6:=2,N:=0,D0:=[]})) (.br (dB x0 (7:Int)==(1:Int)) (.lf ({B6:=3,N:=wrap u32 (iand i64 (ishr i64 x0 8) 255),D0:=[]})) (.br (dB x0 (7:Int)==(2:Int)) (.lf ({B6:=3,N:=wrap u32 (iand i64 (ishr i64 x0 8) 255),D0:=[]})) (.br (dB x0 (7:Int)==(3:Int)) (.lf ({B6:=4,N:=1,D0:=[]})) (.br (dB x0 (7:Int)==(4:Int)) (.an (Qag x0 128) (.lv (Qtd x0 128) λ(x1:List UInt8)=> .lf ({B6:=4,N:=1,D0:=x1}))) (.br (dB x0 (7:Int)==(5:Int)) (let E1:=wrap i64 (1+dB (ishr i64 x0 8) 40); .an (Qag x0 E1) (.lv (Qtd x0 E1) λ(x2:List UInt8)=> .lf ({B6:=5,N:=0,D0:=x2}))) (.br (dB (ishr i64 x0 8) (4:Int)==(0:Int)) (.lf ({B6:=4,N:=0,D0:=[]})) (.lf ({B6:=6,N:=wrap u32 (dB (ishr i64 x0 8) 3),D0:=[]}))))))))
def Q3z n:=(Q9g n).m
abbrev Qkv n:=(Q9g n).p
def Zdz:Q0e:=mT 76 [] true [.one (.int .i64)] [] (λa r=>Q9g (argI a 0)) (λX=> .agg (Q0a.cells X)) (λX=>[])
theorem Qtr:Q06 pG Zdz:=oT (.cons Qmw (.cons Zg0 (.nil))) Tryz.func76 Tryz.call76 [] [] 2
def Qp6(m:List Int):Tree Int:=
.br (dB (m.length:Int) (32:Int) !=(0:Int)) (.lf 0) (.br (decide ((m.length:Int)>(1024:Int))) (.lf 0) (.lf (wrap i64 (eS (m.length:Int) 32))))
def Q3w m:=(Qp6 m).m
def Zg2:Q0e:=mS 93 [] true [.one (.ints .u32)] [] (λa r=>Qp6 (argL .u32 a 0)) (λX=> .int .i64 X) (λX=>[])
theorem Qdr:Q06 pG Zg2:=oS (.nil) Tryz.func93 Tryz.call93 [] [] 2
def Qm2(c:Q0d):Tree Bool:=
.lf (decide ((c.D3.length:Int)<=(16:Int)))
def Qih c:=(Qm2 c).m
def Qxg:Q0e:=mS 94 [] true [.agg Q0d.sig] [] (λa r=>Qm2 (Q0d.of (aC a 0))) (λX=> .bool X) (λX=>[])
theorem Qub:Q06 pG Qxg:=oS (.nil) Tryz.func94 Tryz.call94 [] [] 2
def Qit(t:Q0i):Tree Bool:=
.br t.D2 (.br t.D5 (.lf false) (.br t.D2 (.lf (t.C8 !=0)) (.br t.D5 (.lf true) (.lf (t.C8==0))))) (.br t.D2 (.lf (t.C8 !=0)) (.br t.D5 (.lf true) (.lf (t.C8==0))))
def Qdq t:=(Qit t).m
def Z5a:Q0e:=mS 95 [] true [.agg Q0i.sig] [] (λa r=>Qit (Q0i.of (aC a 0))) (λX=> .bool X) (λX=>[])
theorem Qzn:Q06 pG Z5a:=oS (.nil) Tryz.func95 Tryz.call95 [] [] 2
def Ql2(d0:Q0g)(pages:Int):Tree Bool:=
.br (decide (d0.Blocks>64)) (.lf false) (.br (decide (d0.C1<0)) (.lf false) (.br (decide (d0.C1>3)) (.lf false) (.br (d0.C1 !=1) (.br (d0.D8==0) (.br (d0.B7==0) (.br (d0.B3==0) (.lf (decide (d0.C4=[]))) (.lf false)) (.lf false)) (.lf false)) (.br (decide (d0.B7>=d0.Blocks)) (.lf false) (.br (decide (wrap i64 d0.B3>=pages)) (.lf false) (.br (d0.D8==1) (.br (decide (d0.C4=[])) (.lf true) (.br (d0.D8==2) (.lf ((d0.C4.length:Int)==(128:Int))) (.lf false))) (.br (d0.D8==2) (.lf ((d0.C4.length:Int)==(128:Int))) (.lf false))))))))
def Qgb d0 pages:=(Ql2 d0 pages).m
def Z6b:Q0e:=mS 96 [] true [.agg Q0g.sig, .one (.int .i64)] [] (λa r=>Ql2 (Q0g.of (aC a 0)) (argI a 1)) (λX=> .bool X) (λX=>[])
theorem Z52:Q06 pG Z6b:=oS (.nil) Tryz.func96 Tryz.call96 [] [] 2
def Qn(n:Q0r)(pages:Int):Tree Bool:=
let T1:Tree (Bool):= .br n.B8 (.br (decide (n.F1>=1)) (.lf (decide (n.F1<=128))) (.lf false)) (.lf (n.F1==0)); .br n.C7 (.br n.B8 (.lf false) (.br (decide (wrap i64 n.B9>=pages)) (.lf false) (.br (!n.C7) (.br (n.B9 !=0) (.lf false) T1) T1))) (.br (!n.C7) (.br (n.B9 !=0) (.lf false) T1) T1)
def Qj3 n pages:=(Qn n pages).m
def Z9v:Q0e:=mS 97 [] true [.agg Q0r.sig, .one (.int .i64)] [] (λa r=>Qn (Q0r.of (aC a 0)) (argI a 1)) (λX=> .bool X) (λX=>[])
theorem Z67:Q06 pG Z9v:=oS (.nil) Tryz.func97 Tryz.call97 [] [] 2
def Qh8(b:Q07)(pages:Int)(z:(Int)):Prop:=0<=z/\z<=32
def Q6i(b:Q07)(pages:Int)(z:(Int)):Nat:=(32-z).toNat
def Q5n(b:Q07)(pages:Int):Tree Bool:=
.lp inferInstance (Q6i b pages 0+1) ((rE (pages:Int)/\rZ/\rE (0:Int)/\True)/\(rE b.C9/\rE b.C3/\True)/\True) 0 λ(v0:Int)=> .br (decide (v0<32)) (.cn (decide (0<=wrap u64 v0)) (let T1:Tree ((Int)⊕(Bool)):= .nx ((rE (pages:Int)/\rZ/\rE ((wrap i64 (v0+1)):Int)/\True)/\(rE b.C9/\rE b.C3/\True)/\True) (Sum.inl (wrap i64 (v0+1))); .br (iand u32 (ishr u32 b.C3 (wrap u64 v0)) (1:Int)==(1:Int)) (.br (decide (v0>=pages)) (.lf (Sum.inr false)) T1) T1)) (.lf (Sum.inr true))
def Q9t b pages:=(Q5n b pages).m
theorem Qsj(b:Q07)(pages:Int):(Q5n b pages).p:=by
 unfold Tree.p Q5n
 repeat'(first|refine w_lp (inv:=Qh8 b pages) (μ:=Q6i b pages) ?_ (cK _) (λ_ _=> ?_)|exact trivial|refine w_br (λ_=> ?_) (λ_=> ?_)|refine w_cn ?_ ?_|refine w_an ?_ ?_|refine w_lv (λ_ _=> ?_)|refine w_nx ?_|refine w_lf ?_|refine And.intro ?_ ?_)
 all_goals((try simp only[Qh8,Q6i]at*);exact fin0)
def Qtm:LInv:={
 α:=(Int)
 F:=λst a=>([(1,(lk st 1)),(2, .ptr 0 0 0),(5, .int i64 a)],[⟨true,40,2, .gen [[(cT st 2 0),(cT st 2 1)]]⟩])
 a0:=λst=>(lk st 5).toInt
 ex0:=λst=>[]++[(rX st 2 0)]}
def Qqy:List (Nat×LInv):=[(2,Qtm)]
def Qwa:Q0e:=mS 98 [] true [.agg Q07.sig, .one (.int .i64)] [] (λa r=>Q5n (Q07.of (aC a 0)) (argI a 1)) (λX=> .bool X) (λX=>[])
theorem Qtu:Q06 pG Qwa:=oS (.nil) Tryz.func98 Tryz.call98 [] Qqy 3 (λ_ _ _=>by kernel_rfl) (λa r=>Qsj (Q07.of (aC a 0)) (argI a 1)) (λ_ X=>by kernel_rfl)
def Qwr(m:Q00):Tree Bool:=
.lv (Q3w m.Mem) λ(x0:Int)=> .br (decide (x0<1)) (.lf false) (.br (m.B2.X.a0 !=0) (.lf false) (.br (decide (m.B2.B5.a0>31)) (.lf false) (.br (decide (m.B2.B5.a7>31)) (.lf false) (.br (decide (m.B2.B5.a6>255)) (.lf false) (.br (dB m.B2.B5.a1 (4:Int) !=(0:Int)) (.lf false) (.lv (Qih m.A4) λ(x1:Bool)=> .br (!x1) (.lf false) (.lv (Qdq m.B0) λ(x2:Bool)=> .br (!x2) (.lf false) (.lv (Qgb m.B1 x0) λ(x3:Bool)=> .br (!x3) (.lf false) (.lv (Qj3 m.C5 x0) λ(x4:Bool)=> .br (!x4) (.lf false) (.lv (Q9t m.A2 x0) λ(x5:Bool)=> .br (!x5) (.lf false) (.br (decide (m.A1<=1152921504606846976)) (.br m.A7 (.lf (!m.A9)) (.lf true)) (.lf false))))))))))))
def Q64 m:=(Qwr m).m
def Zpl:Q0e:=mS 25 [] true [.agg Q00.sig] [] (λa r=>Qwr (Q00.of (aC a 0))) (λX=> .bool X) (λX=>[])
theorem Qmu:Q06 pG Zpl:=oS (.cons Qdr (.cons Qub (.cons Qzn (.cons Z52 (.cons Z67 (.cons Qtu (.nil))))))) Tryz.func25 Tryz.call25 [] [] 2
def Qa(t:Q0i):Tree (Q0i×Bool):=
.br (!t.D2) (.lf (t,false)) (.lf ({D2:=false,C8:=t.C8,D5:=true},true))
def Q6x t:=(Qa t).m
def Zkg:Q0e:=mS 221 [] true [.agg Q0i.sig] [] (λa r=>Qa (Q0i.of (aC a 0))) (λX=> .tup [.agg (Q0i.cells (X.1)), .bool (X.2)]) (λX=>[])
theorem Qyl:Q06 pG Zkg:=oS (.nil) Tryz.func221 Tryz.call221 [] [] 2
def Qcy(c:Q0d)(b:Int):Tree (Q0d×Bool):=
.br (decide ((c.D3.length:Int)>=(16:Int))) (.lf (c,false)) (.cn (decide (c.D3.length+1<=maxLen)) (.lf ({D3:=c.D3++[(λ(n:Int)=>eV n.toNat) b]},true)))
def Qlr c b:=(Qcy c b).m
abbrev Qmy c b:=(Qcy c b).p
def Zkm:Q0e:=mT 222 [] true [.agg Q0d.sig, .one (.int .u8)] [] (λa r=>Qcy (Q0d.of (aC a 0)) (argI a 1)) (λX=> .tup [.agg (Q0d.cells (X.1)), .bool (X.2)]) (λX=>[])
theorem Qy4:Q06 pG Zkm:=oT (.nil) Tryz.func222 Tryz.call222 [] [] 2
def Qjb(m:List Int)(frame:Int):Tree Bool:=
.lv (Q3w m) λ(x0:Int)=> .lf (decide (wrap u64 frame<wrap u64 x0))
def Q29 m frame:=(Qjb m frame).m
def Zjk:Q0e:=mS 269 [] true [.one (.ints .u32), .one (.int .u32)] [] (λa r=>Qjb (argL .u32 a 0) (argI a 1)) (λX=> .bool X) (λX=>[])
theorem Qg:Q06 pG Zjk:=oS (.cons Qdr (.nil)) Tryz.func269 Tryz.call269 [] [] 2
def Qf0(m:List Int)(addr size v:Int):Tree (List Int):=
let E1:=bS 1 1&&bT 0 1&&decide (0<=wrap u32 (eS addr 4)/\wrap u32 (eS addr 4)<(m.length:Int));let E2:=dC (wrap u32 (eS addr 4)); .br (size==4) (.cn E1 (.lf (dD m E2 v))) (.cn E1 (let E3:=decide (0<=wrap u32 (8*dB addr 4)); .cn E3 (.cn E3 (.cn E1 (.lf (dD m E2 (ior u32 (Qhj u32 (m.getD E2 0) (ishl u32 255 (wrap u32 (8*dB addr 4)))) (ishl u32 (iand u32 v 255) (wrap u32 (8*dB addr 4))))))))))
def Qak m addr size v:=(Qf0 m addr size v).m
abbrev Qg5 m addr size v:=(Qf0 m addr size v).p
def Zns:Q0e:=mT 300 [true,false,false,false] true [.one (.row 0), .one (.int .u32), .one (.int .i64), .one (.int .u32)] [.arr 25 1 (.ints .u32)] (λa r=>Qf0 (rowL .u32 r 0) (argI a 1) (argI a 2) (argI a 3)) (λX=> .tup []) (λX=>[⟨false,25,1, .ints .u32 X⟩])
theorem Z4o:Q06 pG Zns:=oT (.nil) Tryz.func300 Tryz.call300 [] [] 2
def Qi6(m:List Int)(frame:Int)(s:List UInt8)(z:(Int)×(List Int)):Nat:=(128-z.1).toNat
def Qa1(m:List Int)(frame:Int)(s:List UInt8):Tree (List Int):=
.lp inferInstance (Qi6 m frame s (0,m)+1) ((True/\rE (frame:Int)/\rE (s:List UInt8)/\rE (0:Int)/\True)/\rE (m:List Int)/\True) (0,m) λ(v0:Int×List Int)=> .br (decide (v0.1<(s.length:Int))) (.br (decide (v0.1<128)) (.cn (decide (0<=v0.1/\v0.1<(s.length:Int))) (let E1:=wrap u32 (↑(eU (s.getD v0.1.toNat (0:UInt8))):Int);let E2:=wrap u32 (wrap i64 (wrap i64 (frame*128)+v0.1)); .an (Qg5 v0.2 E2 1 E1) (.lv (Qak v0.2 E2 1 E1) λ(x0:List Int)=> .nx ((True/\rE (frame:Int)/\rE (s:List UInt8)/\rE ((wrap i64 (v0.1+1)):Int)/\True)/\rE (x0:List Int)/\True) (Sum.inl (wrap i64 (v0.1+1),x0))))) (.lf (Sum.inr v0.2))) (.lf (Sum.inr v0.2))
def Qm0 m frame s:=(Qa1 m frame s).m
abbrev Qmx m frame s:=(Qa1 m frame s).p
def Zdv:LInv:={
 α:=(Int)×(List Int)
 F:=λst a=>([(0, .all 0),(1,(lk st 1)),(2,(lk st 2)),(6, .int i64 a.1)],[⟨false,25,1, .ints u32 a.2⟩])
 a0:=λst=>((lk st 6).toInt,(Q46 st.rows 0))
 ex0:=λst=>[0]++[]}
def Z5q:List (Nat×LInv):=[(1,Zdv)]
def Zix:Q0e:=mT 270 [true,false,false] true [.one (.row 0), .one (.int .i64), .one (.str)] [.arr 25 1 (.ints .u32)] (λa r=>Qa1 (rowL .u32 r 0) (argI a 1) (argS a 2)) (λX=> .tup []) (λX=>[⟨false,25,1, .ints .u32 X⟩])
theorem Qyy:Q06 pG Zix:=oT (.cons Z4o (.nil)) Tryz.func270 Tryz.call270 [] Z5q 3
def Q6q(d0:Q0g)(m:List Int)(e:Q0a):Tree (Q0g×Bool×(List Int)):=
.br (d0.C1 !=1) (.lf (d0,false,m)) (.br (e.B6 !=4) (.lf (d0,false,m)) (.br (decide (e.N>1)) (.lf (d0,false,m)) (let E4:=({Blocks:=d0.Blocks,C2:=d0.C2,Frame:=d0.Frame,C1:=2,D8:=0,B7:=0,B3:=0,C4:=[]}:Q0g);let E5:=({Blocks:=d0.Blocks,C2:=d0.C2,Frame:=d0.Frame,C1:=3,D8:=0,B7:=0,B3:=0,C4:=[]}:Q0g);let T2:Tree ((Q0g×Bool×(List Int))):= .br (e.N==1) (.lf (E4,true,m)) (.lf (E5,true,m));let E6:=decide ((e.D0.length:Int)>(0:Int)); .br (e.N==1) (let T1:Tree ((Q0g×Bool×(List Int))):= .br (d0.D8==1) (.an (Qmx m (wrap i64 d0.B3) e.D0) (.lv (Qm0 m (wrap i64 d0.B3) e.D0) λ(x1:List Int)=> .br (e.N==1) (.lf (E4,true,x1)) (.lf (E5,true,x1)))) T2;let T3:Tree ((Q0g×Bool×(List Int))):= .br (!d0.D8==1) (.br E6 (.lf (d0,false,m)) T1) T1; .br (d0.D8==1) (.br ((e.D0.length:Int) !=(128:Int)) (.lf (d0,false,m)) (.lv (Q29 m d0.B3) λ(x0:Bool)=> .br (!x0) (.lf (d0,false,m)) T3)) T3) (.br E6 (.lf (d0,false,m)) T2))))
def Q81 d0 m e:=(Q6q d0 m e).m
abbrev Qi3 d0 m e:=(Q6q d0 m e).p
def Zb0:Q0e:=mT 223 [false,true,false] true [.agg Q0g.sig, .one (.row 0), .agg Q0a.sig] [.arr 25 1 (.ints .u32)] (λa r=>Q6q (Q0g.of (aC a 0)) (rowL .u32 r 0) (Q0a.of (aC a 2))) (λX=> .tup [.agg (Q0g.cells (X.1)), .bool (X.2.1)]) (λX=>[⟨false,25,1, .ints .u32 (X.2.2)⟩])
theorem Qrj:Q06 pG Zb0:=oT (.cons Qg (.cons Qyy (.nil))) Tryz.func223 Tryz.call223 [] [] 2
def Q6y(n:Q0r)(m:List Int)(frame:List UInt8):Tree (Q0r×Bool×(List Int)):=
.br (!n.C7) (.lf (n,false,m)) (.br (decide ((frame.length:Int)<(1:Int))) (.lf (n,false,m)) (.br (decide ((frame.length:Int)>(128:Int))) (.lf (n,false,m)) (.lv (Q29 m n.B9) λ(x0:Bool)=> .br (!x0) (.lf (n,false,m)) (.an (Qmx m (wrap i64 n.B9) frame) (.lv (Qm0 m (wrap i64 n.B9) frame) λ(x1:List Int)=> .lf ({Frame:=n.Frame,E0:=n.E0,C7:=false,B9:=0,B8:=true,F1:=wrap u32 (frame.length:Int)},true,x1))))))
def Q83 n m frame:=(Q6y n m frame).m
abbrev Qjl n m frame:=(Q6y n m frame).p
def Zay:Q0e:=mT 224 [false,true,false] true [.agg Q0r.sig, .one (.row 0), .one (.str)] [.arr 25 1 (.ints .u32)] (λa r=>Q6y (Q0r.of (aC a 0)) (rowL .u32 r 0) (argS a 2)) (λX=> .tup [.agg (Q0r.cells (X.1)), .bool (X.2.1)]) (λX=>[⟨false,25,1, .ints .u32 (X.2.2)⟩])
theorem Qrq:Q06 pG Zay:=oT (.cons Qg (.cons Qyy (.nil))) Tryz.func224 Tryz.call224 [] [] 2
def Q4n(m:Q00)(e:Q0a):Tree (Bool×Q00):=
.br m.A9 (.lf (false,m)) (let T1:Tree ((Bool×Q00)):= .br (e.B6==4) (.an (Qi3 m.B1 m.Mem e) (.lv (Q81 m.B1 m.Mem e) λ(x2:Q0g×Bool×List Int)=> .lf (x2.2.1,{B2:=m.B2,Mem:=x2.2.2,A4:=m.A4,B0:=m.B0,B1:=x2.1,C5:=m.C5,A2:=m.A2,A1:=m.A1,A7:=m.A7,A9:=m.A9}))) (let T3:Tree ((Bool×Q00)):= .br (e.B6==6) (.br (decide (e.D0=[])) (.lf (true,{B2:=m.B2,Mem:=m.Mem,A4:=m.A4,B0:=m.B0,B1:=m.B1,C5:=m.C5,A2:={C9:=e.N,C3:=m.A2.C3},A1:=m.A1,A7:=m.A7,A9:=m.A9})) (.lf (false,m))) (.lf (false,m)); .br (e.B6==5) (.br (e.N==0) (.an (Qjl m.C5 m.Mem e.D0) (.lv (Q83 m.C5 m.Mem e.D0) λ(x3:Q0r×Bool×List Int)=> .lf (x3.2.1,{B2:=m.B2,Mem:=x3.2.2,A4:=m.A4,B0:=m.B0,B1:=m.B1,C5:=x3.1,A2:=m.A2,A1:=m.A1,A7:=m.A7,A9:=m.A9}))) T3) T3);let T2:Tree ((Bool×Q00)):= .br (e.B6==3) (.br (decide (e.N<=255)) (.br (decide (e.D0=[])) (.an (Qmy m.A4 (wrap u8 e.N)) (.lv (Qlr m.A4 (wrap u8 e.N)) λ(x1:Q0d×Bool)=> .lf (x1.2,{B2:=m.B2,Mem:=m.Mem,A4:=x1.1,B0:=m.B0,B1:=m.B1,C5:=m.C5,A2:=m.A2,A1:=m.A1,A7:=m.A7,A9:=m.A9}))) T1) T1) T1; .br (e.B6==2) (.br (e.N==0) (.br (decide (e.D0=[])) (.lv (Q6x m.B0) λ(x0:Q0i×Bool)=> .lf (x0.2,{B2:=m.B2,Mem:=m.Mem,A4:=m.A4,B0:=x0.1,B1:=m.B1,C5:=m.C5,A2:=m.A2,A1:=m.A1,A7:=m.A7,A9:=m.A9})) T2) T2) T2)
def Q0q m e:=(Q4n m e).m
abbrev Qky m e:=(Q4n m e).p
def Zgs:Q0e:=mT 161 [true,false] true [.ptr 0, .agg Q0a.sig] [.box 43 49 (Q00.sigW (.row 1)), .arr 25 1 (.ints .u32)] (λa r=>Q4n (Q00.ofW (r.getD 0 default).cs (rowL .u32 r 1)) (Q0a.of (aC a 1))) (λX=> .bool (X.1)) (λX=>[⟨true,43,49, .gen [(Q00.cellsW (X.2) (.all 1))]⟩,⟨false,25,1, .ints .u32 (X.2).Mem⟩])
theorem Qvl:Q06 pG Zgs:=oT (.cons Qyl (.cons Qy4 (.cons Qrj (.cons Qrq (.nil))))) Tryz.func161 Tryz.call161 [.row 25 1 (.ints .u32)] [] 2
def Q8u(m:Q01)(e:Q0a):Tree (Bool×Q01):=
.br m.A0.A9 (.lf (false,m)) (let T1:Tree ((Bool×Q01)):= .br (e.B6==4) (.an (Qi3 m.A0.B1 m.A0.Mem e) (.lv (Q81 m.A0.B1 m.A0.Mem e) λ(x2:Q0g×Bool×List Int)=> .lf (x2.2.1,{A0:={B2:=m.A0.B2,Mem:=x2.2.2,A4:=m.A0.A4,B0:=m.A0.B0,B1:=x2.1,C5:=m.A0.C5,A2:=m.A0.A2,A1:=m.A0.A1,A7:=m.A0.A7,A9:=m.A0.A9},A3:=m.A3,B4:=m.B4,A6:=m.A6}))) (let T3:Tree ((Bool×Q01)):= .br (e.B6==6) (.br (decide (e.D0=[])) (.lf (true,{A0:={B2:=m.A0.B2,Mem:=m.A0.Mem,A4:=m.A0.A4,B0:=m.A0.B0,B1:=m.A0.B1,C5:=m.A0.C5,A2:={C9:=e.N,C3:=m.A0.A2.C3},A1:=m.A0.A1,A7:=m.A0.A7,A9:=m.A0.A9},A3:=m.A3,B4:=m.B4,A6:=m.A6})) (.lf (false,m))) (.lf (false,m)); .br (e.B6==5) (.br (e.N==0) (.an (Qjl m.A0.C5 m.A0.Mem e.D0) (.lv (Q83 m.A0.C5 m.A0.Mem e.D0) λ(x3:Q0r×Bool×List Int)=> .lf (x3.2.1,{A0:={B2:=m.A0.B2,Mem:=x3.2.2,A4:=m.A0.A4,B0:=m.A0.B0,B1:=m.A0.B1,C5:=x3.1,A2:=m.A0.A2,A1:=m.A0.A1,A7:=m.A0.A7,A9:=m.A0.A9},A3:=m.A3,B4:=m.B4,A6:=m.A6}))) T3) T3);let T2:Tree ((Bool×Q01)):= .br (e.B6==3) (.br (decide (e.N<=255)) (.br (decide (e.D0=[])) (.an (Qmy m.A0.A4 (wrap u8 e.N)) (.lv (Qlr m.A0.A4 (wrap u8 e.N)) λ(x1:Q0d×Bool)=> .lf (x1.2,{A0:={B2:=m.A0.B2,Mem:=m.A0.Mem,A4:=x1.1,B0:=m.A0.B0,B1:=m.A0.B1,C5:=m.A0.C5,A2:=m.A0.A2,A1:=m.A0.A1,A7:=m.A0.A7,A9:=m.A0.A9},A3:=m.A3,B4:=m.B4,A6:=m.A6}))) T1) T1) T1; .br (e.B6==2) (.br (e.N==0) (.br (decide (e.D0=[])) (.lv (Q6x m.A0.B0) λ(x0:Q0i×Bool)=> .lf (x0.2,{A0:={B2:=m.A0.B2,Mem:=m.A0.Mem,A4:=m.A0.A4,B0:=x0.1,B1:=m.A0.B1,C5:=m.A0.C5,A2:=m.A0.A2,A1:=m.A0.A1,A7:=m.A0.A7,A9:=m.A0.A9},A3:=m.A3,B4:=m.B4,A6:=m.A6})) T2) T2) T2)
def Qkg m e:=(Q8u m e).m
abbrev Qno m e:=(Q8u m e).p
def Z5t:Q0e:=mT 161 [true,false] true [.ptr 0, .agg Q0a.sig] [.box 96 52 (Q01.sigW (.row 1) (.row 2) (.row 3)), .arr 25 1 (.ints .u32), .arr 126 4 (.recs .apiEntry), .arr 66 3 (.recs .apiEvent)] (λa r=>Q8u (Q01.ofW (r.getD 0 default).cs (rowL .u32 r 1) (rowR .apiEntry r 2) (rowR .apiEvent r 3)) (Q0a.of (aC a 1))) (λX=> .bool (X.1)) (λX=>[⟨true,96,52, .gen [(Q01.cellsW (X.2) (.all 1) (.all 2) (.all 3))]⟩,⟨false,25,1, .ints .u32 (X.2).A0.Mem⟩,⟨false,126,4, .recs .apiEntry (X.2).B4⟩,⟨false,66,3, .recs .apiEvent (X.2).A6⟩])
theorem Z4p:Q06 pG Z5t:=oT (.cons Qyl (.cons Qy4 (.cons Qrj (.cons Qrq (.nil))))) Tryz.func161 Tryz.call161 [.row 25 1 (.ints .u32), .row 126 4 (.recs .apiEntry), .row 66 3 (.recs .apiEvent)] [] 2
def Q7g(m:Q01)(e:Q0a):Tree (Bool×Q01):=
.an (Qno m e) (.lv (Qkg m e) λ(x0:Bool×Q01)=> .lf (x0.1,x0.2))
def Qhg m e:=(Q7g m e).m
abbrev Qm1 m e:=(Q7g m e).p
def Z4j:Q0e:=mT 159 [true,false] true [.ptr 0, .agg Q0a.sig] [.box 96 52 (Q01.sigW (.row 1) (.row 2) (.row 3)), .arr 25 1 (.ints .u32), .arr 126 4 (.recs .apiEntry), .arr 66 3 (.recs .apiEvent)] (λa r=>Q7g (Q01.ofW (r.getD 0 default).cs (rowL .u32 r 1) (rowR .apiEntry r 2) (rowR .apiEvent r 3)) (Q0a.of (aC a 1))) (λX=> .bool (X.1)) (λX=>[⟨true,96,52, .gen [(Q01.cellsW (X.2) (.all 1) (.all 2) (.all 3))]⟩,⟨false,25,1, .ints .u32 (X.2).A0.Mem⟩,⟨false,126,4, .recs .apiEntry (X.2).B4⟩,⟨false,66,3, .recs .apiEvent (X.2).A6⟩])
theorem Z0k:Q06 pG Z4j:=oT (.cons Z4p (.nil)) Tryz.func159 Tryz.call159 [.row 25 1 (.ints .u32), .row 126 4 (.recs .apiEntry), .row 66 3 (.recs .apiEvent)] [] 2
def Qas(r:Q01)(e:Q0a):Tree Q01:=
.an (Qm1 r e) (.lv (Qhg r e) λ(x0:Bool×Q01)=> .br x0.1 (.cn (decide (40*(x0.2.B4.length+1)<=140737488355328)) (.lf ({A0:=x0.2.A0,A3:=x0.2.A3,B4:=x0.2.B4++[{At:=x0.2.A0.A1,C0:=e}],A6:=x0.2.A6}))) (.lf x0.2))
def Qjd r e:=(Qas r e).m
abbrev Qjf r e:=(Qas r e).p
def Zcs:Q0e:=mkKP 1 213 [true,false] [.ptr 0, .agg Q0a.sig] [.box 96 52 (Q01.sigW (.row 1) (.row 2) (.row 3)), .arr 25 1 (.ints .u32), .arr 126 4 (.recs .apiEntry), .arr 66 3 (.recs .apiEvent)] (λa r=>Qjf (Q01.ofW (r.getD 0 default).cs (rowL .u32 r 1) (rowR .apiEntry r 2) (rowR .apiEvent r 3)) (Q0a.of (aC a 1))) (λa r=>Qjd (Q01.ofW (r.getD 0 default).cs (rowL .u32 r 1) (rowR .apiEntry r 2) (rowR .apiEvent r 3)) (Q0a.of (aC a 1))) (λX=> .tup []) (λX=>[⟨true,96,52, .gen [(Q01.cellsW X (.all 1) (.all 2) (.all 3))]⟩,⟨false,25,1, .ints .u32 X.A0.Mem⟩,⟨false,126,4, .recs .apiEntry X.B4⟩,⟨false,66,3, .recs .apiEvent X.A6⟩])
theorem Z5g:Q06 pG Zcs:=xz drawn Q0l (.cons Z0k (.nil)) Tryz.func213 Tryz.call213 (λa r=>Qas (Q01.ofW (r.getD 0 default).cs (rowL .u32 r 1) (rowR .apiEntry r 2) (rowR .apiEvent r 3)) (Q0a.of (aC a 1))) [.row 25 1 (.ints .u32), .row 126 4 (.recs .apiEntry), .row 66 3 (.recs .apiEvent)] [] 2 (λ_ _ _=>by kernel_rfl) (λ_ _=>rfl) (λ_ _ h=>h)
def Qjw(is:Bool)(n:Int):Tree Int:=
.br is (.cn (decide (0<=wrap u64 n)) (.lf (ishl u32 1 (wrap u64 n)))) (.lf 0)
def Qaa is n:=(Qjw is n).m
abbrev Qao is n:=(Qjw is n).p
def Zk:Q0e:=mT 104 [] true [.one (.bool), .one (.int .i64)] [] (λa r=>Qjw (argB a 0) (argI a 1)) (λX=> .int .u32 X) (λX=>[])
theorem Zgc:Q06 pG Zk:=oT (.nil) Tryz.func104 Tryz.call104 [] [] 2
def Qjm(t:Q0i):Tree Bool:=
.lf t.D5
def Qb3 t:=(Qjm t).m
def Qsp:Q0e:=mS 105 [] true [.agg Q0i.sig] [] (λa r=>Qjm (Q0i.of (aC a 0))) (λX=> .bool X) (λX=>[])
theorem Qr:Q06 pG Qsp:=oS (.nil) Tryz.func105 Tryz.call105 [] [] 2
def Qg1(c:Q0d):Tree Bool:=
.lf (decide ((c.D3.length:Int)>(0:Int)))
def Q62 c:=(Qg1 c).m
def Qpn:Q0e:=mS 106 [] true [.agg Q0d.sig] [] (λa r=>Qg1 (Q0d.of (aC a 0))) (λX=> .bool X) (λX=>[])
theorem Qnz:Q06 pG Qpn:=oS (.nil) Tryz.func106 Tryz.call106 [] [] 2
def Qko(d0:Q0g):Tree Bool:=
.br (d0.C1==2) (.lf true) (.lf (d0.C1==3))
def Qc9 d0:=(Qko d0).m
def Qvm:Q0e:=mS 107 [] true [.agg Q0g.sig] [] (λa r=>Qko (Q0g.of (aC a 0))) (λX=> .bool X) (λX=>[])
theorem Qs:Q06 pG Qvm:=oS (.nil) Tryz.func107 Tryz.call107 [] [] 2
def Qle(n:Q0r):Tree Bool:=
.lf n.B8
def Qed n:=(Qle n).m
def Qvz:Q0e:=mS 108 [] true [.agg Q0r.sig] [] (λa r=>Qle (Q0r.of (aC a 0))) (λX=> .bool X) (λX=>[])
theorem Qve:Q06 pG Qvz:=oS (.nil) Tryz.func108 Tryz.call108 [] [] 2
def Qod(b:Q07)(z:(Int)×(Int)):Prop:=0<=z.2/\z.2<=32
def Qh3(b:Q07)(z:(Int)×(Int)):Nat:=(32-z.2).toNat
def Qkj(b:Q07):Tree Int:=
.lp inferInstance (Qh3 b (0,0)+1) ((rZ/\rE (0:Int)/\rE (0:Int)/\True)/\(rE b.C9/\rE b.C3/\True)/\True) (0,0) λ(v0:Int×Int)=> .br (decide (v0.2<32)) (.cn (decide (0<=wrap u64 v0.2)) (.nx ((rZ/\rE ((wrap i64 (v0.1+wrap i64 (iand u32 (ishr u32 b.C3 (wrap u64 v0.2)) 1))):Int)/\rE ((wrap i64 (v0.2+1)):Int)/\True)/\(rE b.C9/\rE b.C3/\True)/\True) (Sum.inl (wrap i64 (v0.1+wrap i64 (iand u32 (ishr u32 b.C3 (wrap u64 v0.2)) 1)),wrap i64 (v0.2+1))))) (.lf (Sum.inr v0.1))
def Qf8 b:=(Qkj b).m
theorem Z5f(b:Q07):(Qkj b).p:=by
 unfold Tree.p Qkj
 repeat'(first|refine w_lp (inv:=Qod b) (μ:=Qh3 b) ?_ (cK _) (λ_ _=> ?_)|exact trivial|refine w_br (λ_=> ?_) (λ_=> ?_)|refine w_cn ?_ ?_|refine w_an ?_ ?_|refine w_lv (λ_ _=> ?_)|refine w_nx ?_|refine w_lf ?_|refine And.intro ?_ ?_)
 all_goals((try simp only[Qod,Qh3]at*);exact fin0)
def Zd:LInv:={
 α:=(Int)×(Int)
 F:=λst a=>([(1, .ptr 0 0 0),(3, .int i64 a.1),(4, .int i64 a.2)],[⟨true,40,2, .gen [[(cT st 1 0),(cT st 1 1)]]⟩])
 a0:=λst=>((lk st 3).toInt,(lk st 4).toInt)
 ex0:=λst=>[]++[(rX st 1 0)]}
def Z1n:List (Nat×LInv):=[(3,Zd)]
def Zhi:Q0e:=mS 177 [] true [.agg Q07.sig] [] (λa r=>Qkj (Q07.of (aC a 0))) (λX=> .int .i64 X) (λX=>[])
theorem Qt3:Q06 pG Zhi:=oS (.nil) Tryz.func177 Tryz.call177 [] Z1n 3 (λ_ _ _=>by kernel_rfl) (λa r=>Z5f (Q07.of (aC a 0))) (λ_ X=>by kernel_rfl)
def Qa7(b:Q07):Tree Bool:=
.lv (Qf8 b) λ(x0:Int)=> .lf (wrap u64 x0 !=wrap u64 b.C9)
def Q3y b:=(Qa7 b).m
def Qps:Q0e:=mS 109 [] true [.agg Q07.sig] [] (λa r=>Qa7 (Q07.of (aC a 0))) (λX=> .bool X) (λX=>[])
theorem Qnv:Q06 pG Qps:=oS (.cons Qt3 (.nil)) Tryz.func109 Tryz.call109 [] [] 2
def Qgf(m:Q00):Tree Int:=
.lv (Qb3 m.B0) λ(x0:Bool)=> .an (Qao x0 0) (.lv (Qaa x0 0) λ(x1:Int)=> .lv (Q62 m.A4) λ(x2:Bool)=> .an (Qao x2 1) (.lv (Qaa x2 1) λ(x3:Int)=> .lv (Qc9 m.B1) λ(x4:Bool)=> .an (Qao x4 2) (.lv (Qaa x4 2) λ(x5:Int)=> .lv (Qed m.C5) λ(x6:Bool)=> .an (Qao x6 3) (.lv (Qaa x6 3) λ(x7:Int)=> .lv (Q3y m.A2) λ(x8:Bool)=> .an (Qao x8 4) (.lv (Qaa x8 4) λ(x9:Int)=> .lf (ior u32 (ior u32 (ior u32 (ior u32 x1 x3) x5) x7) x9))))))
def Qhw m:=(Qgf m).m
abbrev Qrx m:=(Qgf m).p
def Zhp:Q0e:=mT 27 [] true [.agg Q00.sig] [] (λa r=>Qgf (Q00.of (aC a 0))) (λX=> .int .u32 X) (λX=>[])
theorem Zcl:Q06 pG Zhp:=oT (.cons Zgc (.cons Qr (.cons Qnz (.cons Qs (.cons Qve (.cons Qnv (.nil))))))) Tryz.func27 Tryz.call27 [] [] 2
def Q93(m:Q00):Tree Int:=
.an (Qrx m) (.lv (Qhw m) λ(x0:Int)=> .lf (iand u32 x0 m.B2.B5.a7))
def Q33 m:=(Q93 m).m
abbrev Qgv m:=(Q93 m).p
def Z5s:Q0e:=mT 111 [] true [.agg Q00.sig] [] (λa r=>Q93 (Q00.of (aC a 0))) (λX=> .int .u32 X) (λX=>[])
theorem Qpc:Q06 pG Z5s:=oT (.cons Zcl (.nil)) Tryz.func111 Tryz.call111 [] [] 2
def Qf(m:Q00):Tree Bool:=
.br m.A7 (.an (Qgv m) (.lv (Q33 m) λ(x0:Int)=> .lf (x0==0))) (.lf false)
def Q7j m:=(Qf m).m
abbrev Qhn m:=(Qf m).p
def Zj1:Q0e:=mT 29 [] true [.agg Q00.sig] [] (λa r=>Qf (Q00.of (aC a 0))) (λX=> .bool X) (λX=>[])
theorem Qp:Q06 pG Zj1:=oT (.cons Qpc (.nil)) Tryz.func29 Tryz.call29 [] [] 2
def Q8(m:Q00):Tree Bool:=
.lv (Q64 m) λ(x0:Bool)=> .br (!x0) (.lf true) (.br m.A9 (.lf true) (.an (Qhn m) (.lv (Q7j m) λ(x1:Bool)=> .br x1 (.lf true) (.lf (decide (m.A1>=1152921504606846976))))))
def Q0t m:=(Q8 m).m
abbrev Qfp m:=(Q8 m).p
def Zhw:Q0e:=mT 115 [] true [.agg Q00.sig] [] (λa r=>Q8 (Q00.of (aC a 0))) (λX=> .bool X) (λX=>[])
theorem Qtc:Q06 pG Zhw:=oT (.cons Qmu (.cons Qp (.nil))) Tryz.func115 Tryz.call115 [] [] 2
end
noncomputable section
def Z8e(b:Bool):Tree Int:=
.br b (.lf 1) (.lf 0)
def Qca b:=(Z8e b).m
def Zoq:Q0e:=mS 281 [] true [.one (.bool)] [] (λa r=>Z8e (argB a 0)) (λX=> .int .u32 X) (λX=>[])
theorem Qs0:Q06 pG Zoq:=oS (.nil) Tryz.func281 Tryz.call281 [] [] 2
def Qiw(c:Q05)(cause bad:Int):Tree Q05:=
.lv (Qca (iand u32 c.B5.a0 (1:Int) !=(0:Int))) λ(x0:Int)=> .lv (Qca (iand u32 c.B5.a0 (2:Int) !=(0:Int))) λ(x1:Int)=> .lf ({X:=c.X,Pc:=c.B5.a1,B5:={a0:=ior u32 (Qhj u32 (ior u32 (ior u32 (Qhj u32 c.B5.a0 24) (wrap u32 (8*x0))) (wrap u32 (16*x1))) 2) 1,a1:=c.B5.a1,a2:=c.Pc,a3:=wrap u32 cause,a4:=bad,a5:=c.B5.a5,a6:=c.B5.a6,a7:=c.B5.a7}})
def Q2y c cause bad:=(Qiw c cause bad).m
def Zit:Q0e:=mS 244 [] true [.agg Q05.sig, .one (.int .i64), .one (.int .u32)] [] (λa r=>Qiw (Q05.of (aC a 0)) (argI a 1) (argI a 2)) (λX=> .agg (Q05.cells X)) (λX=>[])
theorem Qkd:Q06 pG Zit:=oS (.cons Qs0 (.nil)) Tryz.func244 Tryz.call244 [] [] 2
def Q8c(m:List Int)(addr size:Int):Tree Bool:=
let T1:Tree (Bool):= .cn (decide (wrap u32 size≠0)) (.br (dB addr (wrap u32 size)==0) (.lv (Q3w m) λ(x0:Int)=> .lf (decide (addr<wrap u32 (wrap i64 (128*x0))))) (.lf false)); .br (size !=1) (.br (size !=4) (.lf false) T1) T1
def Q26 m addr size:=(Q8c m addr size).m
abbrev Qei m addr size:=(Q8c m addr size).p
def Zag:Q0e:=mT 245 [] true [.one (.ints .u32), .one (.int .u32), .one (.int .i64)] [] (λa r=>Q8c (argL .u32 a 0) (argI a 1) (argI a 2)) (λX=> .bool X) (λX=>[])
theorem Qkw:Q06 pG Zag:=oT (.cons Qdr (.nil)) Tryz.func245 Tryz.call245 [] [] 2
def Q44(m:List Int)(addr size:Int):Tree (Int×Bool):=
.an (Qei m addr size) (.lv (Q26 m addr size) λ(x0:Bool)=> .br (!x0) (.lf (0,false)) (.cn (bS 1 1&&bT 0 1&&decide (0<=wrap u32 (eS addr 4)/\wrap u32 (eS addr 4)<(m.length:Int))) (.br (size==1) (.cn (decide (0<=wrap u32 (8*dB addr 4))) (.lf (iand u32 (ishr u32 (m.getD (dC (wrap u32 (eS addr 4))) 0) (wrap u32 (8*dB addr 4))) 255,true))) (.lf (m.getD (dC (wrap u32 (eS addr 4))) 0,true)))))
def Q1e m addr size:=(Q44 m addr size).m
abbrev Qdt m addr size:=(Q44 m addr size).p
def Zkx:Q0e:=mT 187 [] true [.one (.ints .u32), .one (.int .u32), .one (.int .i64)] [] (λa r=>Q44 (argL .u32 a 0) (argI a 1) (argI a 2)) (λX=> .tup [.int .u32 (X.1), .bool (X.2)]) (λX=>[])
theorem Qp5:Q06 pG Zkx:=oT (.cons Qkw (.nil)) Tryz.func187 Tryz.call187 [] [] 2
def Q6o(w:Int):Tree (Q0m×Bool):=
.lv (Q2d (wrap i64 (ishr u32 w 24))) λ(x0:Int)=>let E5:=({Op:=0,A:=0,B:=0,C:=0,Imm:=0}:Q0m); .br (x0==0) (.lf (E5,false)) (.br (x0==2) (let E3:=({Op:=wrap i64 (ishr u32 w 24),A:=wrap i64 (iand u32 (ishr u32 w 20) 15),B:=wrap i64 (iand u32 (ishr u32 w 16) 15),C:=wrap i64 (iand u32 w 65535),Imm:=0}:Q0m); .lv (Q7h E3) λ(x1:Bool)=> .br (!x1) (.lf (E5,false)) (.lf (E3,true))) (let T1:Tree ((Q0m×Bool)):=let E2:=({Op:=wrap i64 (ishr u32 w 24),A:=wrap i64 (iand u32 (ishr u32 w 20) 15),B:=wrap i64 (iand u32 (ishr u32 w 16) 15),C:=0,Imm:=wrap i32 (wrap i16 (iand u32 w 65535))}:Q0m); .lv (Q7h E2) λ(x2:Bool)=> .br (!x2) (.lf (E5,false)) (.lf (E2,true)); .br (x0==3) T1 (.br (x0==7) T1 (let E4:=({Op:=wrap i64 (ishr u32 w 24),A:=wrap i64 (iand u32 (ishr u32 w 20) 15),B:=wrap i64 (iand u32 (ishr u32 w 16) 15),C:=0,Imm:=wrap i32 (iand u32 w 65535)}:Q0m); .lv (Q7h E4) λ(x4:Bool)=> .br (!x4) (.lf (E5,false)) (.lf (E4,true))))))
def Q21 w:=(Q6o w).m
def Zcz:Q0e:=mS 188 [] true [.one (.int .u32)] [] (λa r=>Q6o (argI a 0)) (λX=> .tup [.agg (Q0m.cells (X.1)), .bool (X.2)]) (λX=>[])
theorem Qrs:Q06 pG Zcz:=oS (.cons Qft (.cons Qta (.nil))) Tryz.func188 Tryz.call188 [] [] 2
def Qzf(access:Int):Tree Bool:=
.br (decide (access>=1)) (.lf (decide (access<=3))) (.lf false)
def Qep access:=(Qzf access).m
def Zgr:Q0e:=mS 292 [] true [.one (.int .i64)] [] (λa r=>Qzf (argI a 0)) (λX=> .bool X) (λX=>[])
theorem Qv6:Q06 pG Zgr:=oS (.nil) Tryz.func292 Tryz.call292 [] [] 2
def Qz0(c:Q05):Tree Bool:=
.lf (iand u32 c.B5.a0 (5:Int)==(4:Int))
def Ql9 c:=(Qz0 c).m
def Zeb:Q0e:=mS 293 [] true [.agg Q05.sig] [] (λa r=>Qz0 (Q05.of (aC a 0))) (λX=> .bool X) (λX=>[])
theorem Z9t:Q06 pG Zeb:=oS (.nil) Tryz.func293 Tryz.call293 [] [] 2
def Q8v(access:Int):Tree Int:=
.br (access==1) (.lf 4) (.br (access==3) (.lf 6) (.lf 5))
def Q25 access:=(Q8v access).m
def Z6q:Q0e:=mS 294 [] true [.one (.int .i64)] [] (λa r=>Q8v (argI a 0)) (λX=> .int .i64 X) (λX=>[])
theorem Qoa:Q06 pG Z6q:=oS (.nil) Tryz.func294 Tryz.call294 [] [] 2
def Q9f(m:List Int)(root va access:Int):Tree Q1a:=
.lv (Q25 access) λ(x0:Int)=> .lv (Q3w m) λ(x1:Int)=> .lv (Qep access) λ(x2:Bool)=>let E4:=({Addr:=0,F3:=0,F0:=x0}:Q1a); .br (!x2) (.lf (E4)) (.br (decide (va>=4096)) (.lf (E4)) (.br (decide (root>=wrap u32 x1)) (.lf (E4)) (let E6:=wrap u32 (root*128)+wrap u32 (4*wrap u32 (eS va 128));let E3:=eS (wrap u32 E6) 4; .cn (bS 1 1&&bT 0 1&&decide (0<=wrap u32 E3/\wrap u32 E3<(m.length:Int))) (let E5:=m.getD (dC (wrap u32 E3)) 0; .br (iand u32 E5 (1:Int)==(0:Int)) (.lf (E4)) (let T1:Tree (Q1a):= .br (decide (iand u32 (ishr u32 E5 8) 255>=wrap u32 x1)) (.lf (E4)) (.lf ({Addr:=wrap u32 (wrap u32 (iand u32 (ishr u32 E5 8) (255:Int)*(128:Int))+dB va 128),F3:=wrap u32 E6,F0:=0}));let T2:Tree (Q1a):= .br (access==1) (.br (iand u32 E5 (4:Int)==(0:Int)) (.lf (E4)) T1) T1; .br (access==3) (.br (iand u32 E5 (2:Int)==(0:Int)) (.lf (E4)) T2) T2)))))
def Q6v m root va access:=(Q9f m root va access).m
abbrev Qsx m root va access:=(Q9f m root va access).p
def Zjd:Q0e:=mT 295 [] true [.one (.ints .u32), .one (.int .u32), .one (.int .u32), .one (.int .i64)] [] (λa r=>Q9f (argL .u32 a 0) (argI a 1) (argI a 2) (argI a 3)) (λX=> .agg (Q1a.cells X)) (λX=>[])
theorem Zgv:Q06 pG Zjd:=oT (.cons Qoa (.cons Qdr (.cons Qv6 (.nil)))) Tryz.func295 Tryz.call295 [] [] 2
def Qff(m:List Int)(entry access:Int):Tree (List Int):=
.an (Qei m entry 4) (.lv (Q26 m entry 4) λ(x0:Bool)=> .br (!x0) (.lf m) (let E3:=bS 1 1&&bT 0 1&&decide (0<=wrap u32 (eS entry 4)/\wrap u32 (eS entry 4)<(m.length:Int)); .cn E3 (.cn E3 (let E4:=dC (wrap u32 (eS entry 4));let E1:=dD m E4 (ior u32 (m.getD E4 0) 8); .br (access==3) (let E2:=bS 1 1&&bT 0 1&&decide (0<=wrap u32 (eS entry 4)/\wrap u32 (eS entry 4)<(↑(dH E1):Int)); .cn E2 (.cn E2 (.lf (dD E1 E4 (ior u32 (aK E1 E4 0) 16))))) (.lf E1)))))
def Qop m entry access:=(Qff m entry access).m
abbrev Qsz m entry access:=(Qff m entry access).p
def Zik:Q0e:=mT 296 [true,false,false] true [.one (.row 0), .one (.int .u32), .one (.int .i64)] [.arr 25 1 (.ints .u32)] (λa r=>Qff (rowL .u32 r 0) (argI a 1) (argI a 2)) (λX=> .tup []) (λX=>[⟨false,25,1, .ints .u32 X⟩])
theorem Zdt:Q06 pG Zik:=oT (.cons Qkw (.nil)) Tryz.func296 Tryz.call296 [] [] 2
def Q7x(c:Q05)(m:List Int)(va size access:Int):Tree (Int×Int×(List Int)):=
.lv (Qep access) λ(x0:Bool)=> .br (!x0) (.lf (0,5,m)) (let T1:Tree ((Int×Int×(List Int))):= .cn (decide (wrap u32 size≠0)) (.br (dB va (wrap u32 size) !=0) (.lf (0,3,m)) (.lv (Ql9 c) λ(x1:Bool)=> .br (!x1) (.an (Qei m va size) (.lv (Q26 m va size) λ(x2:Bool)=> .br (!x2) (.lv (Q25 access) λ(x3:Int)=> .lf (0,x3,m)) (.lf (va,0,m)))) (.an (Qsx m c.B5.a6 va access) (.lv (Q6v m c.B5.a6 va access) λ(x4:Q1a)=> .br (x4.F0 !=0) (.lf (0,x4.F0,m)) (.an (Qsz m x4.F3 access) (.lv (Qop m x4.F3 access) λ(x5:List Int)=> .lf (x4.Addr,0,x5))))))); .br (size !=1) (.br (size !=4) (.lf (0,5,m)) T1) T1)
def Q17 c m va size access:=(Q7x c m va size access).m
abbrev Q8z c m va size access:=(Q7x c m va size access).p
def Zfo:Q0e:=mT 254 [false,true,false,false,false] true [.agg Q05.sig, .one (.row 0), .one (.int .u32), .one (.int .i64), .one (.int .i64)] [.arr 25 1 (.ints .u32)] (λa r=>Q7x (Q05.of (aC a 0)) (rowL .u32 r 0) (argI a 2) (argI a 3) (argI a 4)) (λX=> .tup [.int .u32 (X.1), .int .i64 (X.2.1)]) (λX=>[⟨false,25,1, .ints .u32 (X.2.2)⟩])
theorem Qux:Q06 pG Zfo:=oT (.cons Qv6 (.cons Z9t (.cons Qkw (.cons Qoa (.cons Zgv (.cons Zdt (.nil))))))) Tryz.func254 Tryz.call254 [] [] 2
def Qm4(op:Int):Tree Bool:=
.br (decide (op>=57)) (.lf (decide (op<=64))) (.lf false)
def Q3h op:=(Qm4 op).m
def Qxi:Q0e:=mS 255 [] true [.one (.int .i64)] [] (λa r=>Qm4 (argI a 0)) (λX=> .bool X) (λX=>[])
theorem Qtv:Q06 pG Qxi:=oS (.nil) Tryz.func255 Tryz.call255 [] [] 2
def Qej(c:Q05):Tree Q05:=
.lv (Qca (iand u32 c.B5.a0 (8:Int) !=(0:Int))) λ(x0:Int)=> .lv (Qca (iand u32 c.B5.a0 (16:Int) !=(0:Int))) λ(x1:Int)=> .lf ({X:=c.X,Pc:=c.B5.a2,B5:={a0:=ior u32 (ior u32 (Qhj u32 c.B5.a0 3) (wrap u32 (1*x0))) (wrap u32 (2*x1)),a1:=c.B5.a1,a2:=c.B5.a2,a3:=c.B5.a3,a4:=c.B5.a4,a5:=c.B5.a5,a6:=c.B5.a6,a7:=c.B5.a7}})
def Qib c:=(Qej c).m
def Zc8:Q0e:=mS 297 [] true [.agg Q05.sig] [] (λa r=>Qej (Q05.of (aC a 0))) (λX=> .agg (Q05.cells X)) (λX=>[])
theorem Z7a:Q06 pG Zc8:=oS (.cons Qs0 (.nil)) Tryz.func297 Tryz.call297 [] [] 2
def Qfc(c:Q05)(r v:Int):Tree Q05:=
.br (decide (r>0)) (.br (decide (r<16)) (.cn (bT 0 1&&decide (0<=r/\r<(↑16:Int))) (.lf ({X:=A16.of 0 (dD (A16.l c.X) r.toNat v),Pc:=c.Pc,B5:=c.B5}))) (.lf c)) (.lf c)
def Q1z c r v:=(Qfc c r v).m
abbrev Q35 c r v:=(Qfc c r v).p
def Zng:Q0e:=mT 219 [] true [.agg Q05.sig, .one (.int .i64), .one (.int .u32)] [] (λa r=>Qfc (Q05.of (aC a 0)) (argI a 1) (argI a 2)) (λX=> .agg (Q05.cells X)) (λX=>[])
theorem Qeq:Q06 pG Zng:=oT (.nil) Tryz.func219 Tryz.call219 [] [] 2
def Qd9(c:Q05)(csr v:Int):Tree Q05:=
let E4:=bT 0 1&&decide (0<=csr/\csr<(↑8:Int));let T2:Tree (Q05):= .cn E4 (.lf ({X:=c.X,Pc:=c.Pc,B5:=A8.of 0 (dD (A8.l c.B5) csr.toNat (iand u32 v 31))})); .br (csr==0) T2 (.br (csr==7) T2 (.br (csr==6) (.cn E4 (.lf ({X:=c.X,Pc:=c.Pc,B5:=A8.of 0 (dD (A8.l c.B5) csr.toNat (iand u32 v 255))}))) (let T3:Tree (Q05):= .cn E4 (.lf ({X:=c.X,Pc:=c.Pc,B5:=A8.of 0 (dD (A8.l c.B5) csr.toNat (Qhj u32 v 3))})); .br (csr==1) T3 (.br (csr==2) T3 (let T1:Tree (Q05):= .cn E4 (.lf ({X:=c.X,Pc:=c.Pc,B5:=A8.of 0 (dD (A8.l c.B5) csr.toNat v)})); .br (csr==3) T1 (.br (csr==4) T1 (.br (csr==5) T1 (.lf c))))))))
def Qi c csr v:=(Qd9 c csr v).m
abbrev Qrv c csr v:=(Qd9 c csr v).p
def Zfr:Q0e:=mT 298 [] true [.agg Q05.sig, .one (.int .i64), .one (.int .u32)] [] (λa r=>Qd9 (Q05.of (aC a 0)) (argI a 1) (argI a 2)) (λX=> .agg (Q05.cells X)) (λX=>[])
theorem Zav:Q06 pG Zfr:=oT (.nil) Tryz.func298 Tryz.call298 [] [] 2
def Q8g(c:Q05)(i:Q0m):Tree (Q05×Q16):=
.br (i.Op==56) (.lv (Q2y c 7 0) λ(x0:Q05)=> .lf (x0,{B6:=0,D1:=0,D9:=0,Value:=0})) (.br (i.Op==57) (.lv (Qib c) λ(x1:Q05)=> .lf (x1,{B6:=0,D1:=0,D9:=0,Value:=0})) (.br (i.Op==58) (.cn (bT 0 1&&decide (0<=i.Imm/\i.Imm<(↑8:Int))) (let E3:=aK (A8.l c.B5) i.Imm.toNat 0; .an (Q35 c i.A E3) (.lv (Q1z c i.A E3) λ(x2:Q05)=> .lf ({X:=x2.X,Pc:=wrap u32 (x2.Pc+4),B5:=x2.B5},{B6:=0,D1:=0,D9:=0,Value:=0})))) (let E2:=bT 0 1&&decide (0<=i.A/\i.A<(↑16:Int)); .br (i.Op==59) (.cn E2 (let E4:=aK (A16.l c.X) i.A.toNat 0; .an (Qrv c (wrap i64 i.Imm) E4) (.lv (Qi c (wrap i64 i.Imm) E4) λ(x3:Q05)=> .lf ({X:=x3.X,Pc:=wrap u32 (x3.Pc+4),B5:=x3.B5},{B6:=0,D1:=0,D9:=0,Value:=0})))) (let E1:=({X:=c.X,Pc:=wrap u32 (c.Pc+4),B5:=c.B5}:Q05); .br (i.Op==60) (.lf (E1,{B6:=1,D1:=wrap i64 i.Imm,D9:=i.A,Value:=0})) (.br (i.Op==61) (.cn E2 (.lf (E1,{B6:=2,D1:=wrap i64 i.Imm,D9:=0,Value:=aK (A16.l c.X) i.A.toNat 0}))) (.br (i.Op==62) (.lf (E1,{B6:=3,D1:=0,D9:=0,Value:=0})) (.br (i.Op==63) (.lf (E1,{B6:=5,D1:=0,D9:=0,Value:=0})) (.br (i.Op==64) (.lf (E1,{B6:=4,D1:=0,D9:=0,Value:=0})) (.lf (E1,{B6:=0,D1:=0,D9:=0,Value:=0}))))))))))
def Qje c i:=(Q8g c i).m
abbrev Qom c i:=(Q8g c i).p
def Zb6:Q0e:=mT 256 [] true [.agg Q05.sig, .agg Q0m.sig] [] (λa r=>Q8g (Q05.of (aC a 0)) (Q0m.of (aC a 1))) (λX=> .tup [.agg (Q05.cells (X.1)), .agg (Q16.cells (X.2))]) (λX=>[])
theorem Z6v:Q06 pG Zb6:=oT (.cons Qkd (.cons Z7a (.cons Qeq (.cons Zav (.nil))))) Tryz.func256 Tryz.call256 [] [] 2
def Qyt(op a b:Int):Tree Bool:=
.br (op==40) (.lf (a==b)) (.br (op==41) (.lf (a !=b)) (.br (op==42) (.lf (decide (wrap i32 a<wrap i32 b))) (.br (op==43) (.lf (decide (wrap i32 a>=wrap i32 b))) (.br (op==44) (.lf (decide (a<b))) (.lf (decide (a>=b)))))))
def Q2a op a b:=(Qyt op a b).m
def Zgx:Q0e:=mS 299 [] true [.one (.int .i64), .one (.int .u32), .one (.int .u32)] [] (λa r=>Qyt (argI a 0) (argI a 1) (argI a 2)) (λX=> .bool X) (λX=>[])
theorem Zc6:Q06 pG Zgx:=oS (.nil) Tryz.func299 Tryz.call299 [] [] 2
def Qin(c:Q05)(i:Q0m):Tree Q05:=
.br (i.Op==48) (.an (Q35 c i.A (wrap u32 (c.Pc+4))) (.lv (Q1z c i.A (wrap u32 (c.Pc+4))) λ(x0:Q05)=> .lf ({X:=x0.X,Pc:=wrap u32 (c.Pc+wrap u32 (4*wrap u32 i.Imm)),B5:=x0.B5}))) (let E1:=bT 0 1&&decide (0<=i.B/\i.B<(↑16:Int)); .br (i.Op==49) (.cn E1 (.an (Q35 c i.A (wrap u32 (c.Pc+4))) (.lv (Q1z c i.A (wrap u32 (c.Pc+4))) λ(x1:Q05)=> .lf ({X:=x1.X,Pc:=wrap u32 (aK (A16.l c.X) i.B.toNat 0+wrap u32 i.Imm),B5:=x1.B5})))) (.cn (bT 0 1&&decide (0<=i.A/\i.A<(↑16:Int))) (.cn E1 (.lv (Q2a i.Op (aK (A16.l c.X) i.A.toNat 0) (aK (A16.l c.X) i.B.toNat 0)) λ(x2:Bool)=> .br x2 (.lf ({X:=c.X,Pc:=wrap u32 (c.Pc+wrap u32 (4*wrap u32 i.Imm)),B5:=c.B5})) (.lf ({X:=c.X,Pc:=wrap u32 (c.Pc+4),B5:=c.B5}))))))
def Z3v c i:=(Qin c i).m
abbrev Qv7 c i:=(Qin c i).p
def Zjp:Q0e:=mT 257 [] true [.agg Q05.sig, .agg Q0m.sig] [] (λa r=>Qin (Q05.of (aC a 0)) (Q0m.of (aC a 1))) (λX=> .agg (Q05.cells X)) (λX=>[])
theorem Ze3:Q06 pG Zjp:=oT (.cons Qeq (.cons Zc6 (.nil))) Tryz.func257 Tryz.call257 [] [] 2
def Q7t(x n:Int):Tree Int:=
.br (decide (n<1)) (.lf 0) (.br (decide (n>=32)) (.lf x) (.cn (decide (0<=wrap u64 n)) (.cn (decide (0<=wrap u64 (wrap i64 (n-1)))) (let E1:=iand u32 x (wrap u32 (ishl u32 1 (wrap u64 n)-1)); .br (ishr u32 E1 (wrap u64 (wrap i64 (n-1)))==1) (.cn (decide (0<=wrap u64 n)) (.lf (ior u32 E1 (ishl u32 4294967295 (wrap u64 n))))) (.lf E1)))))
def Q3i x n:=(Q7t x n).m
abbrev Qcw x n:=(Q7t x n).p
def Qvv:Q0e:=mT 301 [] true [.one (.int .u32), .one (.int .i64)] [] (λa r=>Q7t (argI a 0) (argI a 1)) (λX=> .int .u32 X) (λX=>[])
theorem Quu:Q06 pG Qvv:=oT (.nil) Tryz.func301 Tryz.call301 [] [] 2
def Q9h(c:Q05)(m:List Int)(i:Q0m):Tree (Q05×(List Int)):=
.cn (bT 0 1&&decide (0<=i.B/\i.B<(↑16:Int))) (let E4:=wrap u32 (aK (A16.l c.X) i.B.toNat 0+wrap u32 i.Imm);let E5:=aK (A16.l c.X) i.A.toNat 0;let E6:=bT 0 1&&decide (0<=i.A/\i.A<(↑16:Int));let E7:=({X:=c.X,Pc:=wrap u32 (c.Pc+4),B5:=c.B5}:Q05);let T1:Tree ((Q05×(List Int))):=let T3:Tree ((Q05×(List Int))):= .an (Q8z c m E4 4 3) (.lv (Q17 c m E4 4 3) λ(x0:Int×Int×List Int)=> .br (x0.2.1 !=0) (.lv (Q2y c x0.2.1 E4) λ(x1:Q05)=> .lf (x1,x0.2.2)) (.cn E6 (.an (Qg5 x0.2.2 x0.1 4 E5) (.lv (Qak x0.2.2 x0.1 4 E5) λ(x2:List Int)=> .lf (E7,x2))))); .br (i.Op==35) T3 (.br (i.Op==36) T3 (.an (Q8z c m E4 4 2) (.lv (Q17 c m E4 4 2) λ(x6:Int×Int×List Int)=> .br (x6.2.1 !=0) (.lv (Q2y c x6.2.1 E4) λ(x7:Q05)=> .lf (x7,x6.2.2)) (.an (Qdt x6.2.2 x6.1 4) (.lv (Q1e x6.2.2 x6.1 4) λ(x8:Int×Bool)=> .br (i.Op==33) (.an (Qcw x8.1 8) (.lv (Q3i x8.1 8) λ(x9:Int)=> .an (Q35 c i.A x9) (.lv (Q1z c i.A x9) λ(x10:Q05)=> .lf ({X:=x10.X,Pc:=wrap u32 (x10.Pc+4),B5:=x10.B5},x6.2.2)))) (.an (Q35 c i.A x8.1) (.lv (Q1z c i.A x8.1) λ(x11:Q05)=> .lf ({X:=x11.X,Pc:=wrap u32 (x11.Pc+4),B5:=x11.B5},x6.2.2)))))))); .br (i.Op==32) T1 (.br (i.Op==35) T1 (let T2:Tree ((Q05×(List Int))):= .an (Q8z c m E4 1 3) (.lv (Q17 c m E4 1 3) λ(x24:Int×Int×List Int)=> .br (x24.2.1 !=0) (.lv (Q2y c x24.2.1 E4) λ(x25:Q05)=> .lf (x25,x24.2.2)) (.cn E6 (.an (Qg5 x24.2.2 x24.1 1 E5) (.lv (Qak x24.2.2 x24.1 1 E5) λ(x26:List Int)=> .lf (E7,x26))))); .br (i.Op==35) T2 (.br (i.Op==36) T2 (.an (Q8z c m E4 1 2) (.lv (Q17 c m E4 1 2) λ(x30:Int×Int×List Int)=> .br (x30.2.1 !=0) (.lv (Q2y c x30.2.1 E4) λ(x31:Q05)=> .lf (x31,x30.2.2)) (.an (Qdt x30.2.2 x30.1 1) (.lv (Q1e x30.2.2 x30.1 1) λ(x32:Int×Bool)=> .br (i.Op==33) (.an (Qcw x32.1 8) (.lv (Q3i x32.1 8) λ(x33:Int)=> .an (Q35 c i.A x33) (.lv (Q1z c i.A x33) λ(x34:Q05)=> .lf ({X:=x34.X,Pc:=wrap u32 (x34.Pc+4),B5:=x34.B5},x30.2.2)))) (.an (Q35 c i.A x32.1) (.lv (Q1z c i.A x32.1) λ(x35:Q05)=> .lf ({X:=x35.X,Pc:=wrap u32 (x35.Pc+4),B5:=x35.B5},x30.2.2)))))))))))
def Q5b c m i:=(Q9h c m i).m
abbrev Qly c m i:=(Q9h c m i).p
def Z3b:Q0e:=mT 258 [false,true,false] true [.agg Q05.sig, .one (.row 0), .agg Q0m.sig] [.arr 25 1 (.ints .u32)] (λa r=>Q9h (Q05.of (aC a 0)) (rowL .u32 r 0) (Q0m.of (aC a 2))) (λX=> .agg (Q05.cells (X.1))) (λX=>[⟨false,25,1, .ints .u32 (X.2)⟩])
theorem Qzi:Q06 pG Z3b:=oT (.cons Qux (.cons Qkd (.cons Z4o (.cons Qp5 (.cons Quu (.cons Qeq (.nil))))))) Tryz.func258 Tryz.call258 [] [] 2
def Qyq(op:Int):Tree Int:=
.br (op==16) (.lf 1) (.br (op==17) (.lf 3) (.br (op==18) (.lf 4) (.br (op==19) (.lf 5) (.br (op==20) (.lf 6) (.br (op==21) (.lf 7) (.br (op==22) (.lf 8) (.br (op==23) (.lf 12) (.lf op))))))))
def Z7z op:=(Qyq op).m
def Zft:Q0e:=mS 302 [] true [.one (.int .i64)] [] (λa r=>Qyq (argI a 0)) (λX=> .int .i64 X) (λX=>[])
theorem Zax:Q06 pG Zft:=oS (.nil) Tryz.func302 Tryz.call302 [] [] 2
def Qb4(a b:Int):Tree (Int×Int):=
.br (b==0) (.lf (4294967295,a)) (.cn (decide (wrap i64 (wrap i32 b)≠0)) (.cn (decide (wrap i64 (wrap i32 b)≠0)) (.lf (wrap u32 (wrap i64 (eS (wrap i64 (wrap i32 a)) (wrap i64 (wrap i32 b)))),wrap u32 (dB (wrap i64 (wrap i32 a)) (wrap i64 (wrap i32 b)))))))
def Qct a b:=(Qb4 a b).m
abbrev Qj a b:=(Qb4 a b).p
def Z9q:Q0e:=mT 303 [] true [.one (.int .u32), .one (.int .u32)] [] (λa r=>Qb4 (argI a 0) (argI a 1)) (λX=> .tup [.int .u32 (X.1), .int .u32 (X.2)]) (λX=>[])
theorem Z68:Q06 pG Z9q:=oT (.nil) Tryz.func303 Tryz.call303 [] [] 2
def Qll(op a b:Int):Tree (Int×Bool):=
.lv (Z7z op) λ(x0:Int)=> .br (x0==1) (.lf (wrap u32 (a+b),true)) (.br (x0==2) (.lf (wrap u32 (a-b),true)) (.br (x0==3) (.lf (iand u32 a b,true)) (.br (x0==4) (.lf (ior u32 a b,true)) (.br (x0==5) (.lf (ixor u32 a b,true)) (.br (x0==6) (.lf (ishl u32 a (iand u32 b 31),true)) (.br (x0==7) (.lf (ishr u32 a (iand u32 b 31),true)) (.br (x0==8) (.lf (wrap u32 (ishr i32 (wrap i32 a) (iand u32 b 31)),true)) (.br (x0==9) (.lf (wrap u32 (a*b),true)) (.br (x0==10) (.an (Qj a b) (.lv (Qct a b) λ(x1:Int×Int)=> .lf (x1.1,true))) (.br (x0==11) (.an (Qj a b) (.lv (Qct a b) λ(x2:Int×Int)=> .lf (x2.2,true))) (.br (x0==12) (.lv (Qca (decide (wrap i32 a<wrap i32 b))) λ(x3:Int)=> .lf (x3,true)) (.br (x0==13) (.lv (Qca (decide (a<b))) λ(x4:Int)=> .lf (x4,true)) (.lf (0,false))))))))))))))
def Qdw op a b:=(Qll op a b).m
abbrev Qo9 op a b:=(Qll op a b).p
def Zos:Q0e:=mT 259 [] true [.one (.int .i64), .one (.int .u32), .one (.int .u32)] [] (λa r=>Qll (argI a 0) (argI a 1) (argI a 2)) (λX=> .tup [.int .u32 (X.1), .bool (X.2)]) (λX=>[])
theorem Ziw:Q06 pG Zos:=oT (.cons Zax (.cons Z68 (.cons Qs0 (.nil)))) Tryz.func259 Tryz.call259 [] [] 2
def Qpg(c:Q05)(m:List Int):Tree (Q05×Q16×(List Int)):=
.an (Q8z c m c.Pc 4 1) (.lv (Q17 c m c.Pc 4 1) λ(x0:Int×Int×List Int)=> .br (x0.2.1 !=0) (.lv (Q2y c x0.2.1 c.Pc) λ(x1:Q05)=> .lf (x1,{B6:=0,D1:=0,D9:=0,Value:=0},x0.2.2)) (.an (Qdt x0.2.2 x0.1 4) (.lv (Q1e x0.2.2 x0.1 4) λ(x2:Int×Bool)=> .lv (Q21 x2.1) λ(x3:Q0m×Bool)=> .br (!x3.2) (.lv (Q2y c 1 x2.1) λ(x4:Q05)=> .lf (x4,{B6:=0,D1:=0,D9:=0,Value:=0},x0.2.2)) (.lv (Q3h x3.1.Op) λ(x5:Bool)=>let T1:Tree ((Q05×Q16×(List Int))):= .br (decide (x3.1.Op>=56)) (.an (Qom c x3.1) (.lv (Qje c x3.1) λ(x7:Q05×Q16)=> .lf (x7.1,x7.2,x0.2.2))) (.br (decide (x3.1.Op>=40)) (.an (Qv7 c x3.1) (.lv (Z3v c x3.1) λ(x8:Q05)=> .lf (x8,{B6:=0,D1:=0,D9:=0,Value:=0},x0.2.2))) (.br (decide (x3.1.Op>=32)) (.an (Qly c x0.2.2 x3.1) (.lv (Q5b c x0.2.2 x3.1) λ(x9:Q05×List Int)=> .lf (x9.1,{B6:=0,D1:=0,D9:=0,Value:=0},x9.2))) (.br (x3.1.Op==24) (.an (Q35 c x3.1.A (ishl u32 (wrap u32 x3.1.Imm) 16)) (.lv (Q1z c x3.1.A (ishl u32 (wrap u32 x3.1.Imm) 16)) λ(x10:Q05)=> .lf ({X:=x10.X,Pc:=wrap u32 (x10.Pc+4),B5:=x10.B5},{B6:=0,D1:=0,D9:=0,Value:=0},x0.2.2))) (let E2:=aK (A16.l c.X) x3.1.B.toNat 0;let E3:=bT 0 1&&decide (0<=x3.1.B/\x3.1.B<(↑16:Int)); .br (decide (x3.1.Op<=13)) (.cn (bT 0 1&&decide (0<=x3.1.C/\x3.1.C<(↑16:Int))) (.cn E3 (let E4:=aK (A16.l c.X) x3.1.C.toNat 0; .an (Qo9 x3.1.Op E2 E4) (.lv (Qdw x3.1.Op E2 E4) λ(x11:Int×Bool)=> .an (Q35 c x3.1.A x11.1) (.lv (Q1z c x3.1.A x11.1) λ(x12:Q05)=> .lf ({X:=x12.X,Pc:=wrap u32 (x12.Pc+4),B5:=x12.B5},{B6:=0,D1:=0,D9:=0,Value:=0},x0.2.2)))))) (.cn E3 (.an (Qo9 x3.1.Op E2 (wrap u32 x3.1.Imm)) (.lv (Qdw x3.1.Op E2 (wrap u32 x3.1.Imm)) λ(x13:Int×Bool)=> .an (Q35 c x3.1.A x13.1) (.lv (Q1z c x3.1.A x13.1) λ(x14:Q05)=> .lf ({X:=x14.X,Pc:=wrap u32 (x14.Pc+4),B5:=x14.B5},{B6:=0,D1:=0,D9:=0,Value:=0},x0.2.2))))))))); .br x5 (.br (iand u32 c.B5.a0 (1:Int)==(0:Int)) (.lv (Q2y c 2 x2.1) λ(x6:Q05)=> .lf (x6,{B6:=0,D1:=0,D9:=0,Value:=0},x0.2.2)) T1) T1))))
def Q7n c m:=(Qpg c m).m
abbrev Qsf c m:=(Qpg c m).p
def zB:Q0e:=mT 217 [false,true] true [.agg Q05.sig, .one (.row 0)] [.arr 25 1 (.ints .u32)] (λa r=>Qpg (Q05.of (aC a 0)) (rowL .u32 r 0)) (λX=> .tup [.agg (Q05.cells (X.1)), .agg (Q16.cells (X.2.1))]) (λX=>[⟨false,25,1, .ints .u32 (X.2.2)⟩])
theorem Z8y:Q06 pG zB:=oT (.cons Qux (.cons Qkd (.cons Qp5 (.cons Qrs (.cons Qtv (.cons Z6v (.cons Ze3 (.cons Qzi (.cons Qeq (.cons Ziw (.nil))))))))))) Tryz.func217 Tryz.call217 [] [] 2
end
noncomputable section
def Qdp(steps:Int):Tree Int:=
.lf (if 4000<if 0>steps then 0 else steps then 4000 else if 0>steps then 0 else steps)
def Q0n steps:=(Qdp steps).m
def Z4n:Q0e:=mS 158 [] true [.one (.int .i64)] [] (λa r=>Qdp (argI a 0)) (λX=> .int .i64 X) (λX=>[])
theorem Z0n:Q06 pG Z4n:=oS (.nil) Tryz.func158 Tryz.call158 [] [] 2
def Qvx(t:Q0i)(now:Int):Tree Bool:=
.br t.D2 (.lf (decide (now>=t.C8))) (.lf false)
def Q8h t now:=(Qvx t now).m
def Zo:Q0e:=mS 214 [] true [.agg Q0i.sig, .one (.int .u32)] [] (λa r=>Qvx (Q0i.of (aC a 0)) (argI a 1)) (λX=> .bool X) (λX=>[])
theorem Zio:Q06 pG Zo:=oS (.nil) Tryz.func214 Tryz.call214 [] [] 2
def Qem(m:Q00)(z:(Int)):Nat:=(32-z).toNat
def Q4x(m:Q00):Tree Q05:=
.an (Qgv m) (.lv (Q33 m) λ(x0:Int)=> .br (iand u32 m.B2.B5.a0 (2:Int)==(0:Int)) (.lf m.B2) (.br (x0==0) (.lf m.B2) (.lp inferInstance (Qem m 0+1) ((rZ/\rZ/\rE (x0:Int)/\rE (0:Int)/\True)/\(mE m (((Els.Nil (Els.ints u32 m.Mem)\/rE (1:Nat))/\rE m.Mem)) True)/\(rE (0:Int)/\rE (0:Int)/\rE (0:Int)/\rE (0:Int)/\rE (0:Int)/\rE (0:Int)/\rE (0:Int)/\rE (0:Int)/\rE (0:Int)/\rE (0:Int)/\rE (0:Int)/\rE (0:Int)/\rE (0:Int)/\rE (0:Int)/\rE (0:Int)/\rE (0:Int)/\rE (0:Int)/\rE (0:Int)/\rE (0:Int)/\rE (0:Int)/\rE (0:Int)/\rE (0:Int)/\rE (0:Int)/\rE (0:Int)/\rE (0:Int)/\True)/\True) 0 λ(v0:Int)=> .cn (decide (0<=wrap u64 v0)) (.br (iand u32 (ishr u32 x0 (wrap u64 v0)) (1:Int)==(0:Int)) (.nx ((rZ/\rZ/\rE (x0:Int)/\rE ((wrap i64 (v0+1)):Int)/\True)/\(mE m (((Els.Nil (Els.ints u32 m.Mem)\/rE (1:Nat))/\rE m.Mem)) True)/\(rE (0:Int)/\rE (0:Int)/\rE (0:Int)/\rE (0:Int)/\rE (0:Int)/\rE (0:Int)/\rE (0:Int)/\rE (0:Int)/\rE (0:Int)/\rE (0:Int)/\rE (0:Int)/\rE (0:Int)/\rE (0:Int)/\rE (0:Int)/\rE (0:Int)/\rE (0:Int)/\rE (0:Int)/\rE (0:Int)/\rE (0:Int)/\rE (0:Int)/\rE (0:Int)/\rE (0:Int)/\rE (0:Int)/\rE (0:Int)/\rE (0:Int)/\True)/\True) (Sum.inl (wrap i64 (v0+1)))) (.lv (Q2y m.B2 (wrap i64 (16+v0)) 0) λ(x1:Q05)=> .lf (Sum.inr x1))))))
def Q0o m:=(Q4x m).m
abbrev Q7e m:=(Q4x m).p
def Qsd:LInv:={
 α:=(Int)
 F:=λst a=>([(1, .ptr 0 0 0),(2, .ptr 1 0 0),(3,(lk st 3)),(4, .int i64 a)],[⟨true,43,49, .gen [mB (cT st 1)]⟩,⟨true,29,25, .gen [[(cT st 2 0),(cT st 2 1),(cT st 2 2),(cT st 2 3),(cT st 2 4),(cT st 2 5),(cT st 2 6),(cT st 2 7),(cT st 2 8),(cT st 2 9),(cT st 2 10),(cT st 2 11),(cT st 2 12),(cT st 2 13),(cT st 2 14),(cT st 2 15),(cT st 2 16),(cT st 2 17),(cT st 2 18),(cT st 2 19),(cT st 2 20),(cT st 2 21),(cT st 2 22),(cT st 2 23),(cT st 2 24)]]⟩])
 a0:=λst=>(lk st 4).toInt
 ex0:=λst=>[]++[(rX st 1 0),(rX st 2 1)]}
def Qoq:List (Nat×LInv):=[(5,Qsd)]
def Quw:Q0e:=mT 186 [] true [.agg Q00.sig] [] (λa r=>Q4x (Q00.of (aC a 0))) (λX=> .agg (Q05.cells X)) (λX=>[])
theorem Qcg:Q06 pG Quw:=oT (.cons Qpc (.cons Qkd (.nil))) Tryz.func186 Tryz.call186 [] Qoq 3
def Qfx(m:Q00):Tree Bool:=
.an (Q7e m) (.lv (Q0o m) λ(x0:Q05)=> .br (iand u32 x0.B5.a0 (1:Int)==(0:Int)) (.lf false) (.an (Qdt m.Mem x0.Pc 4) (.lv (Q1e m.Mem x0.Pc 4) λ(x1:Int×Bool)=> .lv (Q21 x1.1) λ(x2:Q0m×Bool)=> .br x1.2 (.br x2.2 (.br (x2.1.Op==60) (.lf (x2.1.Imm==2)) (.lf false)) (.lf false)) (.lf false))))
def Q1y m:=(Qfx m).m
abbrev Qc2 m:=(Qfx m).p
def Zf3:Q0e:=mT 116 [] true [.agg Q00.sig] [] (λa r=>Qfx (Q00.of (aC a 0))) (λX=> .bool X) (λX=>[])
theorem Qmt:Q06 pG Zf3:=oT (.cons Qcg (.cons Qp5 (.cons Qrs (.nil)))) Tryz.func116 Tryz.call116 [] [] 2
def Q7m(m:Q00):Tree Bool:=
.an (Qfp m) (.lv (Q0t m) λ(x0:Bool)=> .br x0 (.lf false) (.an (Qc2 m) (.lv (Q1y m) λ(x1:Bool)=> .lf x1)))
def Q0h m:=(Q7m m).m
abbrev Qcm m:=(Q7m m).p
def Qxu:Q0e:=mT 31 [] true [.agg Q00.sig] [] (λa r=>Q7m (Q00.of (aC a 0))) (λX=> .bool X) (λX=>[])
theorem Qud:Q06 pG Qxu:=oT (.cons Qtc (.cons Qmt (.nil))) Tryz.func31 Tryz.call31 [] [] 2
def Q3m(c:Q0d)(port:Int):Tree (Q0d×Int):=
let T1:Tree ((Q0d×Int)):= .br (port==0) (.cn (decide ((0:Int)<=(1:Int)/\1<=(c.D3.length:Int)/\(c.D3.length:Int)<=(c.D3.length:Int))) (.cn (decide ((0:Int)<=(0:Int)/\0<(c.D3.length:Int))) (.lf ({D3:=cY (dC (c.D3.length:Int)-dC 1) (cZ (dC 1) c.D3)},wrap u32 (↑(eU (c.D3.getD (dC 0) (0:UInt8))):Int))))) (.br (port==1) (.lf (c,wrap u32 (c.D3.length:Int))) (.lf (c,0))); .br (port==0) (.br ((c.D3.length:Int)==(0:Int)) (.lf (c,4294967295)) T1) T1
def Q5g c port:=(Q3m c port).m
theorem Qvf(c:Q0d)(port:Int):(Q3m c port).p:=by
 unfold Tree.p Q3m
 repeat'(first|exact trivial|refine w_br (λ_=> ?_) (λ_=> ?_)|refine w_cn ?_ ?_|refine w_an ?_ ?_|refine w_lv (λ_ _=> ?_)|refine w_nx ?_|refine w_lf ?_|refine And.intro ?_ ?_)
 all_goals(exact fin0)
def Qzo:Q0e:=mS 260 [] true [.agg Q0d.sig, .one (.int .i64)] [] (λa r=>Q3m (Q0d.of (aC a 0)) (argI a 1)) (λX=> .tup [.agg (Q0d.cells (X.1)), .int .u32 (X.2)]) (λX=>[])
theorem Ql5:Q06 pG Qzo:=oS (.nil) Tryz.func260 Tryz.call260 [] [] 2 (λ_ _ _=>by kernel_rfl) (λa r=>Qvf (Q0d.of (aC a 0)) (argI a 1)) (λ_ X=>by kernel_rfl)
def Qfo(t:Q0i):Tree Int:=
.br t.D5 (.lf 1) (.lf 0)
def Qgj t:=(Qfo t).m
def Z5k:Q0e:=mS 261 [] true [.agg Q0i.sig] [] (λa r=>Qfo (Q0i.of (aC a 0))) (λX=> .int .u32 X) (λX=>[])
theorem Qoj:Q06 pG Z5k:=oS (.nil) Tryz.func261 Tryz.call261 [] [] 2
def Qhc(d0:Q0g)(port:Int):Tree Int:=
.br (port==4) (.lf d0.C2) (.br (port==5) (.lf d0.Frame) (.br (port==6) (.lf (wrap u32 d0.C1)) (.lf 0)))
def Qic d0 port:=(Qhc d0 port).m
def Zcu:Q0e:=mS 262 [] true [.agg Q0g.sig, .one (.int .i64)] [] (λa r=>Qhc (Q0g.of (aC a 0)) (argI a 1)) (λX=> .int .u32 X) (λX=>[])
theorem Qr6:Q06 pG Zcu:=oS (.nil) Tryz.func262 Tryz.call262 [] [] 2
def Qgn(n:Q0r)(port:Int):Tree Int:=
.br (port==7) (.lf n.Frame) (.br (port==8) (.lf n.F1) (.br (port==9) (.br n.C7 (.br n.B8 (.lf (wrap u32 ((1:Int)+(2:Int)))) (.lf 1)) (.br n.B8 (.lf (wrap u32 ((0:Int)+(2:Int)))) (.lf 0))) (.lf 0)))
def Qhv n port:=(Qgn n port).m
def Zfe:Q0e:=mS 263 [] true [.agg Q0r.sig, .one (.int .i64)] [] (λa r=>Qgn (Q0r.of (aC a 0)) (argI a 1)) (λX=> .int .u32 X) (λX=>[])
theorem Qva:Q06 pG Zfe:=oS (.nil) Tryz.func263 Tryz.call263 [] [] 2
def Q6a(b:Q07)(port:Int):Tree Int:=
.br (port==10) (.lf b.C9) (.br (port==11) (.lv (Qf8 b) λ(x0:Int)=> .lf (wrap u32 x0)) (.lf 0))
def Q5c b port:=(Q6a b port).m
def Z09:Q0e:=mS 264 [] true [.agg Q07.sig, .one (.int .i64)] [] (λa r=>Q6a (Q07.of (aC a 0)) (argI a 1)) (λX=> .int .u32 X) (λX=>[])
theorem Qlk:Q06 pG Z09:=oS (.cons Qt3 (.nil)) Tryz.func264 Tryz.call264 [] [] 2
def Qlo(m:Q00)(port clock:Int):Tree (Int×Q00):=
.br (decide (port<=1)) (.lv (Q5g m.A4 port) λ(x0:Q0d×Int)=> .lf (x0.2,{B2:=m.B2,Mem:=m.Mem,A4:=x0.1,B0:=m.B0,B1:=m.B1,C5:=m.C5,A2:=m.A2,A1:=m.A1,A7:=m.A7,A9:=m.A9})) (.br (port==2) (.lf (clock,m)) (.br (port==3) (.lv (Qgj m.B0) λ(x1:Int)=> .lf (x1,m)) (.br (decide (port<=6)) (.lv (Qic m.B1 port) λ(x2:Int)=> .lf (x2,m)) (.br (decide (port<=9)) (.lv (Qhv m.C5 port) λ(x3:Int)=> .lf (x3,m)) (.lv (Q5c m.A2 port) λ(x4:Int)=> .lf (x4,m))))))
def Qee m port clock:=(Qlo m port clock).m
def yB:Q0e:=mS 218 [true,false,false] true [.ptr 0, .one (.int .i64), .one (.int .u32)] [.box 43 49 (Q00.sigW (.row 1)), .arr 25 1 (.ints .u32)] (λa r=>Qlo (Q00.ofW (r.getD 0 default).cs (rowL .u32 r 1)) (argI a 1) (argI a 2)) (λX=> .int .u32 (X.1)) (λX=>[⟨true,43,49, .gen [(Q00.cellsW (X.2) (.all 1))]⟩,⟨false,25,1, .ints .u32 (X.2).Mem⟩])
theorem Zp6:Q06 pG yB:=oS (.cons Ql5 (.cons Qoj (.cons Qr6 (.cons Qva (.cons Qlk (.nil)))))) Tryz.func218 Tryz.call218 [.row 25 1 (.ints .u32)] [] 2
def Qx(deadline:Int):Tree Q0i:=
.br (deadline==0) (.lf ({D2:=false,C8:=0,D5:=false})) (.lf ({D2:=true,C8:=deadline,D5:=false}))
def Qt6 deadline:=(Qx deadline).m
def Znb:Q0e:=mS 265 [] true [.one (.int .u32)] [] (λa r=>Qx (argI a 0)) (λX=> .agg (Q0i.cells X)) (λX=>[])
theorem Z59:Q06 pG Znb:=oS (.nil) Tryz.func265 Tryz.call265 [] [] 2
def Qup(x n:Int)(z:(Int)×(List Int)):Prop:=0<=z.1/\(z.2.length:Int)=z.1/\(z.1<=n\/z.1=0)
def Qfg(x n:Int)(z:(Int)×(List Int)):Nat:=(n-z.1).toNat
def Qhx(x n:Int):Tree (List UInt8):=
.lp inferInstance (Qfg x n (0,[])+1) ((rE (x:Int)/\rE (n:Int)/\True/\rE (0:Int)/\True)/\rE ([]:List Int)/\True) (0,[]) λ(v0:Int×List Int)=> .br (decide (v0.1<n)) (.cn (decide (0<=wrap u64 (wrap i64 (8*v0.1)))) (.cn (decide (1*(v0.2.length+1)<=140737488355328)) (.nx ((rE (x:Int)/\rE (n:Int)/\True/\rE ((wrap i64 (v0.1+1)):Int)/\True)/\rE ((v0.2++[wrap u8 (ishr u32 x (wrap u64 (wrap i64 (8*v0.1))))]):List Int)/\True) (Sum.inl (wrap i64 (v0.1+1),v0.2++[wrap u8 (ishr u32 x (wrap u64 (wrap i64 (8*v0.1))))]))))) (.lf (Sum.inr (bytesOf v0.2)))
def Za4 x n:=(Qhx x n).m
def Qkn(x n:Int):Prop:=
n<=1000000000000
theorem Zhr(x n:Int)(hw:Qkn x n):(Qhx x n).p:=by
 simp only[Qkn]at hw
 unfold Tree.p Qhx
 repeat'(first|refine w_lp (inv:=Qup x n) (μ:=Qfg x n) ?_ (cK _) (λ_ _=> ?_)|exact trivial|refine w_br (λ_=> ?_) (λ_=> ?_)|refine w_cn ?_ ?_|refine w_an ?_ ?_|refine w_lv (λ_ _=> ?_)|refine w_nx ?_|refine w_lf ?_|refine And.intro ?_ ?_)
 all_goals((try simp only[Qup,Qfg]at*);exact fin0)
def Zji:LInv:={
 α:=(Int)×(List Int)
 F:=λst a=>([(0,(lk st 0)),(1,(lk st 1)),(5, .all 0),(6, .int i64 a.1)],[⟨false,5,1, .ints u8 a.2⟩])
 a0:=λst=>((lk st 6).toInt,(Q46 st.rows (rN st 5)))
 ex0:=λst=>[]++[(rX st 5 0)]}
def Zad:List (Nat×LInv):=[(3,Zji)]
def Zoj:Q0e:=mkP 315 [] true [.one (.int .u32), .one (.int .i64)] [] (λa r=>Qkn (argI a 0) (argI a 1)) (λa r=>Za4 (argI a 0) (argI a 1)) (λX=> .str X) (λX=>[])
theorem Zi:Q06 pG Zoj:=Q0p drawn Q0l (.nil) Tryz.func315 Tryz.call315 (λa r=>Qhx (argI a 0) (argI a 1)) [] Zad 3 (hp:=λa r h=>Zhr (argI a 0) (argI a 1) h)
def Qj1(m:List Int)(frame:Int)(z:(Int)×(List Int)):Nat:=(32-z.1).toNat
def Qa0(m:List Int)(frame:Int):Tree ((List UInt8)×Bool):=
.br (decide (frame<0)) (.lf ([],false)) (.lv (Q3w m) λ(x0:Int)=> .br (decide (frame>=x0)) (.lf ([],false)) (.lp inferInstance (Qj1 m frame (0,[])+1) ((((Els.Nil (Els.ints u32 m)\/rE (1:Nat))/\rE (m:List Int))/\rE (frame:Int)/\True/\rE (0:Int)/\True)/\rE ([]:List Int)/\True) (0,[]) λ(v0:Int×List Int)=> .br (decide (v0.1<32)) (.cn (bS 1 1&&bT 0 1&&decide (0<=wrap i64 (wrap i64 (frame*32)+v0.1)/\wrap i64 (wrap i64 (frame*32)+v0.1)<(m.length:Int))) (let E1:=m.getD (dC (wrap i64 (wrap i64 (frame*32)+v0.1))) 0; .an (Qkn E1 4) (.lv (Za4 E1 4) λ(x1:List UInt8)=> .cn (decide (1*(v0.2.length+dH (Qbl x1))<=140737488355328)) (.nx ((((Els.Nil (Els.ints u32 m)\/rE (1:Nat))/\rE (m:List Int))/\rE (frame:Int)/\True/\rE ((wrap i64 (v0.1+1)):Int)/\True)/\rE ((v0.2++Qbl x1):List Int)/\True) (Sum.inl (wrap i64 (v0.1+1),v0.2++Qbl x1)))))) (.lf (Sum.inr (bytesOf v0.2,true)))))
def Qj9 m frame:=(Qa0 m frame).m
abbrev Qhs m frame:=(Qa0 m frame).p
def Zh0:LInv:={
 α:=(Int)×(List Int)
 F:=λst a=>([(0,(lk st 0)),(1,(lk st 1)),(6, .all 0),(7, .int i64 a.1)],[⟨false,5,1, .ints u8 a.2⟩])
 a0:=λst=>((lk st 7).toInt,(Q46 st.rows (rN st 6)))
 ex0:=λst=>[]++[(rX st 6 0)]}
def Z64:List (Nat×LInv):=[(5,Zh0)]
def Zk8:Q0e:=mT 304 [] true [.one (.ints .u32), .one (.int .i64)] [] (λa r=>Qa0 (argL .u32 a 0) (argI a 1)) (λX=> .tup [.str (X.1), .bool (X.2)]) (λX=>[])
theorem Qz5:Q06 pG Zk8:=oT (.cons Qdr (.cons Zi (.nil))) Tryz.func304 Tryz.call304 [] Z64 3
def Qr5(d0:Q0g)(at0:Int):Tree (Q03×Bool):=
.br (d0.C1 !=1) (.lf ({B6:=0,At:=0,C2:=0,D0:=[]},false)) (.br (d0.D8==1) (.lf ({B6:=3,At:=at0,C2:=d0.B7,D0:=[]},true)) (.br (d0.D8==2) (.lf ({B6:=4,At:=at0,C2:=d0.B7,D0:=d0.C4},true)) (.lf ({B6:=0,At:=0,C2:=0,D0:=[]},false))))
def Qke d0 at0:=(Qr5 d0 at0).m
def Z6e:Q0e:=mS 305 [] true [.agg Q0g.sig, .one (.int .u64)] [] (λa r=>Qr5 (Q0g.of (aC a 0)) (argI a 1)) (λX=> .tup [.agg (Q03.cells (X.1)), .bool (X.2)]) (λX=>[])
theorem Z48:Q06 pG Z6e:=oS (.nil) Tryz.func305 Tryz.call305 [] [] 2
def Q8t(d0:Q0g)(m:List Int)(port v at0:Int):Tree (Q0g×(List Q03)):=
.br (port==4) (.lf ({Blocks:=d0.Blocks,C2:=v,Frame:=d0.Frame,C1:=d0.C1,D8:=d0.D8,B7:=d0.B7,B3:=d0.B3,C4:=d0.C4},[])) (.br (port==5) (.lf ({Blocks:=d0.Blocks,C2:=d0.C2,Frame:=v,C1:=d0.C1,D8:=d0.D8,B7:=d0.B7,B3:=d0.B3,C4:=d0.C4},[])) (.br (port !=6) (.lf (d0,[])) (let T1:Tree ((Q0g×(List Q03))):= .br (d0.C1==0) (let T2:Tree ((Q0g×(List Q03))):= .lf ({Blocks:=d0.Blocks,C2:=d0.C2,Frame:=d0.Frame,C1:=3,D8:=d0.D8,B7:=d0.B7,B3:=d0.B3,C4:=d0.C4},[]); .br (decide (d0.C2>=d0.Blocks)) T2 (.lv (Q29 m d0.Frame) λ(x0:Bool)=> .br (!x0) T2 (.br (v==2) (.an (Qhs m (wrap i64 d0.Frame)) (.lv (Qj9 m (wrap i64 d0.Frame)) λ(x1:List UInt8×Bool)=>let E4:=({Blocks:=d0.Blocks,C2:=d0.C2,Frame:=d0.Frame,C1:=1,D8:=wrap i64 v,B7:=d0.C2,B3:=d0.Frame,C4:=x1.1}:Q0g); .lv (Qke E4 at0) λ(x2:Q03×Bool)=> .lf (E4,[x2.1]))) (let E5:=({Blocks:=d0.Blocks,C2:=d0.C2,Frame:=d0.Frame,C1:=1,D8:=wrap i64 v,B7:=d0.C2,B3:=d0.Frame,C4:=[]}:Q0g); .lv (Qke E5 at0) λ(x3:Q03×Bool)=> .lf (E5,[x3.1]))))) (.lf (d0,[])); .br (v==0) (let T3:Tree ((Q0g×(List Q03))):= .lf ({Blocks:=d0.Blocks,C2:=d0.C2,Frame:=d0.Frame,C1:=0,D8:=d0.D8,B7:=d0.B7,B3:=d0.B3,C4:=d0.C4},[]); .br (d0.C1==2) T3 (.br (d0.C1==3) T3 (.br (v==1) T1 (.br (v==2) T1 (.lf (d0,[])))))) (.br (v==1) T1 (.br (v==2) T1 (.lf (d0,[])))))))
def Qg2 d0 m port v at0:=(Q8t d0 m port v at0).m
abbrev Qgx d0 m port v at0:=(Q8t d0 m port v at0).p
def Z61:Q0e:=mT 266 [] true [.agg Q0g.sig, .one (.ints .u32), .one (.int .i64), .one (.int .u32), .one (.int .u64)] [] (λa r=>Q8t (Q0g.of (aC a 0)) (argL .u32 a 1) (argI a 2) (argI a 3) (argI a 4)) (λX=> .tup [.agg (Q0g.cells (X.1)), .sl 4 (.recs .apiOutput (X.2)) true]) (λX=>[])
theorem Qoz:Q06 pG Z61:=oT (.cons Qg (.cons Qz5 (.cons Z48 (.nil)))) Tryz.func266 Tryz.call266 [.sl (.recs .apiOutput) true] [] 2
def Qap(n:Q0r)(m:List Int)(port v at0:Int):Tree (Q0r×(List Q03)):=
.br (port==7) (.lf ({Frame:=v,E0:=n.E0,C7:=n.C7,B9:=n.B9,B8:=n.B8,F1:=n.F1},[])) (.br (port==8) (.lf ({Frame:=n.Frame,E0:=v,C7:=n.C7,B9:=n.B9,B8:=n.B8,F1:=n.F1},[])) (.br (port !=9) (.lf (n,[])) (.br (v==0) (.lf ({Frame:=n.Frame,E0:=n.E0,C7:=n.C7,B9:=n.B9,B8:=false,F1:=0},[])) (let T1:Tree ((Q0r×(List Q03))):= .br (v==2) (.lv (Q29 m n.Frame) λ(x2:Bool)=> .br x2 (.br (!n.C7) (.br (!n.B8) (.lf ({Frame:=n.Frame,E0:=n.E0,C7:=true,B9:=n.Frame,B8:=n.B8,F1:=n.F1},[])) (.lf (n,[]))) (.lf (n,[]))) (.lf (n,[]))) (.lf (n,[])); .br (v==1) (.br (decide (n.E0>=1)) (.br (decide (n.E0<=128)) (.lv (Q29 m n.Frame) λ(x0:Bool)=> .br x0 (.an (Qhs m (wrap i64 n.Frame)) (.lv (Qj9 m (wrap i64 n.Frame)) λ(x1:List UInt8×Bool)=> .cn (decide ((0:Int)<=(0:Int)/\0<=n.E0/\n.E0<=(x1.1.length:Int))) (.lf (n,[{B6:=2,At:=at0,C2:=0,D0:=cY (dC n.E0-dC 0) (cZ (dC 0) x1.1)}])))) T1) T1) T1) T1))))
def Qij n m port v at0:=(Qap n m port v at0).m
abbrev Qii n m port v at0:=(Qap n m port v at0).p
def Zce:Q0e:=mT 267 [] true [.agg Q0r.sig, .one (.ints .u32), .one (.int .i64), .one (.int .u32), .one (.int .u64)] [] (λa r=>Qap (Q0r.of (aC a 0)) (argL .u32 a 1) (argI a 2) (argI a 3) (argI a 4)) (λX=> .tup [.agg (Q0r.cells (X.1)), .sl 4 (.recs .apiOutput (X.2)) true]) (λX=>[])
theorem Qr4:Q06 pG Zce:=oT (.cons Qg (.cons Qz5 (.nil))) Tryz.func267 Tryz.call267 [.sl (.recs .apiOutput) true] [] 2
def Qjo(b:Q07)(m:List Int)(port v:Int)(z:(Int)×(List Int)):Nat:=(32-z.1).toNat
def Q50(b:Q07)(m:List Int)(port v:Int):Tree (Q07×(List Int)):=
let T1:Tree ((Q07×(List Int))):= .br (port==11) (.br (decide (v<32)) (.cn (decide (0<=v)) (.lf ({C9:=b.C9,C3:=Qhj u32 b.C3 (ishl u32 1 v)},m))) (.lf (b,m))) (.lf (b,m)); .br (port==10) (.lv (Q29 m v) λ(x0:Bool)=> .br x0 (.cn (decide (0<=v)) (.br (iand u32 (ishr u32 b.C3 v) (1:Int)==(0:Int)) (.cn (decide (0<=v)) (.lp inferInstance (Qjo b m port v (0,m)+1) ((True/\rE (v:Int)/\rZ/\rZ/\rE (0:Int)/\True)/\rE (m:List Int)/\(rE b.C9/\rE ((ior u32 b.C3 (ishl u32 1 v)):Int)/\True)/\(rE (0:Int)/\rE (0:Int)/\True)/\True) (0,m) λ(v0:Int×List Int)=> .br (decide (v0.1<32)) (let E2:=wrap i64 (wrap i64 v*32)+v0.1; .cn (bS 1 1&&bT 0 1&&decide (0<=wrap i64 E2/\wrap i64 E2<(v0.2.length:Int))) (.nx ((True/\rE (v:Int)/\rZ/\rZ/\rE ((wrap i64 (v0.1+1)):Int)/\True)/\rE ((dD v0.2 (dC (wrap i64 (wrap i64 (wrap i64 v*32)+v0.1))) 0):List Int)/\(rE b.C9/\rE ((ior u32 b.C3 (ishl u32 1 v)):Int)/\True)/\(rE (0:Int)/\rE (0:Int)/\True)/\True) (Sum.inl (wrap i64 (v0.1+1),dD v0.2 (dC (wrap i64 E2)) 0)))) (.lf (Sum.inr ({C9:=b.C9,C3:=ior u32 b.C3 (ishl u32 1 v)},v0.2))))) T1)) T1) T1
def Q6n b m port v:=(Q50 b m port v).m
abbrev Qma b m port v:=(Q50 b m port v).p
def Zf6:LInv:={
 α:=(Int)×(List Int)
 F:=λst a=>([(1, .all 0),(3,(lk st 3)),(4, .ptr 1 0 0),(8, .ptr 2 0 0),(9, .int i64 a.1)],[⟨false,25,1, .ints u32 a.2⟩,⟨true,40,2, .gen [[(cT st 4 0),(cT st 4 1)]]⟩,⟨true,40,2, .gen [[(cT st 8 0),(cT st 8 1)]]⟩])
 a0:=λst=>((lk st 9).toInt,(Q46 st.rows 0))
 ex0:=λst=>[0]++[(rX st 4 1),(rX st 8 2)]}
def Z5m:List (Nat×LInv):=[(4,Zf6)]
def Zj2:Q0e:=mT 268 [false,true,false,false] true [.agg Q07.sig, .one (.row 0), .one (.int .i64), .one (.int .u32)] [.arr 25 1 (.ints .u32)] (λa r=>Q50 (Q07.of (aC a 0)) (rowL .u32 r 0) (argI a 2) (argI a 3)) (λX=> .agg (Q07.cells (X.1))) (λX=>[⟨false,25,1, .ints .u32 (X.2)⟩])
theorem Qyu:Q06 pG Zj2:=oT (.cons Qg (.nil)) Tryz.func268 Tryz.call268 [] Z5m 3
def Qfe(m:Q00)(port v:Int):Tree ((List Q03)×Q00):=
.br (port==0) (.lf ([{B6:=1,At:=m.A1,C2:=0,D0:=[(λ(n:Int)=>eV n.toNat) (wrap u8 v)]}],m)) (.br (decide (port<=2)) (.lf ([],m)) (.br (port==3) (.lv (Qt6 v) λ(x0:Q0i)=> .lf ([],{B2:=m.B2,Mem:=m.Mem,A4:=m.A4,B0:=x0,B1:=m.B1,C5:=m.C5,A2:=m.A2,A1:=m.A1,A7:=m.A7,A9:=m.A9})) (.br (decide (port<=6)) (.an (Qgx m.B1 m.Mem port v m.A1) (.lv (Qg2 m.B1 m.Mem port v m.A1) λ(x1:Q0g×List Q03)=> .lf (x1.2,{B2:=m.B2,Mem:=m.Mem,A4:=m.A4,B0:=m.B0,B1:=x1.1,C5:=m.C5,A2:=m.A2,A1:=m.A1,A7:=m.A7,A9:=m.A9}))) (.br (decide (port<=9)) (.an (Qii m.C5 m.Mem port v m.A1) (.lv (Qij m.C5 m.Mem port v m.A1) λ(x2:Q0r×List Q03)=> .lf (x2.2,{B2:=m.B2,Mem:=m.Mem,A4:=m.A4,B0:=m.B0,B1:=m.B1,C5:=x2.1,A2:=m.A2,A1:=m.A1,A7:=m.A7,A9:=m.A9}))) (.an (Qma m.A2 m.Mem port v) (.lv (Q6n m.A2 m.Mem port v) λ(x3:Q07×List Int)=> .lf ([],{B2:=m.B2,Mem:=x3.2,A4:=m.A4,B0:=m.B0,B1:=m.B1,C5:=m.C5,A2:=x3.1,A1:=m.A1,A7:=m.A7,A9:=m.A9})))))))
def Qb2 m port v:=(Qfe m port v).m
abbrev Qy7 m port v:=(Qfe m port v).p
def Znl:Q0e:=mT 220 [true,false,false] true [.ptr 0, .one (.int .i64), .one (.int .u32)] [.box 43 49 (Q00.sigW (.row 1)), .arr 25 1 (.ints .u32)] (λa r=>Qfe (Q00.ofW (r.getD 0 default).cs (rowL .u32 r 1)) (argI a 1) (argI a 2)) (λX=> .sl 4 (.recs .apiOutput (X.1)) true) (λX=>[⟨true,43,49, .gen [(Q00.cellsW (X.2) (.all 1))]⟩,⟨false,25,1, .ints .u32 (X.2).Mem⟩])
theorem Zko:Q06 pG Znl:=oT (.cons Z59 (.cons Qoz (.cons Qr4 (.cons Qyu (.nil))))) Tryz.func220 Tryz.call220 [.sl (.recs .apiOutput) true, .row 25 1 (.ints .u32)] [] 2
def Q9(m:Q00)(clock:Int):Tree ((List Q03)×Q00):=
.an (Q7e m) (.lv (Q0o m) λ(x0:Q05)=> .an (Qsf x0 m.Mem) (.lv (Q7n x0 m.Mem) λ(x1:Q05×Q16×List Int)=>let E1:=({B2:=x1.1,Mem:=x1.2.2,A4:=m.A4,B0:=m.B0,B1:=m.B1,C5:=m.C5,A2:=m.A2,A1:=m.A1,A7:=false,A9:=m.A9}:Q00); .br (x1.2.1.B6==1) (.lv (Qee E1 x1.2.1.D1 clock) λ(x2:Int×Q00)=> .an (Q35 x2.2.B2 x1.2.1.D9 x2.1) (.lv (Q1z x2.2.B2 x1.2.1.D9 x2.1) λ(x3:Q05)=> .lf ([],{B2:=x3,Mem:=x2.2.Mem,A4:=x2.2.A4,B0:=x2.2.B0,B1:=x2.2.B1,C5:=x2.2.C5,A2:=x2.2.A2,A1:=wrap u64 (x2.2.A1+1),A7:=x2.2.A7,A9:=x2.2.A9}))) (.br (x1.2.1.B6==2) (.an (Qy7 E1 x1.2.1.D1 x1.2.1.Value) (.lv (Qb2 E1 x1.2.1.D1 x1.2.1.Value) λ(x4:List Q03×Q00)=> .lf (x4.1,{B2:=x4.2.B2,Mem:=x4.2.Mem,A4:=x4.2.A4,B0:=x4.2.B0,B1:=x4.2.B1,C5:=x4.2.C5,A2:=x4.2.A2,A1:=wrap u64 (x4.2.A1+1),A7:=x4.2.A7,A9:=x4.2.A9}))) (.br (x1.2.1.B6==3) (.lf ([],{B2:=x1.1,Mem:=x1.2.2,A4:=m.A4,B0:=m.B0,B1:=m.B1,C5:=m.C5,A2:=m.A2,A1:=wrap u64 (m.A1+1),A7:=true,A9:=m.A9})) (.br (x1.2.1.B6==4) (.lf ([],{B2:=x1.1,Mem:=x1.2.2,A4:=m.A4,B0:=m.B0,B1:=m.B1,C5:=m.C5,A2:=m.A2,A1:=wrap u64 (m.A1+1),A7:=false,A9:=true})) (.lf ([],{B2:=x1.1,Mem:=x1.2.2,A4:=m.A4,B0:=m.B0,B1:=m.B1,C5:=m.C5,A2:=m.A2,A1:=wrap u64 (m.A1+1),A7:=false,A9:=m.A9})))))))
def Q0j m clock:=(Q9 m clock).m
abbrev Q8q m clock:=(Q9 m clock).p
def Z5i:Q0e:=mT 160 [true,false] true [.ptr 0, .one (.int .u32)] [.box 43 49 (Q00.sigW (.row 1)), .arr 25 1 (.ints .u32)] (λa r=>Q9 (Q00.ofW (r.getD 0 default).cs (rowL .u32 r 1)) (argI a 1)) (λX=> .sl 4 (.recs .apiOutput (X.1)) true) (λX=>[⟨true,43,49, .gen [(Q00.cellsW (X.2) (.all 1))]⟩,⟨false,25,1, .ints .u32 (X.2).Mem⟩])
theorem Qpq:Q06 pG Z5i:=oT (.cons Qcg (.cons Z8y (.cons Zp6 (.cons Qeq (.cons Zko (.nil)))))) Tryz.func160 Tryz.call160 [.sl (.recs .apiOutput) true, .row 25 1 (.ints .u32)] [] 2
end
noncomputable section
instance sumInhZg {α β:Type} [Inhabited β]:Inhabited (α⊕β):=⟨.inr default⟩
def Qi8(m:Q01)(port clock:Int):Tree (Int×Q01):=
.br (decide (port<=1)) (.lv (Q5g m.A0.A4 port) λ(x0:Q0d×Int)=> .lf (x0.2,{A0:={B2:=m.A0.B2,Mem:=m.A0.Mem,A4:=x0.1,B0:=m.A0.B0,B1:=m.A0.B1,C5:=m.A0.C5,A2:=m.A0.A2,A1:=m.A0.A1,A7:=m.A0.A7,A9:=m.A0.A9},A3:=m.A3,B4:=m.B4,A6:=m.A6})) (.br (port==2) (.lf (clock,m)) (.br (port==3) (.lv (Qgj m.A0.B0) λ(x1:Int)=> .lf (x1,m)) (.br (decide (port<=6)) (.lv (Qic m.A0.B1 port) λ(x2:Int)=> .lf (x2,m)) (.br (decide (port<=9)) (.lv (Qhv m.A0.C5 port) λ(x3:Int)=> .lf (x3,m)) (.lv (Q5c m.A0.A2 port) λ(x4:Int)=> .lf (x4,m))))))
def Qui m port clock:=(Qi8 m port clock).m
def Zj:Q0e:=mS 218 [true,false,false] true [.ptr 0, .one (.int .i64), .one (.int .u32)] [.box 96 52 (Q01.sigW (.row 1) (.row 2) (.row 3)), .arr 25 1 (.ints .u32), .arr 126 4 (.recs .apiEntry), .arr 66 3 (.recs .apiEvent)] (λa r=>Qi8 (Q01.ofW (r.getD 0 default).cs (rowL .u32 r 1) (rowR .apiEntry r 2) (rowR .apiEvent r 3)) (argI a 1) (argI a 2)) (λX=> .int .u32 (X.1)) (λX=>[⟨true,96,52, .gen [(Q01.cellsW (X.2) (.all 1) (.all 2) (.all 3))]⟩,⟨false,25,1, .ints .u32 (X.2).A0.Mem⟩,⟨false,126,4, .recs .apiEntry (X.2).B4⟩,⟨false,66,3, .recs .apiEvent (X.2).A6⟩])
theorem Zd9:Q06 pG Zj:=oS (.cons Ql5 (.cons Qoj (.cons Qr6 (.cons Qva (.cons Qlk (.nil)))))) Tryz.func218 Tryz.call218 [.row 25 1 (.ints .u32), .row 126 4 (.recs .apiEntry), .row 66 3 (.recs .apiEvent)] [] 2
def Qd2(m:Q01)(port v:Int):Tree ((List Q03)×Q01):=
.br (port==0) (.lf ([{B6:=1,At:=m.A0.A1,C2:=0,D0:=[(λ(n:Int)=>eV n.toNat) (wrap u8 v)]}],m)) (.br (decide (port<=2)) (.lf ([],m)) (.br (port==3) (.lv (Qt6 v) λ(x0:Q0i)=> .lf ([],{A0:={B2:=m.A0.B2,Mem:=m.A0.Mem,A4:=m.A0.A4,B0:=x0,B1:=m.A0.B1,C5:=m.A0.C5,A2:=m.A0.A2,A1:=m.A0.A1,A7:=m.A0.A7,A9:=m.A0.A9},A3:=m.A3,B4:=m.B4,A6:=m.A6})) (.br (decide (port<=6)) (.an (Qgx m.A0.B1 m.A0.Mem port v m.A0.A1) (.lv (Qg2 m.A0.B1 m.A0.Mem port v m.A0.A1) λ(x1:Q0g×List Q03)=> .lf (x1.2,{A0:={B2:=m.A0.B2,Mem:=m.A0.Mem,A4:=m.A0.A4,B0:=m.A0.B0,B1:=x1.1,C5:=m.A0.C5,A2:=m.A0.A2,A1:=m.A0.A1,A7:=m.A0.A7,A9:=m.A0.A9},A3:=m.A3,B4:=m.B4,A6:=m.A6}))) (.br (decide (port<=9)) (.an (Qii m.A0.C5 m.A0.Mem port v m.A0.A1) (.lv (Qij m.A0.C5 m.A0.Mem port v m.A0.A1) λ(x2:Q0r×List Q03)=> .lf (x2.2,{A0:={B2:=m.A0.B2,Mem:=m.A0.Mem,A4:=m.A0.A4,B0:=m.A0.B0,B1:=m.A0.B1,C5:=x2.1,A2:=m.A0.A2,A1:=m.A0.A1,A7:=m.A0.A7,A9:=m.A0.A9},A3:=m.A3,B4:=m.B4,A6:=m.A6}))) (.an (Qma m.A0.A2 m.A0.Mem port v) (.lv (Q6n m.A0.A2 m.A0.Mem port v) λ(x3:Q07×List Int)=> .lf ([],{A0:={B2:=m.A0.B2,Mem:=x3.2,A4:=m.A0.A4,B0:=m.A0.B0,B1:=m.A0.B1,C5:=m.A0.C5,A2:=x3.1,A1:=m.A0.A1,A7:=m.A0.A7,A9:=m.A0.A9},A3:=m.A3,B4:=m.B4,A6:=m.A6})))))))
def Qqj m port v:=(Qd2 m port v).m
abbrev Qrf m port v:=(Qd2 m port v).p
def Zh9:Q0e:=mT 220 [true,false,false] true [.ptr 0, .one (.int .i64), .one (.int .u32)] [.box 96 52 (Q01.sigW (.row 1) (.row 2) (.row 3)), .arr 25 1 (.ints .u32), .arr 126 4 (.recs .apiEntry), .arr 66 3 (.recs .apiEvent)] (λa r=>Qd2 (Q01.ofW (r.getD 0 default).cs (rowL .u32 r 1) (rowR .apiEntry r 2) (rowR .apiEvent r 3)) (argI a 1) (argI a 2)) (λX=> .sl 4 (.recs .apiOutput (X.1)) true) (λX=>[⟨true,96,52, .gen [(Q01.cellsW (X.2) (.all 1) (.all 2) (.all 3))]⟩,⟨false,25,1, .ints .u32 (X.2).A0.Mem⟩,⟨false,126,4, .recs .apiEntry (X.2).B4⟩,⟨false,66,3, .recs .apiEvent (X.2).A6⟩])
theorem Zbv:Q06 pG Zh9:=oT (.cons Z59 (.cons Qoz (.cons Qr4 (.cons Qyu (.nil))))) Tryz.func220 Tryz.call220 [.sl (.recs .apiOutput) true, .row 25 1 (.ints .u32), .row 126 4 (.recs .apiEntry), .row 66 3 (.recs .apiEvent)] [] 2
def Q6g(m:Q01)(clock:Int):Tree ((List Q03)×Q01):=
.an (Q7e m.A0) (.lv (Q0o m.A0) λ(x0:Q05)=> .an (Qsf x0 m.A0.Mem) (.lv (Q7n x0 m.A0.Mem) λ(x1:Q05×Q16×List Int)=>let E1:=({B2:=x1.1,Mem:=x1.2.2,A4:=m.A0.A4,B0:=m.A0.B0,B1:=m.A0.B1,C5:=m.A0.C5,A2:=m.A0.A2,A1:=m.A0.A1,A7:=false,A9:=m.A0.A9}:Q00); .br (x1.2.1.B6==1) (.lv (Qui {A0:=E1,A3:=m.A3,B4:=m.B4,A6:=m.A6} x1.2.1.D1 clock) λ(x2:Int×Q01)=> .an (Q35 x2.2.A0.B2 x1.2.1.D9 x2.1) (.lv (Q1z x2.2.A0.B2 x1.2.1.D9 x2.1) λ(x3:Q05)=> .lf ([],{A0:={B2:=x3,Mem:=x2.2.A0.Mem,A4:=x2.2.A0.A4,B0:=x2.2.A0.B0,B1:=x2.2.A0.B1,C5:=x2.2.A0.C5,A2:=x2.2.A0.A2,A1:=wrap u64 (x2.2.A0.A1+1),A7:=x2.2.A0.A7,A9:=x2.2.A0.A9},A3:=x2.2.A3,B4:=x2.2.B4,A6:=x2.2.A6}))) (.br (x1.2.1.B6==2) (.an (Qrf {A0:=E1,A3:=m.A3,B4:=m.B4,A6:=m.A6} x1.2.1.D1 x1.2.1.Value) (.lv (Qqj {A0:=E1,A3:=m.A3,B4:=m.B4,A6:=m.A6} x1.2.1.D1 x1.2.1.Value) λ(x4:List Q03×Q01)=> .lf (x4.1,{A0:={B2:=x4.2.A0.B2,Mem:=x4.2.A0.Mem,A4:=x4.2.A0.A4,B0:=x4.2.A0.B0,B1:=x4.2.A0.B1,C5:=x4.2.A0.C5,A2:=x4.2.A0.A2,A1:=wrap u64 (x4.2.A0.A1+1),A7:=x4.2.A0.A7,A9:=x4.2.A0.A9},A3:=x4.2.A3,B4:=x4.2.B4,A6:=x4.2.A6}))) (.br (x1.2.1.B6==3) (.lf ([],{A0:={B2:=x1.1,Mem:=x1.2.2,A4:=m.A0.A4,B0:=m.A0.B0,B1:=m.A0.B1,C5:=m.A0.C5,A2:=m.A0.A2,A1:=wrap u64 (m.A0.A1+1),A7:=true,A9:=m.A0.A9},A3:=m.A3,B4:=m.B4,A6:=m.A6})) (.br (x1.2.1.B6==4) (.lf ([],{A0:={B2:=x1.1,Mem:=x1.2.2,A4:=m.A0.A4,B0:=m.A0.B0,B1:=m.A0.B1,C5:=m.A0.C5,A2:=m.A0.A2,A1:=wrap u64 (m.A0.A1+1),A7:=false,A9:=true},A3:=m.A3,B4:=m.B4,A6:=m.A6})) (.lf ([],{A0:={B2:=x1.1,Mem:=x1.2.2,A4:=m.A0.A4,B0:=m.A0.B0,B1:=m.A0.B1,C5:=m.A0.C5,A2:=m.A0.A2,A1:=wrap u64 (m.A0.A1+1),A7:=false,A9:=m.A0.A9},A3:=m.A3,B4:=m.B4,A6:=m.A6})))))))
def Q73 m clock:=(Q6g m clock).m
abbrev Q6z m clock:=(Q6g m clock).p
def Qzv:Q0e:=mT 160 [true,false] true [.ptr 0, .one (.int .u32)] [.box 96 52 (Q01.sigW (.row 1) (.row 2) (.row 3)), .arr 25 1 (.ints .u32), .arr 126 4 (.recs .apiEntry), .arr 66 3 (.recs .apiEvent)] (λa r=>Q6g (Q01.ofW (r.getD 0 default).cs (rowL .u32 r 1) (rowR .apiEntry r 2) (rowR .apiEvent r 3)) (argI a 1)) (λX=> .sl 4 (.recs .apiOutput (X.1)) true) (λX=>[⟨true,96,52, .gen [(Q01.cellsW (X.2) (.all 1) (.all 2) (.all 3))]⟩,⟨false,25,1, .ints .u32 (X.2).A0.Mem⟩,⟨false,126,4, .recs .apiEntry (X.2).B4⟩,⟨false,66,3, .recs .apiEvent (X.2).A6⟩])
theorem Qwt:Q06 pG Qzv:=oT (.cons Qcg (.cons Z8y (.cons Zd9 (.cons Qeq (.cons Zbv (.nil)))))) Tryz.func160 Tryz.call160 [.sl (.recs .apiOutput) true, .row 25 1 (.ints .u32), .row 126 4 (.recs .apiEntry), .row 66 3 (.recs .apiEvent)] [] 2
def Qcu(r:Q01)(steps clock:Int)(z:(Int)×Q01):Nat:=(z.2.A6.length-z.1).toNat
def Q5r(r:Q01)(steps clock:Int)(v0:Int×Q01)(z:(Int)×Q01×(List Q03)):Nat:=(4000-z.1).toNat
def Q63(r:Q01)(steps clock:Int):Tree (Q01×(List Q03)):=
.an (Qml r) (.lv (Qo5 r) λ(x0:Q01)=> .lv (Q64 x0.A0) λ(x1:Bool)=> .br (!x1) (.lf (x0,[])) (.lp inferInstance (Qcu r steps clock (0,{A0:=x0.A0,A3:=if clock>x0.A3 then clock else x0.A3,B4:=x0.B4,A6:=x0.A6})+1) ((rE (steps:Int)/\rZ/\rZ/\rE (0:Int)/\True)/\(mE x0.A0 True (rE ((if clock>x0.A3 then clock else x0.A3):Int)/\True/\True/\True))/\rE x0.A0.Mem/\rE x0.B4/\rE x0.A6/\(mE zM True (rE (0:Int)/\True/\True/\True))/\True) (0,{A0:=x0.A0,A3:=if clock>x0.A3 then clock else x0.A3,B4:=x0.B4,A6:=x0.A6}) λ(v0:Int×Q01)=> .br (decide (v0.1<(v0.2.A6.length:Int))) (.cn (bS 3 3&&bT 0 3&&decide (0<=v0.1/\v0.1<(v0.2.A6.length:Int))) (let E2:=v0.2.A6.getD v0.1.toNat (RK.dflt RK.apiEvent); .an (Qjf v0.2 E2) (.lv (Qjd v0.2 E2) λ(x2:Q01)=> .nx ((rE (steps:Int)/\rZ/\rZ/\rE ((wrap i64 (v0.1+1)):Int)/\True)/\(mE x2.A0 True (rE x2.A3/\True/\True/\True))/\rE x2.A0.Mem/\rE x2.B4/\rE x2.A6/\(mE zM True (rE (0:Int)/\True/\True/\True))/\True) (Sum.inl (wrap i64 (v0.1+1),x2))))) (.lp inferInstance (Q5r r steps clock v0 (0,{A0:=v0.2.A0,A3:=v0.2.A3,B4:=v0.2.B4,A6:=[]},[])+1) ((rE (steps:Int)/\rZ/\rZ/\True/\rE (0:Int)/\True)/\(mE v0.2.A0 True (rE v0.2.A3/\True/\True/\True))/\rE v0.2.A0.Mem/\rE v0.2.B4/\rE ([]:List (RK.T RK.apiEvent))/\(mE zM True (rE (0:Int)/\True/\True/\True))/\rE ([]:List (RK.T RK.apiOutput))/\True) (0,{A0:=v0.2.A0,A3:=v0.2.A3,B4:=v0.2.B4,A6:=[]},[]) λ(v1:Int×Q01×List Q03)=> .lv (Q0n steps) λ(x3:Int)=> .br (decide (v1.1<x3)) (.lv (Q8h v1.2.1.A0.B0 v1.2.1.A3) λ(x4:Bool)=> .br x4 (.an (Qjf v1.2.1 {B6:=2,N:=0,D0:=[]}) (.lv (Qjd v1.2.1 {B6:=2,N:=0,D0:=[]}) λ(x5:Q01)=> .an (Qfp x5.A0) (.lv (Q0t x5.A0) λ(x6:Bool)=> .br x6 (.lf (Sum.inr (Sum.inr (x5,v1.2.2)))) (.an (Qcm x5.A0) (.lv (Q0h x5.A0) λ(x7:Bool)=> .br x7 (.cn (decide (40*(x5.B4.length+1)<=140737488355328)) (let E3:=({At:=x5.A0.A1,C0:={B6:=1,N:=x5.A3,D0:=[]}}:Q0c); .an (Q6z {A0:=x5.A0,A3:=x5.A3,B4:=x5.B4++[E3],A6:=x5.A6} x5.A3) (.lv (Q73 {A0:=x5.A0,A3:=x5.A3,B4:=x5.B4++[E3],A6:=x5.A6} x5.A3) λ(x8:List Q03×Q01)=> .cn (decide (40*(v1.2.2.length+x8.1.length)<=140737488355328)) (.nx ((rE (steps:Int)/\rZ/\rZ/\True/\rE ((wrap i64 (v1.1+1)):Int)/\True)/\(mE x8.2.A0 True (rE ((wrap u32 (x8.2.A3+1)):Int)/\True/\True/\True))/\rE x8.2.A0.Mem/\rE x8.2.B4/\rE x8.2.A6/\(mE zM True (rE (0:Int)/\True/\True/\True))/\rE ((v1.2.2++x8.1):List (RK.T RK.apiOutput))/\True) (Sum.inl (wrap i64 (v1.1+1),{A0:=x8.2.A0,A3:=wrap u32 (x8.2.A3+1),B4:=x8.2.B4,A6:=x8.2.A6},v1.2.2++x8.1)))))) (.an (Q6z x5 x5.A3) (.lv (Q73 x5 x5.A3) λ(x9:List Q03×Q01)=> .cn (decide (40*(v1.2.2.length+x9.1.length)<=140737488355328)) (.nx ((rE (steps:Int)/\rZ/\rZ/\True/\rE ((wrap i64 (v1.1+1)):Int)/\True)/\(mE x9.2.A0 True (rE ((wrap u32 (x9.2.A3+1)):Int)/\True/\True/\True))/\rE x9.2.A0.Mem/\rE x9.2.B4/\rE x9.2.A6/\(mE zM True (rE (0:Int)/\True/\True/\True))/\rE ((v1.2.2++x9.1):List (RK.T RK.apiOutput))/\True) (Sum.inl (wrap i64 (v1.1+1),{A0:=x9.2.A0,A3:=wrap u32 (x9.2.A3+1),B4:=x9.2.B4,A6:=x9.2.A6},v1.2.2++x9.1)))))))))) (.an (Qfp v1.2.1.A0) (.lv (Q0t v1.2.1.A0) λ(x10:Bool)=> .br x10 (.lf (Sum.inr (Sum.inr (v1.2.1,v1.2.2)))) (.an (Qcm v1.2.1.A0) (.lv (Q0h v1.2.1.A0) λ(x11:Bool)=> .br x11 (.cn (decide (40*(v1.2.1.B4.length+1)<=140737488355328)) (let E1:=({At:=v1.2.1.A0.A1,C0:={B6:=1,N:=v1.2.1.A3,D0:=[]}}:Q0c); .an (Q6z {A0:=v1.2.1.A0,A3:=v1.2.1.A3,B4:=v1.2.1.B4++[E1],A6:=v1.2.1.A6} v1.2.1.A3) (.lv (Q73 {A0:=v1.2.1.A0,A3:=v1.2.1.A3,B4:=v1.2.1.B4++[E1],A6:=v1.2.1.A6} v1.2.1.A3) λ(x12:List Q03×Q01)=> .cn (decide (40*(v1.2.2.length+x12.1.length)<=140737488355328)) (.nx ((rE (steps:Int)/\rZ/\rZ/\True/\rE ((wrap i64 (v1.1+1)):Int)/\True)/\(mE x12.2.A0 True (rE ((wrap u32 (x12.2.A3+1)):Int)/\True/\True/\True))/\rE x12.2.A0.Mem/\rE x12.2.B4/\rE x12.2.A6/\(mE zM True (rE (0:Int)/\True/\True/\True))/\rE ((v1.2.2++x12.1):List (RK.T RK.apiOutput))/\True) (Sum.inl (wrap i64 (v1.1+1),{A0:=x12.2.A0,A3:=wrap u32 (x12.2.A3+1),B4:=x12.2.B4,A6:=x12.2.A6},v1.2.2++x12.1)))))) (.an (Q6z v1.2.1 v1.2.1.A3) (.lv (Q73 v1.2.1 v1.2.1.A3) λ(x13:List Q03×Q01)=> .cn (decide (40*(v1.2.2.length+x13.1.length)<=140737488355328)) (.nx ((rE (steps:Int)/\rZ/\rZ/\True/\rE ((wrap i64 (v1.1+1)):Int)/\True)/\(mE x13.2.A0 True (rE ((wrap u32 (x13.2.A3+1)):Int)/\True/\True/\True))/\rE x13.2.A0.Mem/\rE x13.2.B4/\rE x13.2.A6/\(mE zM True (rE (0:Int)/\True/\True/\True))/\rE ((v1.2.2++x13.1):List (RK.T RK.apiOutput))/\True) (Sum.inl (wrap i64 (v1.1+1),{A0:=x13.2.A0,A3:=wrap u32 (x13.2.A3+1),B4:=x13.2.B4,A6:=x13.2.A6},v1.2.2++x13.1)))))))))) (.lf (Sum.inr (Sum.inr (v1.2.1,v1.2.2)))))))
def Qdx r steps clock:=(Q63 r steps clock).m
abbrev Qm6 r steps clock:=(Q63 r steps clock).p
def Z0m:LInv:={
 α:=(Int)×Q01
 F:=λst a=>([(1,(lk st 1)),(3, .ptr 0 0 0),(6, .ptr 4 0 0),(8, .int i64 a.1)],[⟨true,96,52, .gen [[.int u32 a.2.A0.B2.X.a0, .int u32 a.2.A0.B2.X.a1, .int u32 a.2.A0.B2.X.a2, .int u32 a.2.A0.B2.X.a3, .int u32 a.2.A0.B2.X.a4, .int u32 a.2.A0.B2.X.a5, .int u32 a.2.A0.B2.X.a6, .int u32 a.2.A0.B2.X.a7, .int u32 a.2.A0.B2.X.a8, .int u32 a.2.A0.B2.X.a9, .int u32 a.2.A0.B2.X.a10, .int u32 a.2.A0.B2.X.a11, .int u32 a.2.A0.B2.X.a12, .int u32 a.2.A0.B2.X.a13, .int u32 a.2.A0.B2.X.a14, .int u32 a.2.A0.B2.X.a15, .int u32 a.2.A0.B2.Pc, .int u32 a.2.A0.B2.B5.a0, .int u32 a.2.A0.B2.B5.a1, .int u32 a.2.A0.B2.B5.a2, .int u32 a.2.A0.B2.B5.a3, .int u32 a.2.A0.B2.B5.a4, .int u32 a.2.A0.B2.B5.a5, .int u32 a.2.A0.B2.B5.a6, .int u32 a.2.A0.B2.B5.a7, .all 1, .str a.2.A0.A4.D3, .bool a.2.A0.B0.D2, .int u32 a.2.A0.B0.C8, .bool a.2.A0.B0.D5, .int u32 a.2.A0.B1.Blocks, .int u32 a.2.A0.B1.C2, .int u32 a.2.A0.B1.Frame, .int i64 a.2.A0.B1.C1, .int i64 a.2.A0.B1.D8, .int u32 a.2.A0.B1.B7, .int u32 a.2.A0.B1.B3, .str a.2.A0.B1.C4, .int u32 a.2.A0.C5.Frame, .int u32 a.2.A0.C5.E0, .bool a.2.A0.C5.C7, .int u32 a.2.A0.C5.B9, .bool a.2.A0.C5.B8, .int u32 a.2.A0.C5.F1, .int u32 a.2.A0.A2.C9, .int u32 a.2.A0.A2.C3, .int u64 a.2.A0.A1, .bool a.2.A0.A7, .bool a.2.A0.A9, .int u32 a.2.A3, .all 2, .all 3]]⟩,⟨false,25,1, .ints u32 a.2.A0.Mem⟩,⟨false,126,4, .recs RK.apiEntry a.2.B4⟩,⟨false,66,3, .recs RK.apiEvent a.2.A6⟩,⟨true,96,52, .gen [[(cT st 6 0),(cT st 6 1),(cT st 6 2),(cT st 6 3),(cT st 6 4),(cT st 6 5),(cT st 6 6),(cT st 6 7),(cT st 6 8),(cT st 6 9),(cT st 6 10),(cT st 6 11),(cT st 6 12),(cT st 6 13),(cT st 6 14),(cT st 6 15),(cT st 6 16),(cT st 6 17),(cT st 6 18),(cT st 6 19),(cT st 6 20),(cT st 6 21),(cT st 6 22),(cT st 6 23),(cT st 6 24),(cT st 6 25),(cT st 6 26),(cT st 6 27),(cT st 6 28),(cT st 6 29),(cT st 6 30),(cT st 6 31),(cT st 6 32),(cT st 6 33),(cT st 6 34),(cT st 6 35),(cT st 6 36),(cT st 6 37),(cT st 6 38),(cT st 6 39),(cT st 6 40),(cT st 6 41),(cT st 6 42),(cT st 6 43),(cT st 6 44),(cT st 6 45),(cT st 6 46),(cT st 6 47),(cT st 6 48),(cT st 6 49),(cT st 6 50),(cT st 6 51)]]⟩])
 a0:=λst=>((lk st 8).toInt,(⟨(mR (cT st 3) (Q46 st.rows (Q0s (cT st 3 25) 1000000))),(cT st 3 49).toInt,(Q4w RK.apiEntry st.rows (Q0s (cT st 3 50) 1000000)),(Q4w RK.apiEvent st.rows (Q0s (cT st 3 51) 1000000))⟩:Q01))
 ex0:=λst=>[]++[(rX st 3 0),(Q0s (cT st 3 25) (st.rows.length+1)),(Q0s (cT st 3 50) (st.rows.length+2)),(Q0s (cT st 3 51) (st.rows.length+3)),(rX st 6 4)]}
def Z0b:LInv:={
 α:=(Int)×Q01×(List Q03)
 F:=λst a=>([(1,(lk st 1)),(3, .ptr 0 0 0),(6, .ptr 4 0 0),(9, .all 5),(10, .int i64 a.1)],[⟨true,96,52, .gen [[.int u32 a.2.1.A0.B2.X.a0, .int u32 a.2.1.A0.B2.X.a1, .int u32 a.2.1.A0.B2.X.a2, .int u32 a.2.1.A0.B2.X.a3, .int u32 a.2.1.A0.B2.X.a4, .int u32 a.2.1.A0.B2.X.a5, .int u32 a.2.1.A0.B2.X.a6, .int u32 a.2.1.A0.B2.X.a7, .int u32 a.2.1.A0.B2.X.a8, .int u32 a.2.1.A0.B2.X.a9, .int u32 a.2.1.A0.B2.X.a10, .int u32 a.2.1.A0.B2.X.a11, .int u32 a.2.1.A0.B2.X.a12, .int u32 a.2.1.A0.B2.X.a13, .int u32 a.2.1.A0.B2.X.a14, .int u32 a.2.1.A0.B2.X.a15, .int u32 a.2.1.A0.B2.Pc, .int u32 a.2.1.A0.B2.B5.a0, .int u32 a.2.1.A0.B2.B5.a1, .int u32 a.2.1.A0.B2.B5.a2, .int u32 a.2.1.A0.B2.B5.a3, .int u32 a.2.1.A0.B2.B5.a4, .int u32 a.2.1.A0.B2.B5.a5, .int u32 a.2.1.A0.B2.B5.a6, .int u32 a.2.1.A0.B2.B5.a7, .all 1, .str a.2.1.A0.A4.D3, .bool a.2.1.A0.B0.D2, .int u32 a.2.1.A0.B0.C8, .bool a.2.1.A0.B0.D5, .int u32 a.2.1.A0.B1.Blocks, .int u32 a.2.1.A0.B1.C2, .int u32 a.2.1.A0.B1.Frame, .int i64 a.2.1.A0.B1.C1, .int i64 a.2.1.A0.B1.D8, .int u32 a.2.1.A0.B1.B7, .int u32 a.2.1.A0.B1.B3, .str a.2.1.A0.B1.C4, .int u32 a.2.1.A0.C5.Frame, .int u32 a.2.1.A0.C5.E0, .bool a.2.1.A0.C5.C7, .int u32 a.2.1.A0.C5.B9, .bool a.2.1.A0.C5.B8, .int u32 a.2.1.A0.C5.F1, .int u32 a.2.1.A0.A2.C9, .int u32 a.2.1.A0.A2.C3, .int u64 a.2.1.A0.A1, .bool a.2.1.A0.A7, .bool a.2.1.A0.A9, .int u32 a.2.1.A3, .all 2, .all 3]]⟩,⟨false,25,1, .ints u32 a.2.1.A0.Mem⟩,⟨false,126,4, .recs RK.apiEntry a.2.1.B4⟩,⟨false,66,3, .recs RK.apiEvent a.2.1.A6⟩,⟨true,96,52, .gen [[(cT st 6 0),(cT st 6 1),(cT st 6 2),(cT st 6 3),(cT st 6 4),(cT st 6 5),(cT st 6 6),(cT st 6 7),(cT st 6 8),(cT st 6 9),(cT st 6 10),(cT st 6 11),(cT st 6 12),(cT st 6 13),(cT st 6 14),(cT st 6 15),(cT st 6 16),(cT st 6 17),(cT st 6 18),(cT st 6 19),(cT st 6 20),(cT st 6 21),(cT st 6 22),(cT st 6 23),(cT st 6 24),(cT st 6 25),(cT st 6 26),(cT st 6 27),(cT st 6 28),(cT st 6 29),(cT st 6 30),(cT st 6 31),(cT st 6 32),(cT st 6 33),(cT st 6 34),(cT st 6 35),(cT st 6 36),(cT st 6 37),(cT st 6 38),(cT st 6 39),(cT st 6 40),(cT st 6 41),(cT st 6 42),(cT st 6 43),(cT st 6 44),(cT st 6 45),(cT st 6 46),(cT st 6 47),(cT st 6 48),(cT st 6 49),(cT st 6 50),(cT st 6 51)]]⟩,⟨false,71,4, .recs RK.apiOutput a.2.2⟩])
 a0:=λst=>((lk st 10).toInt,(⟨(mR (cT st 3) (Q46 st.rows (Q0s (cT st 3 25) 1000000))),(cT st 3 49).toInt,(Q4w RK.apiEntry st.rows (Q0s (cT st 3 50) 1000000)),(Q4w RK.apiEvent st.rows (Q0s (cT st 3 51) 1000000))⟩:Q01),(Q4w RK.apiOutput st.rows (rN st 9)))
 ex0:=λst=>[]++[(rX st 3 0),(Q0s (cT st 3 25) (st.rows.length+1)),(Q0s (cT st 3 50) (st.rows.length+2)),(Q0s (cT st 3 51) (st.rows.length+3)),(rX st 6 4),(rX st 9 5)]}
def Qth:List (Nat×LInv):=[(6,Z0m),(12,Z0b)]
def Z2c:Q0e:=mT 147 [] true [.agg Q01.sig, .one (.int .i64), .one (.int .u32)] [] (λa r=>Q63 (Q01.of (aC a 0)) (argI a 1) (argI a 2)) (λX=> .tup [.agg (Q01.cellsW (X.1) (.all 0) (.all 1) (.all 2)), .all 3]) (λX=>[⟨false,25,1, .ints .u32 (X.1).A0.Mem⟩,⟨false,126,4, .recs .apiEntry (X.1).B4⟩,⟨false,66,3, .recs .apiEvent (X.1).A6⟩,⟨false,71,4, .recs .apiOutput (X.2)⟩])
theorem Qzy:Q06 pG Z2c:=oT (.cons Qyb (.cons Qmu (.cons Z5g (.cons Z0n (.cons Zio (.cons Qtc (.cons Qud (.cons Qwt (.nil))))))))) Tryz.func147 Tryz.call147 [.row 25 1 (.ints .u32), .row 126 4 (.recs .apiEntry), .row 66 3 (.recs .apiEvent), .row 71 4 (.recs .apiOutput)] Qth 3

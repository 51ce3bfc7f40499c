import Derived.Test.YtmalmklaonainaaGreatMachineEncodesYz
open Nat renaming blt->bT, beq->bS, lt_succ_self->cO
open List renaming length->dL, replicate->cR, take->dC, drop->dD, set->dH, getD->aK
open Int renaming toNat->dG, tdiv->eX, tmod->dF
open UInt8 renaming ofNat->fB, toNat->eZ
set_option maxRecDepth 100000
set_option linter.all false
namespace Go.Proofs.YtmalmklaonainaaGreat
open Go Go.GD Go.IntKind
noncomputable section
def Qcy(m:List Int):Tree (List Int):=
.cn (bT (0:Nat) (1:Nat)&&bS (1:Nat) (1:Nat)&&List.all [D.int u32 (0:Int)] D.plain&&decide ((0:Int)<=(m.length:Int)/\(m.length:Int)<=(m.length:Int)/\(m.length:Int)<=(9223372036854775807:Int)/\(↑(4:Nat):Int)*(m.length:Int)<=(140737488355328:Int))) (let E1:=dL (cR (dG (m.length:Int)) (0:Int)); .lf (dC (Min.min (m.length) E1) m++dD (Min.min (m.length) E1) (cR (dG (m.length:Int)) (0:Int))))
def Qtg m:=(Qcy m).m
abbrev Qrt m:=(Qcy m).p
def Zgq:Q0b:=mT 122 [] true [.one (.ints .u32)] [] (λa r=>Qcy (argL .u32 a 0)) (λX=> .all 0) (λX=>[⟨false,25,1, .ints .u32 X⟩])
theorem Zb0:Q04 pG Zgq:=oT (.nil) Tryz.func122 Tryz.call122 [.row 25 1 (.ints .u32)] [] 2
def Qbg(m:Q00):Tree Q00:=
.an (Qrt m.Mem) (.lv (Qtg m.Mem) λ(x0:List Int)=> .lf ({B1:=m.B1,Mem:=x0,A2:=m.A2,A7:=m.A7,A9:=m.A9,B9:=m.B9,A1:=m.A1,A4:=m.A4,A3:=m.A3,A6:=m.A6}))
def Qiv m:=(Qbg m).m
abbrev Qbk m:=(Qbg m).p
def Zmr:Q0b:=mT 34 [] true [.agg Q00.sig] [] (λa r=>Qbg (Q00.of (aC a 0))) (λX=> .agg (Q00.cellsW X (.all 0))) (λX=>[⟨false,25,1, .ints .u32 X.Mem⟩])
theorem Qkp:Q04 pG Zmr:=oT (.cons Zb0 (.nil)) Tryz.func34 Tryz.call34 [.row 25 1 (.ints .u32)] [] 2
def Qpr(n k:Int)(z:(Int)×(List Int)):Prop:=0<=z.1/\(z.2.length:Int)=z.1/\(z.1<=k\/z.1=0)
def Qc(n k:Int)(z:(Int)×(List Int)):Nat:=(k-z.1).toNat
def Qdj(n k:Int):Tree (List UInt8):=
.lp inferInstance (Qc n k (0,[])+1) ((rE (n:Int)/\rE (k:Int)/\True/\rE (0:Int)/\True)/\rE ([]:List Int)/\True) (0,[]) λ(v0:Int×List Int)=> .br (decide (v0.1<k)) (.lv (Q99 n (wrap i64 (eX v0.1 9))) λ(x0:Int)=> .cn (decide (1*(v0.2.length+1)<=140737488355328)) (.nx ((rE (n:Int)/\rE (k:Int)/\True/\rE ((wrap i64 (v0.1+1)):Int)/\True)/\rE ((v0.2++[wrap u8 x0]):List Int)/\True) (Sum.inl (wrap i64 (v0.1+1),v0.2++[wrap u8 x0])))) (.lf (Sum.inr (bytesOf v0.2)))
def Qk5 n k:=(Qdj n k).m
def Q4f(n k:Int):Prop:=
k<=1000000000000
theorem Zan(n k:Int)(hw:Q4f n k):(Qdj n k).p:=by
 simp only[Q4f]at hw
 unfold Tree.p Qdj
 repeat'(first|refine w_lp (inv:=Qpr n k) (μ:=Qc n k) ?_ (cO _) (λ_ _=> ?_)|exact trivial|refine w_br (λ_=> ?_) (λ_=> ?_)|refine w_cn ?_ ?_|refine w_an ?_ ?_|refine w_lv (λ_ _=> ?_)|refine w_nx ?_|refine w_lf ?_|refine And.intro ?_ ?_)
 all_goals((try simp only[Qpr,Qc]at*);exact fin0)
def Zep:LInv:={
 α:=(Int)×(List Int)
 F:=λst a=>([(0,(lk st 0)),(1,(lk st 1)),(5, .all 0),(6, .int i64 a.1)],[⟨false,5,1, .ints u8 a.2⟩])
 a0:=λst=>((lk st 6).toInt,(Q3h st.rows (rN st 5)))
 ex0:=λst=>[]++[(rX st 5 0)]}
def Z37:List (Nat×LInv):=[(3,Zep)]
def Zi4:Q0b:=mkP 84 [] true [.one (.int .i64), .one (.int .i64)] [] (λa r=>Q4f (argI a 0) (argI a 1)) (λa r=>Qk5 (argI a 0) (argI a 1)) (λX=> .str X) (λX=>[])
theorem Qww:Q04 pG Zi4:=Q0j drawn Q0g (.cons Ql (.nil)) Tryz.func84 Tryz.call84 (λa r=>Qdj (argI a 0) (argI a 1)) [] Z37 3 (hp:=λa r h=>Zan (argI a 0) (argI a 1) h)
def Qdi(r:Q01):Tree Q01:=
.an (Qbk r.A0) (.lv (Qiv r.A0) λ(x0:Q00)=> .cn (decide (40*(0+r.C7.length)<=140737488355328)) (.cn (decide (32*(0+r.B0.length)<=140737488355328)) (.lf ({A0:=x0,B3:=r.B3,C7:=r.C7,B0:=r.B0}))))
def Qnt r:=(Qdi r).m
abbrev Qkx r:=(Qdi r).p
def Zhf:Q0b:=mT 212 [] true [.agg Q01.sig] [] (λa r=>Qdi (Q01.of (aC a 0))) (λX=> .agg (Q01.cellsW X (.all 0) (.all 1) (.all 2))) (λX=>[⟨false,25,1, .ints .u32 X.A0.Mem⟩,⟨false,126,4, .recs .apiEntry X.C7⟩,⟨false,66,3, .recs .apiEvent X.B0⟩])
theorem Qw9:Q04 pG Zhf:=oT (.cons Qkp (.nil)) Tryz.func212 Tryz.call212 [.row 25 1 (.ints .u32), .row 126 4 (.recs .apiEntry), .row 66 3 (.recs .apiEvent)] [] 2
def Qry(e:Q0e):Tree Bool:=
.br (e.C4==1) (.lf (decide (e.C9=[]))) (.br (e.C4==6) (.lf (decide (e.C9=[]))) (.br (e.C4==2) (.br (e.N==0) (.lf (decide (e.C9=[]))) (.lf false)) (.br (e.C4==3) (.br (decide (e.N<=255)) (.lf (decide (e.C9=[]))) (.lf false)) (.br (e.C4==4) (.br (decide (e.N<=1)) (.br (decide (e.C9=[])) (.lf true) (.br (e.N==1) (.lf ((e.C9.length:Int)==(128:Int))) (.lf false))) (.lf false)) (.br (e.C4==5) (.br (e.N==0) (.br (decide ((e.C9.length:Int)>=(1:Int))) (.lf (decide ((e.C9.length:Int)<=(128:Int)))) (.lf false)) (.lf false)) (.lf false))))))
def Qhj e:=(Qry e).m
def Z8r:Q0b:=mS 154 [] true [.agg Q0e.sig] [] (λa r=>Qry (Q0e.of (aC a 0))) (λX=> .bool X) (λX=>[])
theorem Z3f:Q04 pG Z8r:=oS (.nil) Tryz.func154 Tryz.call154 [] [] 2
def Q7n(r:Q01)(e:Q0e):Tree (Q01×Bool):=
.an (Qkx r) (.lv (Qnt r) λ(x0:Q01)=> .lv (Qhj e) λ(x1:Bool)=> .br (!x1) (.lf (x0,false)) (.br (e.C4==1) (.lf (x0,false)) (.br (decide ((x0.B0.length:Int)>=(16:Int))) (.lf (x0,false)) (.cn (decide (32*(x0.B0.length+1)<=140737488355328)) (.lf ({A0:=x0.A0,B3:=x0.B3,C7:=x0.C7,B0:=x0.B0++[e]},true))))))
def Q4p r e:=(Q7n r e).m
abbrev Qm7 r e:=(Q7n r e).p
def Z3s:Q0b:=mT 146 [] true [.agg Q01.sig, .agg Q0e.sig] [] (λa r=>Q7n (Q01.of (aC a 0)) (Q0e.of (aC a 1))) (λX=> .tup [.agg (Q01.cellsW (X.1) (.all 0) (.all 1) (.all 2)), .bool (X.2)]) (λX=>[⟨false,25,1, .ints .u32 (X.1).A0.Mem⟩,⟨false,126,4, .recs .apiEntry (X.1).C7⟩,⟨false,66,3, .recs .apiEvent (X.1).B0⟩])
theorem Z1c:Q04 pG Z3s:=oT (.cons Qw9 (.cons Z3f (.nil))) Tryz.func146 Tryz.call146 [.row 25 1 (.ints .u32), .row 126 4 (.recs .apiEntry), .row 66 3 (.recs .apiEvent)] [] 2
def Qe2(n:Int):Tree Q0e:=
.lv (Q99 n 2) λ(x0:Int)=> .br (dF x0 (7:Int)==(0:Int)) (.lf ({C4:=2,N:=0,C9:=[]})) (.br (dF x0 (7:Int)==(1:Int)) (.lf ({C4:=3,N:=wrap u32 (iand i64 (ishr i64 x0 8) 255),C9:=[]})) (.br (dF x0 (7:Int)==(2:Int)) (.lf ({C4:=3,N:=wrap u32 (iand i64 (ishr i64 x0 8) 255),C9:=[]})) (.br (dF x0 (7:Int)==(3:Int)) (.lf ({C4:=4,N:=1,C9:=[]})) (.br (dF x0 (7:Int)==(4:Int)) (.an (Q4f x0 128) (.lv (Qk5 x0 128) λ(x1:List UInt8)=> .lf ({C4:=4,N:=1,C9:=x1}))) (.br (dF x0 (7:Int)==(5:Int)) (let E1:=wrap i64 (1+dF (ishr i64 x0 8) 40); .an (Q4f x0 E1) (.lv (Qk5 x0 E1) λ(x2:List UInt8)=> .lf ({C4:=5,N:=0,C9:=x2}))) (.br (dF (ishr i64 x0 8) (4:Int)==(0:Int)) (.lf ({C4:=4,N:=0,C9:=[]})) (.lf ({C4:=6,N:=wrap u32 (dF (ishr i64 x0 8) 3),C9:=[]}))))))))
def Qg4 n:=(Qe2 n).m
abbrev Qpw n:=(Qe2 n).p
def Zd0:Q0b:=mT 76 [] true [.one (.int .i64)] [] (λa r=>Qe2 (argI a 0)) (λX=> .agg (Q0e.cells X)) (λX=>[])
theorem Z8v:Q04 pG Zd0:=oT (.cons Ql (.cons Qww (.nil))) Tryz.func76 Tryz.call76 [] [] 2
def Qnx(m:List Int):Tree Int:=
.br (dF (m.length:Int) (32:Int) !=(0:Int)) (.lf 0) (.br (decide ((m.length:Int)>(1024:Int))) (.lf 0) (.lf (wrap i64 (eX (m.length:Int) 32))))
def Q34 m:=(Qnx m).m
def Zd5:Q0b:=mS 93 [] true [.one (.ints .u32)] [] (λa r=>Qnx (argL .u32 a 0)) (λX=> .int .i64 X) (λX=>[])
theorem Qbx:Q04 pG Zd5:=oS (.nil) Tryz.func93 Tryz.call93 [] [] 2
def Qkc(c:Q0c):Tree Bool:=
.lf (decide ((c.D0.length:Int)<=(16:Int)))
def Qh9 c:=(Qkc c).m
def Qtr:Q0b:=mS 94 [] true [.agg Q0c.sig] [] (λa r=>Qkc (Q0c.of (aC a 0))) (λX=> .bool X) (λX=>[])
theorem Qta:Q04 pG Qtr:=oS (.nil) Tryz.func94 Tryz.call94 [] [] 2
def Qhc(t:Q0h):Tree Bool:=
.br t.D2 (.br t.D1 (.lf false) (.br t.D2 (.lf (t.C3 !=0)) (.br t.D1 (.lf true) (.lf (t.C3==0))))) (.br t.D2 (.lf (t.C3 !=0)) (.br t.D1 (.lf true) (.lf (t.C3==0))))
def Qbv t:=(Qhc t).m
def Z0v:Q0b:=mS 95 [] true [.agg Q0h.sig] [] (λa r=>Qhc (Q0h.of (aC a 0))) (λX=> .bool X) (λX=>[])
theorem Qyk:Q04 pG Z0v:=oS (.nil) Tryz.func95 Tryz.call95 [] [] 2
def Qj1(d0:Q0d)(pages:Int):Tree Bool:=
.br (decide (d0.Blocks>64)) (.lf false) (.br (decide (d0.B7<0)) (.lf false) (.br (decide (d0.B7>3)) (.lf false) (.br (d0.B7 !=1) (.br (d0.D4==0) (.br (d0.B5==0) (.br (d0.B2==0) (.lf (decide (d0.B8=[]))) (.lf false)) (.lf false)) (.lf false)) (.br (decide (d0.B5>=d0.Blocks)) (.lf false) (.br (decide (wrap i64 d0.B2>=pages)) (.lf false) (.br (d0.D4==1) (.br (decide (d0.B8=[])) (.lf true) (.br (d0.D4==2) (.lf ((d0.B8.length:Int)==(128:Int))) (.lf false))) (.br (d0.D4==2) (.lf ((d0.B8.length:Int)==(128:Int))) (.lf false))))))))
def Qe d0 pages:=(Qj1 d0 pages).m
def Z4h:Q0b:=mS 96 [] true [.agg Q0d.sig, .one (.int .i64)] [] (λa r=>Qj1 (Q0d.of (aC a 0)) (argI a 1)) (λX=> .bool X) (λX=>[])
theorem Z02:Q04 pG Z4h:=oS (.nil) Tryz.func96 Tryz.call96 [] [] 2
def Qlj(n:Q0m)(pages:Int):Tree Bool:=
let T1:Tree (Bool):= .br n.B6 (.br (decide (n.D9>=1)) (.lf (decide (n.D9<=128))) (.lf false)) (.lf (n.D9==0)); .br n.C5 (.br n.B6 (.lf false) (.br (decide (wrap i64 n.C0>=pages)) (.lf false) (.br (!n.C5) (.br (n.C0 !=0) (.lf false) T1) T1))) (.br (!n.C5) (.br (n.C0 !=0) (.lf false) T1) T1)
def Qi2 n pages:=(Qlj n pages).m
def Z8:Q0b:=mS 97 [] true [.agg Q0m.sig, .one (.int .i64)] [] (λa r=>Qlj (Q0m.of (aC a 0)) (argI a 1)) (λX=> .bool X) (λX=>[])
theorem Z4r:Q04 pG Z8:=oS (.nil) Tryz.func97 Tryz.call97 [] [] 2
def Qfi(b:Q07)(pages:Int)(z:(Int)):Prop:=0<=z/\z<=32
def Q5v(b:Q07)(pages:Int)(z:(Int)):Nat:=(32-z).toNat
def Q4s(b:Q07)(pages:Int):Tree Bool:=
.lp inferInstance (Q5v b pages 0+1) ((rE (pages:Int)/\rZ/\rE (0:Int)/\True)/\(rE b.C6/\rE b.C2/\True)/\True) 0 λ(v0:Int)=> .br (decide (v0<32)) (.cn (decide (0<=wrap u64 v0)) (let T1:Tree ((Int)⊕(Bool)):= .nx ((rE (pages:Int)/\rZ/\rE ((wrap i64 (v0+1)):Int)/\True)/\(rE b.C6/\rE b.C2/\True)/\True) (Sum.inl (wrap i64 (v0+1))); .br (iand u32 (ishr u32 b.C2 (wrap u64 v0)) (1:Int)==(1:Int)) (.br (decide (v0>=pages)) (.lf (Sum.inr false)) T1) T1)) (.lf (Sum.inr true))
def Q8u b pages:=(Q4s b pages).m
theorem Qqi(b:Q07)(pages:Int):(Q4s b pages).p:=by
 unfold Tree.p Q4s
 repeat'(first|refine w_lp (inv:=Qfi b pages) (μ:=Q5v b pages) ?_ (cO _) (λ_ _=> ?_)|exact trivial|refine w_br (λ_=> ?_) (λ_=> ?_)|refine w_cn ?_ ?_|refine w_an ?_ ?_|refine w_lv (λ_ _=> ?_)|refine w_nx ?_|refine w_lf ?_|refine And.intro ?_ ?_)
 all_goals((try simp only[Qfi,Q5v]at*);exact fin0)
def Qsj:LInv:={
 α:=(Int)
 F:=λst a=>([(1,(lk st 1)),(2, .ptr 0 0 0),(5, .int i64 a)],[⟨true,40,2, .gen [[(cT st 2 0),(cT st 2 1)]]⟩])
 a0:=λst=>(lk st 5).toInt
 ex0:=λst=>[]++[(rX st 2 0)]}
def Qp7:List (Nat×LInv):=[(2,Qsj)]
def Qub:Q0b:=mS 98 [] true [.agg Q07.sig, .one (.int .i64)] [] (λa r=>Q4s (Q07.of (aC a 0)) (argI a 1)) (λX=> .bool X) (λX=>[])
theorem Qs0:Q04 pG Qub:=oS (.nil) Tryz.func98 Tryz.call98 [] Qp7 3 (λ_ _ _=>by kernel_rfl) (λa r=>Qqi (Q07.of (aC a 0)) (argI a 1)) (λ_ X=>by kernel_rfl)
def Qvl(m:Q00):Tree Bool:=
.lv (Q34 m.Mem) λ(x0:Int)=> .br (decide (x0<1)) (.lf false) (.br (m.B1.X.a0 !=0) (.lf false) (.br (decide (m.B1.B4.a0>31)) (.lf false) (.br (decide (m.B1.B4.a7>31)) (.lf false) (.br (decide (m.B1.B4.a6>255)) (.lf false) (.br (dF m.B1.B4.a1 (4:Int) !=(0:Int)) (.lf false) (.lv (Qh9 m.A2) λ(x1:Bool)=> .br (!x1) (.lf false) (.lv (Qbv m.A7) λ(x2:Bool)=> .br (!x2) (.lf false) (.lv (Qe m.A9 x0) λ(x3:Bool)=> .br (!x3) (.lf false) (.lv (Qi2 m.B9 x0) λ(x4:Bool)=> .br (!x4) (.lf false) (.lv (Q8u m.A1 x0) λ(x5:Bool)=> .br (!x5) (.lf false) (.br (decide (m.A4<=1152921504606846976)) (.br m.A3 (.lf (!m.A6)) (.lf true)) (.lf false))))))))))))
def Q9a m:=(Qvl m).m
def Zmb:Q0b:=mS 25 [] true [.agg Q00.sig] [] (λa r=>Qvl (Q00.of (aC a 0))) (λX=> .bool X) (λX=>[])
theorem Qqf:Q04 pG Zmb:=oS (.cons Qbx (.cons Qta (.cons Qyk (.cons Z02 (.cons Z4r (.cons Qs0 (.nil))))))) Tryz.func25 Tryz.call25 [] [] 2
def Qlg(t:Q0h):Tree (Q0h×Bool):=
.br (!t.D2) (.lf (t,false)) (.lf ({D2:=false,C3:=t.C3,D1:=true},true))
def Qmq t:=(Qlg t).m
def Zi5:Q0b:=mS 221 [] true [.agg Q0h.sig] [] (λa r=>Qlg (Q0h.of (aC a 0))) (λX=> .tup [.agg (Q0h.cells (X.1)), .bool (X.2)]) (λX=>[])
theorem Qwx:Q04 pG Zi5:=oS (.nil) Tryz.func221 Tryz.call221 [] [] 2
def Qh8(c:Q0c)(b:Int):Tree (Q0c×Bool):=
.br (decide ((c.D0.length:Int)>=(16:Int))) (.lf (c,false)) (.cn (decide (c.D0.length+1<=maxLen)) (.lf ({D0:=c.D0++[(λ(n:Int)=>fB n.toNat) b]},true)))
def Qrh c b:=(Qh8 c b).m
abbrev Qlc c b:=(Qh8 c b).p
def Zfy:Q0b:=mT 222 [] true [.agg Q0c.sig, .one (.int .u8)] [] (λa r=>Qh8 (Q0c.of (aC a 0)) (argI a 1)) (λX=> .tup [.agg (Q0c.cells (X.1)), .bool (X.2)]) (λX=>[])
theorem Qxd:Q04 pG Zfy:=oT (.nil) Tryz.func222 Tryz.call222 [] [] 2
def Qhh(m:List Int)(frame:Int):Tree Bool:=
.lv (Q34 m) λ(x0:Int)=> .lf (decide (wrap u64 frame<wrap u64 x0))
def Q1v m frame:=(Qhh m frame).m
def Zgh:Q0b:=mS 269 [] true [.one (.ints .u32), .one (.int .u32)] [] (λa r=>Qhh (argL .u32 a 0) (argI a 1)) (λX=> .bool X) (λX=>[])
theorem Qek:Q04 pG Zgh:=oS (.cons Qbx (.nil)) Tryz.func269 Tryz.call269 [] [] 2
def Qd6(m:List Int)(addr size v:Int):Tree (List Int):=
let E1:=bS 1 1&&bT 0 1&&decide (0<=wrap u32 (eX addr 4)/\wrap u32 (eX addr 4)<(m.length:Int));let E2:=dG (wrap u32 (eX addr 4)); .br (size==4) (.cn E1 (.lf (dH m E2 v))) (.cn E1 (let E3:=decide (0<=wrap u32 (8*dF addr 4)); .cn E3 (.cn E3 (.cn E1 (.lf (dH m E2 (ior u32 (Qg u32 (m.getD E2 0) (ishl u32 255 (wrap u32 (8*dF addr 4)))) (ishl u32 (iand u32 v 255) (wrap u32 (8*dF addr 4))))))))))
def Q9j m addr size v:=(Qd6 m addr size v).m
abbrev Qe0 m addr size v:=(Qd6 m addr size v).p
def Zl5:Q0b:=mT 300 [true,false,false,false] true [.one (.row 0), .one (.int .u32), .one (.int .i64), .one (.int .u32)] [.arr 25 1 (.ints .u32)] (λa r=>Qd6 (rowL .u32 r 0) (argI a 1) (argI a 2) (argI a 3)) (λX=> .tup []) (λX=>[⟨false,25,1, .ints .u32 X⟩])
theorem Z1v:Q04 pG Zl5:=oT (.nil) Tryz.func300 Tryz.call300 [] [] 2
def Qhy(m:List Int)(frame:Int)(s:List UInt8)(z:(Int)×(List Int)):Nat:=(128-z.1).toNat
def Q8v(m:List Int)(frame:Int)(s:List UInt8):Tree (List Int):=
.lp inferInstance (Qhy m frame s (0,m)+1) ((True/\rE (frame:Int)/\rE (s:List UInt8)/\rE (0:Int)/\True)/\rE (m:List Int)/\True) (0,m) λ(v0:Int×List Int)=> .br (decide (v0.1<(s.length:Int))) (.br (decide (v0.1<128)) (.cn (decide (0<=v0.1/\v0.1<(s.length:Int))) (let E1:=wrap u32 (↑(eZ (s.getD v0.1.toNat (0:UInt8))):Int);let E2:=wrap u32 (wrap i64 (wrap i64 (frame*128)+v0.1)); .an (Qe0 v0.2 E2 1 E1) (.lv (Q9j v0.2 E2 1 E1) λ(x0:List Int)=> .nx ((True/\rE (frame:Int)/\rE (s:List UInt8)/\rE ((wrap i64 (v0.1+1)):Int)/\True)/\rE (x0:List Int)/\True) (Sum.inl (wrap i64 (v0.1+1),x0))))) (.lf (Sum.inr v0.2))) (.lf (Sum.inr v0.2))
def Qjw m frame s:=(Q8v m frame s).m
abbrev Qlk m frame s:=(Q8v m frame s).p
def Zew:LInv:={
 α:=(Int)×(List Int)
 F:=λst a=>([(0, .all 0),(1,(lk st 1)),(2,(lk st 2)),(6, .int i64 a.1)],[⟨false,25,1, .ints u32 a.2⟩])
 a0:=λst=>((lk st 6).toInt,(Q3h st.rows 0))
 ex0:=λst=>[0]++[]}
def Z46:List (Nat×LInv):=[(1,Zew)]
def Zfz:Q0b:=mT 270 [true,false,false] true [.one (.row 0), .one (.int .i64), .one (.str)] [.arr 25 1 (.ints .u32)] (λa r=>Q8v (rowL .u32 r 0) (argI a 1) (argS a 2)) (λX=> .tup []) (λX=>[⟨false,25,1, .ints .u32 X⟩])
theorem Qvz:Q04 pG Zfz:=oT (.cons Z1v (.nil)) Tryz.func270 Tryz.call270 [] Z46 3
def Q5z(d0:Q0d)(m:List Int)(e:Q0e):Tree (Q0d×Bool×(List Int)):=
.br (d0.B7 !=1) (.lf (d0,false,m)) (.br (e.C4 !=4) (.lf (d0,false,m)) (.br (decide (e.N>1)) (.lf (d0,false,m)) (let E4:=({Blocks:=d0.Blocks,C1:=d0.C1,Frame:=d0.Frame,B7:=2,D4:=0,B5:=0,B2:=0,B8:=[]}:Q0d);let E5:=({Blocks:=d0.Blocks,C1:=d0.C1,Frame:=d0.Frame,B7:=3,D4:=0,B5:=0,B2:=0,B8:=[]}:Q0d);let T2:Tree ((Q0d×Bool×(List Int))):= .br (e.N==1) (.lf (E4,true,m)) (.lf (E5,true,m));let E6:=decide ((e.C9.length:Int)>(0:Int)); .br (e.N==1) (let T1:Tree ((Q0d×Bool×(List Int))):= .br (d0.D4==1) (.an (Qlk m (wrap i64 d0.B2) e.C9) (.lv (Qjw m (wrap i64 d0.B2) e.C9) λ(x1:List Int)=> .br (e.N==1) (.lf (E4,true,x1)) (.lf (E5,true,x1)))) T2;let T3:Tree ((Q0d×Bool×(List Int))):= .br (!d0.D4==1) (.br E6 (.lf (d0,false,m)) T1) T1; .br (d0.D4==1) (.br ((e.C9.length:Int) !=(128:Int)) (.lf (d0,false,m)) (.lv (Q1v m d0.B2) λ(x0:Bool)=> .br (!x0) (.lf (d0,false,m)) T3)) T3) (.br E6 (.lf (d0,false,m)) T2))))
def Q8n d0 m e:=(Q5z d0 m e).m
abbrev Qgr d0 m e:=(Q5z d0 m e).p
def Zaz:Q0b:=mT 223 [false,true,false] true [.agg Q0d.sig, .one (.row 0), .agg Q0e.sig] [.arr 25 1 (.ints .u32)] (λa r=>Q5z (Q0d.of (aC a 0)) (rowL .u32 r 0) (Q0e.of (aC a 2))) (λX=> .tup [.agg (Q0d.cells (X.1)), .bool (X.2.1)]) (λX=>[⟨false,25,1, .ints .u32 (X.2.2)⟩])
theorem Qq5:Q04 pG Zaz:=oT (.cons Qek (.cons Qvz (.nil))) Tryz.func223 Tryz.call223 [] [] 2
def Q96(n:Q0m)(m:List Int)(frame:List UInt8):Tree (Q0m×Bool×(List Int)):=
.br (!n.C5) (.lf (n,false,m)) (.br (decide ((frame.length:Int)<(1:Int))) (.lf (n,false,m)) (.br (decide ((frame.length:Int)>(128:Int))) (.lf (n,false,m)) (.lv (Q1v m n.C0) λ(x0:Bool)=> .br (!x0) (.lf (n,false,m)) (.an (Qlk m (wrap i64 n.C0) frame) (.lv (Qjw m (wrap i64 n.C0) frame) λ(x1:List Int)=> .lf ({Frame:=n.Frame,D8:=n.D8,C5:=false,C0:=0,B6:=true,D9:=wrap u32 (frame.length:Int)},true,x1))))))
def Qay n m frame:=(Q96 n m frame).m
abbrev Qhv n m frame:=(Q96 n m frame).p
def Z86:Q0b:=mT 224 [false,true,false] true [.agg Q0m.sig, .one (.row 0), .one (.str)] [.arr 25 1 (.ints .u32)] (λa r=>Q96 (Q0m.of (aC a 0)) (rowL .u32 r 0) (argS a 2)) (λX=> .tup [.agg (Q0m.cells (X.1)), .bool (X.2.1)]) (λX=>[⟨false,25,1, .ints .u32 (X.2.2)⟩])
theorem Qpo:Q04 pG Z86:=oT (.cons Qek (.cons Qvz (.nil))) Tryz.func224 Tryz.call224 [] [] 2
def Q5u(m:Q00)(e:Q0e):Tree (Bool×Q00):=
.br m.A6 (.lf (false,m)) (let T1:Tree ((Bool×Q00)):= .br (e.C4==4) (.an (Qgr m.A9 m.Mem e) (.lv (Q8n m.A9 m.Mem e) λ(x2:Q0d×Bool×List Int)=> .lf (x2.2.1,{B1:=m.B1,Mem:=x2.2.2,A2:=m.A2,A7:=m.A7,A9:=x2.1,B9:=m.B9,A1:=m.A1,A4:=m.A4,A3:=m.A3,A6:=m.A6}))) (let T3:Tree ((Bool×Q00)):= .br (e.C4==6) (.br (decide (e.C9=[])) (.lf (true,{B1:=m.B1,Mem:=m.Mem,A2:=m.A2,A7:=m.A7,A9:=m.A9,B9:=m.B9,A1:={C6:=e.N,C2:=m.A1.C2},A4:=m.A4,A3:=m.A3,A6:=m.A6})) (.lf (false,m))) (.lf (false,m)); .br (e.C4==5) (.br (e.N==0) (.an (Qhv m.B9 m.Mem e.C9) (.lv (Qay m.B9 m.Mem e.C9) λ(x3:Q0m×Bool×List Int)=> .lf (x3.2.1,{B1:=m.B1,Mem:=x3.2.2,A2:=m.A2,A7:=m.A7,A9:=m.A9,B9:=x3.1,A1:=m.A1,A4:=m.A4,A3:=m.A3,A6:=m.A6}))) T3) T3);let T2:Tree ((Bool×Q00)):= .br (e.C4==3) (.br (decide (e.N<=255)) (.br (decide (e.C9=[])) (.an (Qlc m.A2 (wrap u8 e.N)) (.lv (Qrh m.A2 (wrap u8 e.N)) λ(x1:Q0c×Bool)=> .lf (x1.2,{B1:=m.B1,Mem:=m.Mem,A2:=x1.1,A7:=m.A7,A9:=m.A9,B9:=m.B9,A1:=m.A1,A4:=m.A4,A3:=m.A3,A6:=m.A6}))) T1) T1) T1; .br (e.C4==2) (.br (e.N==0) (.br (decide (e.C9=[])) (.lv (Qmq m.A7) λ(x0:Q0h×Bool)=> .lf (x0.2,{B1:=m.B1,Mem:=m.Mem,A2:=m.A2,A7:=x0.1,A9:=m.A9,B9:=m.B9,A1:=m.A1,A4:=m.A4,A3:=m.A3,A6:=m.A6})) T2) T2) T2)
def Q1n m e:=(Q5u m e).m
abbrev Qq0 m e:=(Q5u m e).p
def Zdv:Q0b:=mT 161 [true,false] true [.ptr 0, .agg Q0e.sig] [.box 43 49 (Q00.sigW (.row 1)), .arr 25 1 (.ints .u32)] (λa r=>Q5u (Q00.ofW (r.getD 0 default).cs (rowL .u32 r 1)) (Q0e.of (aC a 1))) (λX=> .bool (X.1)) (λX=>[⟨true,43,49, .gen [(Q00.cellsW (X.2) (.all 1))]⟩,⟨false,25,1, .ints .u32 (X.2).Mem⟩])
theorem Z83:Q04 pG Zdv:=oT (.cons Qwx (.cons Qxd (.cons Qq5 (.cons Qpo (.nil))))) Tryz.func161 Tryz.call161 [.row 25 1 (.ints .u32)] [] 2
def Q7t(m:Q01)(e:Q0e):Tree (Bool×Q01):=
.br m.A0.A6 (.lf (false,m)) (let T1:Tree ((Bool×Q01)):= .br (e.C4==4) (.an (Qgr m.A0.A9 m.A0.Mem e) (.lv (Q8n m.A0.A9 m.A0.Mem e) λ(x2:Q0d×Bool×List Int)=> .lf (x2.2.1,{A0:={B1:=m.A0.B1,Mem:=x2.2.2,A2:=m.A0.A2,A7:=m.A0.A7,A9:=x2.1,B9:=m.A0.B9,A1:=m.A0.A1,A4:=m.A0.A4,A3:=m.A0.A3,A6:=m.A0.A6},B3:=m.B3,C7:=m.C7,B0:=m.B0}))) (let T3:Tree ((Bool×Q01)):= .br (e.C4==6) (.br (decide (e.C9=[])) (.lf (true,{A0:={B1:=m.A0.B1,Mem:=m.A0.Mem,A2:=m.A0.A2,A7:=m.A0.A7,A9:=m.A0.A9,B9:=m.A0.B9,A1:={C6:=e.N,C2:=m.A0.A1.C2},A4:=m.A0.A4,A3:=m.A0.A3,A6:=m.A0.A6},B3:=m.B3,C7:=m.C7,B0:=m.B0})) (.lf (false,m))) (.lf (false,m)); .br (e.C4==5) (.br (e.N==0) (.an (Qhv m.A0.B9 m.A0.Mem e.C9) (.lv (Qay m.A0.B9 m.A0.Mem e.C9) λ(x3:Q0m×Bool×List Int)=> .lf (x3.2.1,{A0:={B1:=m.A0.B1,Mem:=x3.2.2,A2:=m.A0.A2,A7:=m.A0.A7,A9:=m.A0.A9,B9:=x3.1,A1:=m.A0.A1,A4:=m.A0.A4,A3:=m.A0.A3,A6:=m.A0.A6},B3:=m.B3,C7:=m.C7,B0:=m.B0}))) T3) T3);let T2:Tree ((Bool×Q01)):= .br (e.C4==3) (.br (decide (e.N<=255)) (.br (decide (e.C9=[])) (.an (Qlc m.A0.A2 (wrap u8 e.N)) (.lv (Qrh m.A0.A2 (wrap u8 e.N)) λ(x1:Q0c×Bool)=> .lf (x1.2,{A0:={B1:=m.A0.B1,Mem:=m.A0.Mem,A2:=x1.1,A7:=m.A0.A7,A9:=m.A0.A9,B9:=m.A0.B9,A1:=m.A0.A1,A4:=m.A0.A4,A3:=m.A0.A3,A6:=m.A0.A6},B3:=m.B3,C7:=m.C7,B0:=m.B0}))) T1) T1) T1; .br (e.C4==2) (.br (e.N==0) (.br (decide (e.C9=[])) (.lv (Qmq m.A0.A7) λ(x0:Q0h×Bool)=> .lf (x0.2,{A0:={B1:=m.A0.B1,Mem:=m.A0.Mem,A2:=m.A0.A2,A7:=x0.1,A9:=m.A0.A9,B9:=m.A0.B9,A1:=m.A0.A1,A4:=m.A0.A4,A3:=m.A0.A3,A6:=m.A0.A6},B3:=m.B3,C7:=m.C7,B0:=m.B0})) T2) T2) T2)
def Qil m e:=(Q7t m e).m
abbrev Qly m e:=(Q7t m e).p
def Z4q:Q0b:=mT 161 [true,false] true [.ptr 0, .agg Q0e.sig] [.box 96 52 (Q01.sigW (.row 1) (.row 2) (.row 3)), .arr 25 1 (.ints .u32), .arr 126 4 (.recs .apiEntry), .arr 66 3 (.recs .apiEvent)] (λa r=>Q7t (Q01.ofW (r.getD 0 default).cs (rowL .u32 r 1) (rowR .apiEntry r 2) (rowR .apiEvent r 3)) (Q0e.of (aC a 1))) (λX=> .bool (X.1)) (λX=>[⟨true,96,52, .gen [(Q01.cellsW (X.2) (.all 1) (.all 2) (.all 3))]⟩,⟨false,25,1, .ints .u32 (X.2).A0.Mem⟩,⟨false,126,4, .recs .apiEntry (X.2).C7⟩,⟨false,66,3, .recs .apiEvent (X.2).B0⟩])
theorem Z2k:Q04 pG Z4q:=oT (.cons Qwx (.cons Qxd (.cons Qq5 (.cons Qpo (.nil))))) Tryz.func161 Tryz.call161 [.row 25 1 (.ints .u32), .row 126 4 (.recs .apiEntry), .row 66 3 (.recs .apiEvent)] [] 2
def Q6e(m:Q01)(e:Q0e):Tree (Bool×Q01):=
.an (Qly m e) (.lv (Qil m e) λ(x0:Bool×Q01)=> .lf (x0.1,x0.2))
def Qfy m e:=(Q6e m e).m
abbrev Qk1 m e:=(Q6e m e).p
def Z3:Q0b:=mT 159 [true,false] true [.ptr 0, .agg Q0e.sig] [.box 96 52 (Q01.sigW (.row 1) (.row 2) (.row 3)), .arr 25 1 (.ints .u32), .arr 126 4 (.recs .apiEntry), .arr 66 3 (.recs .apiEvent)] (λa r=>Q6e (Q01.ofW (r.getD 0 default).cs (rowL .u32 r 1) (rowR .apiEntry r 2) (rowR .apiEvent r 3)) (Q0e.of (aC a 1))) (λX=> .bool (X.1)) (λX=>[⟨true,96,52, .gen [(Q01.cellsW (X.2) (.all 1) (.all 2) (.all 3))]⟩,⟨false,25,1, .ints .u32 (X.2).A0.Mem⟩,⟨false,126,4, .recs .apiEntry (X.2).C7⟩,⟨false,66,3, .recs .apiEvent (X.2).B0⟩])
theorem Qyj:Q04 pG Z3:=oT (.cons Z2k (.nil)) Tryz.func159 Tryz.call159 [.row 25 1 (.ints .u32), .row 126 4 (.recs .apiEntry), .row 66 3 (.recs .apiEvent)] [] 2
def Q9c(r:Q01)(e:Q0e):Tree Q01:=
.an (Qk1 r e) (.lv (Qfy r e) λ(x0:Bool×Q01)=> .br x0.1 (.cn (decide (40*(x0.2.C7.length+1)<=140737488355328)) (.lf ({A0:=x0.2.A0,B3:=x0.2.B3,C7:=x0.2.C7++[{At:=x0.2.A0.A4,Event:=e}],B0:=x0.2.B0}))) (.lf x0.2))
def Qhe r e:=(Q9c r e).m
abbrev Qhr r e:=(Q9c r e).p
def Za2:Q0b:=mkKP 1 213 [true,false] [.ptr 0, .agg Q0e.sig] [.box 96 52 (Q01.sigW (.row 1) (.row 2) (.row 3)), .arr 25 1 (.ints .u32), .arr 126 4 (.recs .apiEntry), .arr 66 3 (.recs .apiEvent)] (λa r=>Qhr (Q01.ofW (r.getD 0 default).cs (rowL .u32 r 1) (rowR .apiEntry r 2) (rowR .apiEvent r 3)) (Q0e.of (aC a 1))) (λa r=>Qhe (Q01.ofW (r.getD 0 default).cs (rowL .u32 r 1) (rowR .apiEntry r 2) (rowR .apiEvent r 3)) (Q0e.of (aC a 1))) (λX=> .tup []) (λX=>[⟨true,96,52, .gen [(Q01.cellsW X (.all 1) (.all 2) (.all 3))]⟩,⟨false,25,1, .ints .u32 X.A0.Mem⟩,⟨false,126,4, .recs .apiEntry X.C7⟩,⟨false,66,3, .recs .apiEvent X.B0⟩])
theorem Z3y:Q04 pG Za2:=Qtw drawn Q0g (.cons Qyj (.nil)) Tryz.func213 Tryz.call213 (λa r=>Q9c (Q01.ofW (r.getD 0 default).cs (rowL .u32 r 1) (rowR .apiEntry r 2) (rowR .apiEvent r 3)) (Q0e.of (aC a 1))) [.row 25 1 (.ints .u32), .row 126 4 (.recs .apiEntry), .row 66 3 (.recs .apiEvent)] [] 2 (λ_ _ _=>by kernel_rfl) (λ_ _=>rfl) (λ_ _ h=>h)
def Qh1(is:Bool)(n:Int):Tree Int:=
.br is (.cn (decide (0<=wrap u64 n)) (.lf (ishl u32 1 (wrap u64 n)))) (.lf 0)
def Q86 is n:=(Qh1 is n).m
abbrev Q9g is n:=(Qh1 is n).p
def Zgx:Q0b:=mT 104 [] true [.one (.bool), .one (.int .i64)] [] (λa r=>Qh1 (argB a 0) (argI a 1)) (λX=> .int .u32 X) (λX=>[])
theorem Ze1:Q04 pG Zgx:=oT (.nil) Tryz.func104 Tryz.call104 [] [] 2
def Qic(t:Q0h):Tree Bool:=
.lf t.D1
def Q95 t:=(Qic t).m
def Qqr:Q0b:=mS 105 [] true [.agg Q0h.sig] [] (λa r=>Qic (Q0h.of (aC a 0))) (λX=> .bool X) (λX=>[])
theorem Qpf:Q04 pG Qqr:=oS (.nil) Tryz.func105 Tryz.call105 [] [] 2
def Qew(c:Q0c):Tree Bool:=
.lf (decide ((c.D0.length:Int)>(0:Int)))
def Q4v c:=(Qew c).m
def Qnd:Q0b:=mS 106 [] true [.agg Q0c.sig] [] (λa r=>Qew (Q0c.of (aC a 0))) (λX=> .bool X) (λX=>[])
theorem Qmf:Q04 pG Qnd:=oS (.nil) Tryz.func106 Tryz.call106 [] [] 2
def Qik(d0:Q0d):Tree Bool:=
.br (d0.B7==2) (.lf true) (.lf (d0.B7==3))
def Qah d0:=(Qik d0).m
def Qrz:Q0b:=mS 107 [] true [.agg Q0d.sig] [] (λa r=>Qik (Q0d.of (aC a 0))) (λX=> .bool X) (λX=>[])
theorem Qqh:Q04 pG Qrz:=oS (.nil) Tryz.func107 Tryz.call107 [] [] 2
def Qjy(n:Q0m):Tree Bool:=
.lf n.B6
def Qce n:=(Qjy n).m
def Quu:Q0b:=mS 108 [] true [.agg Q0m.sig] [] (λa r=>Qjy (Q0m.of (aC a 0))) (λX=> .bool X) (λX=>[])
theorem Qrr:Q04 pG Quu:=oS (.nil) Tryz.func108 Tryz.call108 [] [] 2
def Qn1(b:Q07)(z:(Int)×(Int)):Prop:=0<=z.2/\z.2<=32
def Qey(b:Q07)(z:(Int)×(Int)):Nat:=(32-z.2).toNat
def Qiy(b:Q07):Tree Int:=
.lp inferInstance (Qey b (0,0)+1) ((rZ/\rE (0:Int)/\rE (0:Int)/\True)/\(rE b.C6/\rE b.C2/\True)/\True) (0,0) λ(v0:Int×Int)=> .br (decide (v0.2<32)) (.cn (decide (0<=wrap u64 v0.2)) (.nx ((rZ/\rE ((wrap i64 (v0.1+wrap i64 (iand u32 (ishr u32 b.C2 (wrap u64 v0.2)) 1))):Int)/\rE ((wrap i64 (v0.2+1)):Int)/\True)/\(rE b.C6/\rE b.C2/\True)/\True) (Sum.inl (wrap i64 (v0.1+wrap i64 (iand u32 (ishr u32 b.C2 (wrap u64 v0.2)) 1)),wrap i64 (v0.2+1))))) (.lf (Sum.inr v0.1))
def Qcz b:=(Qiy b).m
theorem Z51(b:Q07):(Qiy b).p:=by
 unfold Tree.p Qiy
 repeat'(first|refine w_lp (inv:=Qn1 b) (μ:=Qey b) ?_ (cO _) (λ_ _=> ?_)|exact trivial|refine w_br (λ_=> ?_) (λ_=> ?_)|refine w_cn ?_ ?_|refine w_an ?_ ?_|refine w_lv (λ_ _=> ?_)|refine w_nx ?_|refine w_lf ?_|refine And.intro ?_ ?_)
 all_goals((try simp only[Qn1,Qey]at*);exact fin0)
def Z7j:LInv:={
 α:=(Int)×(Int)
 F:=λst a=>([(1, .ptr 0 0 0),(3, .int i64 a.1),(4, .int i64 a.2)],[⟨true,40,2, .gen [[(cT st 1 0),(cT st 1 1)]]⟩])
 a0:=λst=>((lk st 3).toInt,(lk st 4).toInt)
 ex0:=λst=>[]++[(rX st 1 0)]}
def Z2a:List (Nat×LInv):=[(3,Z7j)]
def Zdg:Q0b:=mS 177 [] true [.agg Q07.sig] [] (λa r=>Qiy (Q07.of (aC a 0))) (λX=> .int .i64 X) (λX=>[])
theorem Qs5:Q04 pG Zdg:=oS (.nil) Tryz.func177 Tryz.call177 [] Z2a 3 (λ_ _ _=>by kernel_rfl) (λa r=>Z51 (Q07.of (aC a 0))) (λ_ X=>by kernel_rfl)
def Q8w(b:Q07):Tree Bool:=
.lv (Qcz b) λ(x0:Int)=> .lf (wrap u64 x0 !=wrap u64 b.C6)
def Q3b b:=(Q8w b).m
def Qo4:Q0b:=mS 109 [] true [.agg Q07.sig] [] (λa r=>Q8w (Q07.of (aC a 0))) (λX=> .bool X) (λX=>[])
theorem Qmd:Q04 pG Qo4:=oS (.cons Qs5 (.nil)) Tryz.func109 Tryz.call109 [] [] 2
def Qen(m:Q00):Tree Int:=
.lv (Q95 m.A7) λ(x0:Bool)=> .an (Q9g x0 0) (.lv (Q86 x0 0) λ(x1:Int)=> .lv (Q4v m.A2) λ(x2:Bool)=> .an (Q9g x2 1) (.lv (Q86 x2 1) λ(x3:Int)=> .lv (Qah m.A9) λ(x4:Bool)=> .an (Q9g x4 2) (.lv (Q86 x4 2) λ(x5:Int)=> .lv (Qce m.B9) λ(x6:Bool)=> .an (Q9g x6 3) (.lv (Q86 x6 3) λ(x7:Int)=> .lv (Q3b m.A1) λ(x8:Bool)=> .an (Q9g x8 4) (.lv (Q86 x8 4) λ(x9:Int)=> .lf (ior u32 (ior u32 (ior u32 (ior u32 x1 x3) x5) x7) x9))))))
def Qgc m:=(Qen m).m
abbrev Qpz m:=(Qen m).p
def Zfe:Q0b:=mT 27 [] true [.agg Q00.sig] [] (λa r=>Qen (Q00.of (aC a 0))) (λX=> .int .u32 X) (λX=>[])
theorem Z9y:Q04 pG Zfe:=oT (.cons Ze1 (.cons Qpf (.cons Qmf (.cons Qqh (.cons Qrr (.cons Qmd (.nil))))))) Tryz.func27 Tryz.call27 [] [] 2
def Q7s(m:Q00):Tree Int:=
.an (Qpz m) (.lv (Qgc m) λ(x0:Int)=> .lf (iand u32 x0 m.B1.B4.a7))
def Q2k m:=(Q7s m).m
abbrev Qf3 m:=(Q7s m).p
def Z4n:Q0b:=mT 111 [] true [.agg Q00.sig] [] (λa r=>Q7s (Q00.of (aC a 0))) (λX=> .int .u32 X) (λX=>[])
theorem Qn9:Q04 pG Z4n:=oT (.cons Z9y (.nil)) Tryz.func111 Tryz.call111 [] [] 2
def Qd2(m:Q00):Tree Bool:=
.br m.A3 (.an (Qf3 m) (.lv (Q2k m) λ(x0:Int)=> .lf (x0==0))) (.lf false)
def Qe1 m:=(Qd2 m).m
abbrev Qks m:=(Qd2 m).p
def Zia:Q0b:=mT 29 [] true [.agg Q00.sig] [] (λa r=>Qd2 (Q00.of (aC a 0))) (λX=> .bool X) (λX=>[])
theorem Qws:Q04 pG Zia:=oT (.cons Qn9 (.nil)) Tryz.func29 Tryz.call29 [] [] 2
def Q8j(m:Q00):Tree Bool:=
.lv (Q9a m) λ(x0:Bool)=> .br (!x0) (.lf true) (.br m.A6 (.lf true) (.an (Qks m) (.lv (Qe1 m) λ(x1:Bool)=> .br x1 (.lf true) (.lf (decide (m.A4>=1152921504606846976))))))
def Q2a m:=(Q8j m).m
abbrev Qdq m:=(Q8j m).p
def Zeq:Q0b:=mT 115 [] true [.agg Q00.sig] [] (λa r=>Q8j (Q00.of (aC a 0))) (λX=> .bool X) (λX=>[])
theorem Qso:Q04 pG Zeq:=oT (.cons Qqf (.cons Qws (.nil))) Tryz.func115 Tryz.call115 [] [] 2
end
noncomputable section
def Z6u(b:Bool):Tree Int:=
.br b (.lf 1) (.lf 0)
def Qab b:=(Z6u b).m
def Znd:Q0b:=mS 281 [] true [.one (.bool)] [] (λa r=>Z6u (argB a 0)) (λX=> .int .u32 X) (λX=>[])
theorem Qqq:Q04 pG Znd:=oS (.nil) Tryz.func281 Tryz.call281 [] [] 2
def Qhb(c:Q02)(cause bad:Int):Tree Q02:=
.lv (Qab (iand u32 c.B4.a0 (1:Int) !=(0:Int))) λ(x0:Int)=> .lv (Qab (iand u32 c.B4.a0 (2:Int) !=(0:Int))) λ(x1:Int)=> .lf ({X:=c.X,Pc:=c.B4.a1,B4:={a0:=ior u32 (Qg u32 (ior u32 (ior u32 (Qg u32 c.B4.a0 24) (wrap u32 (8*x0))) (wrap u32 (16*x1))) 2) 1,a1:=c.B4.a1,a2:=c.Pc,a3:=wrap u32 cause,a4:=bad,a5:=c.B4.a5,a6:=c.B4.a6,a7:=c.B4.a7}})
def Q2g c cause bad:=(Qhb c cause bad).m
def Zhc:Q0b:=mS 244 [] true [.agg Q02.sig, .one (.int .i64), .one (.int .u32)] [] (λa r=>Qhb (Q02.of (aC a 0)) (argI a 1) (argI a 2)) (λX=> .agg (Q02.cells X)) (λX=>[])
theorem Qiz:Q04 pG Zhc:=oS (.cons Qqq (.nil)) Tryz.func244 Tryz.call244 [] [] 2
def Q6w(m:List Int)(addr size:Int):Tree Bool:=
let T1:Tree (Bool):= .cn (decide (wrap u32 size≠0)) (.br (dF addr (wrap u32 size)==0) (.lv (Q34 m) λ(x0:Int)=> .lf (decide (addr<wrap u32 (wrap i64 (128*x0))))) (.lf false)); .br (size !=1) (.br (size !=4) (.lf false) T1) T1
def Q2d m addr size:=(Q6w m addr size).m
abbrev Qbw m addr size:=(Q6w m addr size).p
def Zao:Q0b:=mT 245 [] true [.one (.ints .u32), .one (.int .u32), .one (.int .i64)] [] (λa r=>Q6w (argL .u32 a 0) (argI a 1) (argI a 2)) (λX=> .bool X) (λX=>[])
theorem Qj4:Q04 pG Zao:=oT (.cons Qbx (.nil)) Tryz.func245 Tryz.call245 [] [] 2
def Q62(m:List Int)(addr size:Int):Tree (Int×Bool):=
.an (Qbw m addr size) (.lv (Q2d m addr size) λ(x0:Bool)=> .br (!x0) (.lf (0,false)) (.cn (bS 1 1&&bT 0 1&&decide (0<=wrap u32 (eX addr 4)/\wrap u32 (eX addr 4)<(m.length:Int))) (.br (size==1) (.cn (decide (0<=wrap u32 (8*dF addr 4))) (.lf (iand u32 (ishr u32 (m.getD (dG (wrap u32 (eX addr 4))) 0) (wrap u32 (8*dF addr 4))) 255,true))) (.lf (m.getD (dG (wrap u32 (eX addr 4))) 0,true)))))
def Q22 m addr size:=(Q62 m addr size).m
abbrev Qc2 m addr size:=(Q62 m addr size).p
def Zi3:Q0b:=mT 187 [] true [.one (.ints .u32), .one (.int .u32), .one (.int .i64)] [] (λa r=>Q62 (argL .u32 a 0) (argI a 1) (argI a 2)) (λX=> .tup [.int .u32 (X.1), .bool (X.2)]) (λX=>[])
theorem Qny:Q04 pG Zi3:=oT (.cons Qj4 (.nil)) Tryz.func187 Tryz.call187 [] [] 2
def Q92(w:Int):Tree (Q0i×Bool):=
.lv (Q23 (wrap i64 (ishr u32 w 24))) λ(x0:Int)=>let E5:=({Op:=0,A:=0,B:=0,C:=0,Imm:=0}:Q0i); .br (x0==0) (.lf (E5,false)) (.br (x0==2) (let E3:=({Op:=wrap i64 (ishr u32 w 24),A:=wrap i64 (iand u32 (ishr u32 w 20) 15),B:=wrap i64 (iand u32 (ishr u32 w 16) 15),C:=wrap i64 (iand u32 w 65535),Imm:=0}:Q0i); .lv (Q7k E3) λ(x1:Bool)=> .br (!x1) (.lf (E5,false)) (.lf (E3,true))) (let T1:Tree ((Q0i×Bool)):=let E2:=({Op:=wrap i64 (ishr u32 w 24),A:=wrap i64 (iand u32 (ishr u32 w 20) 15),B:=wrap i64 (iand u32 (ishr u32 w 16) 15),C:=0,Imm:=wrap i32 (wrap i16 (iand u32 w 65535))}:Q0i); .lv (Q7k E2) λ(x2:Bool)=> .br (!x2) (.lf (E5,false)) (.lf (E2,true)); .br (x0==3) T1 (.br (x0==7) T1 (let E4:=({Op:=wrap i64 (ishr u32 w 24),A:=wrap i64 (iand u32 (ishr u32 w 20) 15),B:=wrap i64 (iand u32 (ishr u32 w 16) 15),C:=0,Imm:=wrap i32 (iand u32 w 65535)}:Q0i); .lv (Q7k E4) λ(x4:Bool)=> .br (!x4) (.lf (E5,false)) (.lf (E4,true))))))
def Q3f w:=(Q92 w).m
def Z7l:Q0b:=mS 188 [] true [.one (.int .u32)] [] (λa r=>Q92 (argI a 0)) (λX=> .tup [.agg (Q0i.cells (X.1)), .bool (X.2)]) (λX=>[])
theorem Qq4:Q04 pG Z7l:=oS (.cons Qeg (.cons Qt0 (.nil))) Tryz.func188 Tryz.call188 [] [] 2
def Qwp(access:Int):Tree Bool:=
.br (decide (access>=1)) (.lf (decide (access<=3))) (.lf false)
def Qga access:=(Qwp access).m
def Zd4:Q0b:=mS 292 [] true [.one (.int .i64)] [] (λa r=>Qwp (argI a 0)) (λX=> .bool X) (λX=>[])
theorem Qtc:Q04 pG Zd4:=oS (.nil) Tryz.func292 Tryz.call292 [] [] 2
def Qwl(c:Q02):Tree Bool:=
.lf (iand u32 c.B4.a0 (5:Int)==(4:Int))
def Qoh c:=(Qwl c).m
def Zfj:Q0b:=mS 293 [] true [.agg Q02.sig] [] (λa r=>Qwl (Q02.of (aC a 0))) (λX=> .bool X) (λX=>[])
theorem Z8h:Q04 pG Zfj:=oS (.nil) Tryz.func293 Tryz.call293 [] [] 2
def Q7j(access:Int):Tree Int:=
.br (access==1) (.lf 4) (.br (access==3) (.lf 6) (.lf 5))
def Q3 access:=(Q7j access).m
def Z4o:Q0b:=mS 294 [] true [.one (.int .i64)] [] (λa r=>Q7j (argI a 0)) (λX=> .int .i64 X) (λX=>[])
theorem Qn3:Q04 pG Z4o:=oS (.nil) Tryz.func294 Tryz.call294 [] [] 2
def Q8t(m:List Int)(root va access:Int):Tree Q0x:=
.lv (Q3 access) λ(x0:Int)=> .lv (Q34 m) λ(x1:Int)=> .lv (Qga access) λ(x2:Bool)=>let E4:=({Addr:=0,F0:=0,E0:=x0}:Q0x); .br (!x2) (.lf (E4)) (.br (decide (va>=4096)) (.lf (E4)) (.br (decide (root>=wrap u32 x1)) (.lf (E4)) (let E6:=wrap u32 (root*128)+wrap u32 (4*wrap u32 (eX va 128));let E3:=eX (wrap u32 E6) 4; .cn (bS 1 1&&bT 0 1&&decide (0<=wrap u32 E3/\wrap u32 E3<(m.length:Int))) (let E5:=m.getD (dG (wrap u32 E3)) 0; .br (iand u32 E5 (1:Int)==(0:Int)) (.lf (E4)) (let T1:Tree (Q0x):= .br (decide (iand u32 (ishr u32 E5 8) 255>=wrap u32 x1)) (.lf (E4)) (.lf ({Addr:=wrap u32 (wrap u32 (iand u32 (ishr u32 E5 8) (255:Int)*(128:Int))+dF va 128),F0:=wrap u32 E6,E0:=0}));let T2:Tree (Q0x):= .br (access==1) (.br (iand u32 E5 (4:Int)==(0:Int)) (.lf (E4)) T1) T1; .br (access==3) (.br (iand u32 E5 (2:Int)==(0:Int)) (.lf (E4)) T2) T2)))))
def Q5i m root va access:=(Q8t m root va access).m
abbrev Qsl m root va access:=(Q8t m root va access).p
def Zgl:Q0b:=mT 295 [] true [.one (.ints .u32), .one (.int .u32), .one (.int .u32), .one (.int .i64)] [] (λa r=>Q8t (argL .u32 a 0) (argI a 1) (argI a 2) (argI a 3)) (λX=> .agg (Q0x.cells X)) (λX=>[])
theorem Zdq:Q04 pG Zgl:=oT (.cons Qn3 (.cons Qbx (.cons Qtc (.nil)))) Tryz.func295 Tryz.call295 [] [] 2
def Qdb(m:List Int)(entry access:Int):Tree (List Int):=
.an (Qbw m entry 4) (.lv (Q2d m entry 4) λ(x0:Bool)=> .br (!x0) (.lf m) (let E3:=bS 1 1&&bT 0 1&&decide (0<=wrap u32 (eX entry 4)/\wrap u32 (eX entry 4)<(m.length:Int)); .cn E3 (.cn E3 (let E4:=dG (wrap u32 (eX entry 4));let E1:=dH m E4 (ior u32 (m.getD E4 0) 8); .br (access==3) (let E2:=bS 1 1&&bT 0 1&&decide (0<=wrap u32 (eX entry 4)/\wrap u32 (eX entry 4)<(↑(dL E1):Int)); .cn E2 (.cn E2 (.lf (dH E1 E4 (ior u32 (aK E1 E4 0) 16))))) (.lf E1)))))
def Qmt m entry access:=(Qdb m entry access).m
abbrev Qr7 m entry access:=(Qdb m entry access).p
def Zhk:Q0b:=mT 296 [true,false,false] true [.one (.row 0), .one (.int .u32), .one (.int .i64)] [.arr 25 1 (.ints .u32)] (λa r=>Qdb (rowL .u32 r 0) (argI a 1) (argI a 2)) (λX=> .tup []) (λX=>[⟨false,25,1, .ints .u32 X⟩])
theorem Zfa:Q04 pG Zhk:=oT (.cons Qj4 (.nil)) Tryz.func296 Tryz.call296 [] [] 2
def Q8f(c:Q02)(m:List Int)(va size access:Int):Tree (Int×Int×(List Int)):=
.lv (Qga access) λ(x0:Bool)=> .br (!x0) (.lf (0,5,m)) (let T1:Tree ((Int×Int×(List Int))):= .cn (decide (wrap u32 size≠0)) (.br (dF va (wrap u32 size) !=0) (.lf (0,3,m)) (.lv (Qoh c) λ(x1:Bool)=> .br (!x1) (.an (Qbw m va size) (.lv (Q2d m va size) λ(x2:Bool)=> .br (!x2) (.lv (Q3 access) λ(x3:Int)=> .lf (0,x3,m)) (.lf (va,0,m)))) (.an (Qsl m c.B4.a6 va access) (.lv (Q5i m c.B4.a6 va access) λ(x4:Q0x)=> .br (x4.E0 !=0) (.lf (0,x4.E0,m)) (.an (Qr7 m x4.F0 access) (.lv (Qmt m x4.F0 access) λ(x5:List Int)=> .lf (x4.Addr,0,x5))))))); .br (size !=1) (.br (size !=4) (.lf (0,5,m)) T1) T1)
def Q0w c m va size access:=(Q8f c m va size access).m
abbrev Q7m c m va size access:=(Q8f c m va size access).p
def Zen:Q0b:=mT 254 [false,true,false,false,false] true [.agg Q02.sig, .one (.row 0), .one (.int .u32), .one (.int .i64), .one (.int .i64)] [.arr 25 1 (.ints .u32)] (λa r=>Q8f (Q02.of (aC a 0)) (rowL .u32 r 0) (argI a 2) (argI a 3) (argI a 4)) (λX=> .tup [.int .u32 (X.1), .int .i64 (X.2.1)]) (λX=>[⟨false,25,1, .ints .u32 (X.2.2)⟩])
theorem Qt5:Q04 pG Zen:=oT (.cons Qtc (.cons Z8h (.cons Qj4 (.cons Qn3 (.cons Zdq (.cons Zfa (.nil))))))) Tryz.func254 Tryz.call254 [] [] 2
def Qk2(op:Int):Tree Bool:=
.br (decide (op>=57)) (.lf (decide (op<=64))) (.lf false)
def Q4z op:=(Qk2 op).m
def Quk:Q0b:=mS 255 [] true [.one (.int .i64)] [] (λa r=>Qk2 (argI a 0)) (λX=> .bool X) (λX=>[])
theorem Qrs:Q04 pG Quk:=oS (.nil) Tryz.func255 Tryz.call255 [] [] 2
def Qcq(c:Q02):Tree Q02:=
.lv (Qab (iand u32 c.B4.a0 (8:Int) !=(0:Int))) λ(x0:Int)=> .lv (Qab (iand u32 c.B4.a0 (16:Int) !=(0:Int))) λ(x1:Int)=> .lf ({X:=c.X,Pc:=c.B4.a2,B4:={a0:=ior u32 (ior u32 (Qg u32 c.B4.a0 3) (wrap u32 (1*x0))) (wrap u32 (2*x1)),a1:=c.B4.a1,a2:=c.B4.a2,a3:=c.B4.a3,a4:=c.B4.a4,a5:=c.B4.a5,a6:=c.B4.a6,a7:=c.B4.a7}})
def Qgz c:=(Qcq c).m
def Zam:Q0b:=mS 297 [] true [.agg Q02.sig] [] (λa r=>Qcq (Q02.of (aC a 0))) (λX=> .agg (Q02.cells X)) (λX=>[])
theorem Z4z:Q04 pG Zam:=oS (.cons Qqq (.nil)) Tryz.func297 Tryz.call297 [] [] 2
def Qdc(c:Q02)(r v:Int):Tree Q02:=
.br (decide (r>0)) (.br (decide (r<16)) (.cn (bT 0 1&&decide (0<=r/\r<(↑16:Int))) (.lf ({X:=A16.of 0 (dH (A16.l c.X) r.toNat v),Pc:=c.Pc,B4:=c.B4}))) (.lf c)) (.lf c)
def Q1m c r v:=(Qdc c r v).m
abbrev Q2j c r v:=(Qdc c r v).p
def Znb:Q0b:=mT 219 [] true [.agg Q02.sig, .one (.int .i64), .one (.int .u32)] [] (λa r=>Qdc (Q02.of (aC a 0)) (argI a 1) (argI a 2)) (λX=> .agg (Q02.cells X)) (λX=>[])
theorem Qd8:Q04 pG Znb:=oT (.nil) Tryz.func219 Tryz.call219 [] [] 2
def Qbi(c:Q02)(csr v:Int):Tree Q02:=
let E4:=bT 0 1&&decide (0<=csr/\csr<(↑8:Int));let T2:Tree (Q02):= .cn E4 (.lf ({X:=c.X,Pc:=c.Pc,B4:=A8.of 0 (dH (A8.l c.B4) csr.toNat (iand u32 v 31))})); .br (csr==0) T2 (.br (csr==7) T2 (.br (csr==6) (.cn E4 (.lf ({X:=c.X,Pc:=c.Pc,B4:=A8.of 0 (dH (A8.l c.B4) csr.toNat (iand u32 v 255))}))) (let T3:Tree (Q02):= .cn E4 (.lf ({X:=c.X,Pc:=c.Pc,B4:=A8.of 0 (dH (A8.l c.B4) csr.toNat (Qg u32 v 3))})); .br (csr==1) T3 (.br (csr==2) T3 (let T1:Tree (Q02):= .cn E4 (.lf ({X:=c.X,Pc:=c.Pc,B4:=A8.of 0 (dH (A8.l c.B4) csr.toNat v)})); .br (csr==3) T1 (.br (csr==4) T1 (.br (csr==5) T1 (.lf c))))))))
def Qg6 c csr v:=(Qbi c csr v).m
abbrev Qpv c csr v:=(Qbi c csr v).p
def Zco:Q0b:=mT 298 [] true [.agg Q02.sig, .one (.int .i64), .one (.int .u32)] [] (λa r=>Qbi (Q02.of (aC a 0)) (argI a 1) (argI a 2)) (λX=> .agg (Q02.cells X)) (λX=>[])
theorem Zat:Q04 pG Zco:=oT (.nil) Tryz.func298 Tryz.call298 [] [] 2
def Qc4(c:Q02)(i:Q0i):Tree (Q02×Q0v):=
.br (i.Op==56) (.lv (Q2g c 7 0) λ(x0:Q02)=> .lf (x0,{C4:=0,C8:=0,D7:=0,Value:=0})) (.br (i.Op==57) (.lv (Qgz c) λ(x1:Q02)=> .lf (x1,{C4:=0,C8:=0,D7:=0,Value:=0})) (.br (i.Op==58) (.cn (bT 0 1&&decide (0<=i.Imm/\i.Imm<(↑8:Int))) (let E3:=aK (A8.l c.B4) i.Imm.toNat 0; .an (Q2j c i.A E3) (.lv (Q1m c i.A E3) λ(x2:Q02)=> .lf ({X:=x2.X,Pc:=wrap u32 (x2.Pc+4),B4:=x2.B4},{C4:=0,C8:=0,D7:=0,Value:=0})))) (let E2:=bT 0 1&&decide (0<=i.A/\i.A<(↑16:Int)); .br (i.Op==59) (.cn E2 (let E4:=aK (A16.l c.X) i.A.toNat 0; .an (Qpv c (wrap i64 i.Imm) E4) (.lv (Qg6 c (wrap i64 i.Imm) E4) λ(x3:Q02)=> .lf ({X:=x3.X,Pc:=wrap u32 (x3.Pc+4),B4:=x3.B4},{C4:=0,C8:=0,D7:=0,Value:=0})))) (let E1:=({X:=c.X,Pc:=wrap u32 (c.Pc+4),B4:=c.B4}:Q02); .br (i.Op==60) (.lf (E1,{C4:=1,C8:=wrap i64 i.Imm,D7:=i.A,Value:=0})) (.br (i.Op==61) (.cn E2 (.lf (E1,{C4:=2,C8:=wrap i64 i.Imm,D7:=0,Value:=aK (A16.l c.X) i.A.toNat 0}))) (.br (i.Op==62) (.lf (E1,{C4:=3,C8:=0,D7:=0,Value:=0})) (.br (i.Op==63) (.lf (E1,{C4:=5,C8:=0,D7:=0,Value:=0})) (.br (i.Op==64) (.lf (E1,{C4:=4,C8:=0,D7:=0,Value:=0})) (.lf (E1,{C4:=0,C8:=0,D7:=0,Value:=0}))))))))))
def Ql5 c i:=(Qc4 c i).m
abbrev Qo3 c i:=(Qc4 c i).p
def Z8f:Q0b:=mT 256 [] true [.agg Q02.sig, .agg Q0i.sig] [] (λa r=>Qc4 (Q02.of (aC a 0)) (Q0i.of (aC a 1))) (λX=> .tup [.agg (Q02.cells (X.1)), .agg (Q0v.cells (X.2))]) (λX=>[])
theorem Z4y:Q04 pG Z8f:=oT (.cons Qiz (.cons Z4z (.cons Qd8 (.cons Zat (.nil))))) Tryz.func256 Tryz.call256 [] [] 2
def Qwb(op a b:Int):Tree Bool:=
.br (op==40) (.lf (a==b)) (.br (op==41) (.lf (a !=b)) (.br (op==42) (.lf (decide (wrap i32 a<wrap i32 b))) (.br (op==43) (.lf (decide (wrap i32 a>=wrap i32 b))) (.br (op==44) (.lf (decide (a<b))) (.lf (decide (a>=b)))))))
def Q2 op a b:=(Qwb op a b).m
def Zeh:Q0b:=mS 299 [] true [.one (.int .i64), .one (.int .u32), .one (.int .u32)] [] (λa r=>Qwb (argI a 0) (argI a 1) (argI a 2)) (λX=> .bool X) (λX=>[])
theorem Za8:Q04 pG Zeh:=oS (.nil) Tryz.func299 Tryz.call299 [] [] 2
def Qgy(c:Q02)(i:Q0i):Tree Q02:=
.br (i.Op==48) (.an (Q2j c i.A (wrap u32 (c.Pc+4))) (.lv (Q1m c i.A (wrap u32 (c.Pc+4))) λ(x0:Q02)=> .lf ({X:=x0.X,Pc:=wrap u32 (c.Pc+wrap u32 (4*wrap u32 i.Imm)),B4:=x0.B4}))) (let E1:=bT 0 1&&decide (0<=i.B/\i.B<(↑16:Int)); .br (i.Op==49) (.cn E1 (.an (Q2j c i.A (wrap u32 (c.Pc+4))) (.lv (Q1m c i.A (wrap u32 (c.Pc+4))) λ(x1:Q02)=> .lf ({X:=x1.X,Pc:=wrap u32 (aK (A16.l c.X) i.B.toNat 0+wrap u32 i.Imm),B4:=x1.B4})))) (.cn (bT 0 1&&decide (0<=i.A/\i.A<(↑16:Int))) (.cn E1 (.lv (Q2 i.Op (aK (A16.l c.X) i.A.toNat 0) (aK (A16.l c.X) i.B.toNat 0)) λ(x2:Bool)=> .br x2 (.lf ({X:=c.X,Pc:=wrap u32 (c.Pc+wrap u32 (4*wrap u32 i.Imm)),B4:=c.B4})) (.lf ({X:=c.X,Pc:=wrap u32 (c.Pc+4),B4:=c.B4}))))))
def Z0p c i:=(Qgy c i).m
abbrev Qs7 c i:=(Qgy c i).p
def Zg3:Q0b:=mT 257 [] true [.agg Q02.sig, .agg Q0i.sig] [] (λa r=>Qgy (Q02.of (aC a 0)) (Q0i.of (aC a 1))) (λX=> .agg (Q02.cells X)) (λX=>[])
theorem Zba:Q04 pG Zg3:=oT (.cons Qd8 (.cons Za8 (.nil))) Tryz.func257 Tryz.call257 [] [] 2
def Q6g(x n:Int):Tree Int:=
.br (decide (n<1)) (.lf 0) (.br (decide (n>=32)) (.lf x) (.cn (decide (0<=wrap u64 n)) (.cn (decide (0<=wrap u64 (wrap i64 (n-1)))) (let E1:=iand u32 x (wrap u32 (ishl u32 1 (wrap u64 n)-1)); .br (ishr u32 E1 (wrap u64 (wrap i64 (n-1)))==1) (.cn (decide (0<=wrap u64 n)) (.lf (ior u32 E1 (ishl u32 4294967295 (wrap u64 n))))) (.lf E1)))))
def Q2w x n:=(Q6g x n).m
abbrev Qax x n:=(Q6g x n).p
def Qvc:Q0b:=mT 301 [] true [.one (.int .u32), .one (.int .i64)] [] (λa r=>Q6g (argI a 0) (argI a 1)) (λX=> .int .u32 X) (λX=>[])
theorem Qs2:Q04 pG Qvc:=oT (.nil) Tryz.func301 Tryz.call301 [] [] 2
def Q8b(c:Q02)(m:List Int)(i:Q0i):Tree (Q02×(List Int)):=
.cn (bT 0 1&&decide (0<=i.B/\i.B<(↑16:Int))) (let E4:=wrap u32 (aK (A16.l c.X) i.B.toNat 0+wrap u32 i.Imm);let E5:=aK (A16.l c.X) i.A.toNat 0;let E6:=bT 0 1&&decide (0<=i.A/\i.A<(↑16:Int));let E7:=({X:=c.X,Pc:=wrap u32 (c.Pc+4),B4:=c.B4}:Q02);let T1:Tree ((Q02×(List Int))):=let T3:Tree ((Q02×(List Int))):= .an (Q7m c m E4 4 3) (.lv (Q0w c m E4 4 3) λ(x0:Int×Int×List Int)=> .br (x0.2.1 !=0) (.lv (Q2g c x0.2.1 E4) λ(x1:Q02)=> .lf (x1,x0.2.2)) (.cn E6 (.an (Qe0 x0.2.2 x0.1 4 E5) (.lv (Q9j x0.2.2 x0.1 4 E5) λ(x2:List Int)=> .lf (E7,x2))))); .br (i.Op==35) T3 (.br (i.Op==36) T3 (.an (Q7m c m E4 4 2) (.lv (Q0w c m E4 4 2) λ(x6:Int×Int×List Int)=> .br (x6.2.1 !=0) (.lv (Q2g c x6.2.1 E4) λ(x7:Q02)=> .lf (x7,x6.2.2)) (.an (Qc2 x6.2.2 x6.1 4) (.lv (Q22 x6.2.2 x6.1 4) λ(x8:Int×Bool)=> .br (i.Op==33) (.an (Qax x8.1 8) (.lv (Q2w x8.1 8) λ(x9:Int)=> .an (Q2j c i.A x9) (.lv (Q1m c i.A x9) λ(x10:Q02)=> .lf ({X:=x10.X,Pc:=wrap u32 (x10.Pc+4),B4:=x10.B4},x6.2.2)))) (.an (Q2j c i.A x8.1) (.lv (Q1m c i.A x8.1) λ(x11:Q02)=> .lf ({X:=x11.X,Pc:=wrap u32 (x11.Pc+4),B4:=x11.B4},x6.2.2)))))))); .br (i.Op==32) T1 (.br (i.Op==35) T1 (let T2:Tree ((Q02×(List Int))):= .an (Q7m c m E4 1 3) (.lv (Q0w c m E4 1 3) λ(x24:Int×Int×List Int)=> .br (x24.2.1 !=0) (.lv (Q2g c x24.2.1 E4) λ(x25:Q02)=> .lf (x25,x24.2.2)) (.cn E6 (.an (Qe0 x24.2.2 x24.1 1 E5) (.lv (Q9j x24.2.2 x24.1 1 E5) λ(x26:List Int)=> .lf (E7,x26))))); .br (i.Op==35) T2 (.br (i.Op==36) T2 (.an (Q7m c m E4 1 2) (.lv (Q0w c m E4 1 2) λ(x30:Int×Int×List Int)=> .br (x30.2.1 !=0) (.lv (Q2g c x30.2.1 E4) λ(x31:Q02)=> .lf (x31,x30.2.2)) (.an (Qc2 x30.2.2 x30.1 1) (.lv (Q22 x30.2.2 x30.1 1) λ(x32:Int×Bool)=> .br (i.Op==33) (.an (Qax x32.1 8) (.lv (Q2w x32.1 8) λ(x33:Int)=> .an (Q2j c i.A x33) (.lv (Q1m c i.A x33) λ(x34:Q02)=> .lf ({X:=x34.X,Pc:=wrap u32 (x34.Pc+4),B4:=x34.B4},x30.2.2)))) (.an (Q2j c i.A x32.1) (.lv (Q1m c i.A x32.1) λ(x35:Q02)=> .lf ({X:=x35.X,Pc:=wrap u32 (x35.Pc+4),B4:=x35.B4},x30.2.2)))))))))))
def Q4h c m i:=(Q8b c m i).m
abbrev Qk4 c m i:=(Q8b c m i).p
def Z1n:Q0b:=mT 258 [false,true,false] true [.agg Q02.sig, .one (.row 0), .agg Q0i.sig] [.arr 25 1 (.ints .u32)] (λa r=>Q8b (Q02.of (aC a 0)) (rowL .u32 r 0) (Q0i.of (aC a 2))) (λX=> .agg (Q02.cells (X.1))) (λX=>[⟨false,25,1, .ints .u32 (X.2)⟩])
theorem Qy3:Q04 pG Z1n:=oT (.cons Qt5 (.cons Qiz (.cons Z1v (.cons Qny (.cons Qs2 (.cons Qd8 (.nil))))))) Tryz.func258 Tryz.call258 [] [] 2
def Qwc(op:Int):Tree Int:=
.br (op==16) (.lf 1) (.br (op==17) (.lf 3) (.br (op==18) (.lf 4) (.br (op==19) (.lf 5) (.br (op==20) (.lf 6) (.br (op==21) (.lf 7) (.br (op==22) (.lf 8) (.br (op==23) (.lf 12) (.lf op))))))))
def Z71 op:=(Qwc op).m
def Zef:Q0b:=mS 302 [] true [.one (.int .i64)] [] (λa r=>Qwc (argI a 0)) (λX=> .int .i64 X) (λX=>[])
theorem Z9n:Q04 pG Zef:=oS (.nil) Tryz.func302 Tryz.call302 [] [] 2
def Q94(a b:Int):Tree (Int×Int):=
.br (b==0) (.lf (4294967295,a)) (.cn (decide (wrap i64 (wrap i32 b)≠0)) (.cn (decide (wrap i64 (wrap i32 b)≠0)) (.lf (wrap u32 (wrap i64 (eX (wrap i64 (wrap i32 a)) (wrap i64 (wrap i32 b)))),wrap u32 (dF (wrap i64 (wrap i32 a)) (wrap i64 (wrap i32 b)))))))
def Qan a b:=(Q94 a b).m
abbrev Qgg a b:=(Q94 a b).p
def Z93:Q0b:=mT 303 [] true [.one (.int .u32), .one (.int .u32)] [] (λa r=>Q94 (argI a 0) (argI a 1)) (λX=> .tup [.int .u32 (X.1), .int .u32 (X.2)]) (λX=>[])
theorem Z38:Q04 pG Z93:=oT (.nil) Tryz.func303 Tryz.call303 [] [] 2
def Qji(op a b:Int):Tree (Int×Bool):=
.lv (Z71 op) λ(x0:Int)=> .br (x0==1) (.lf (wrap u32 (a+b),true)) (.br (x0==2) (.lf (wrap u32 (a-b),true)) (.br (x0==3) (.lf (iand u32 a b,true)) (.br (x0==4) (.lf (ior u32 a b,true)) (.br (x0==5) (.lf (ixor u32 a b,true)) (.br (x0==6) (.lf (ishl u32 a (iand u32 b 31),true)) (.br (x0==7) (.lf (ishr u32 a (iand u32 b 31),true)) (.br (x0==8) (.lf (wrap u32 (ishr i32 (wrap i32 a) (iand u32 b 31)),true)) (.br (x0==9) (.lf (wrap u32 (a*b),true)) (.br (x0==10) (.an (Qgg a b) (.lv (Qan a b) λ(x1:Int×Int)=> .lf (x1.1,true))) (.br (x0==11) (.an (Qgg a b) (.lv (Qan a b) λ(x2:Int×Int)=> .lf (x2.2,true))) (.br (x0==12) (.lv (Qab (decide (wrap i32 a<wrap i32 b))) λ(x3:Int)=> .lf (x3,true)) (.br (x0==13) (.lv (Qab (decide (a<b))) λ(x4:Int)=> .lf (x4,true)) (.lf (0,false))))))))))))))
def Qcb op a b:=(Qji op a b).m
abbrev Qnn op a b:=(Qji op a b).p
def Zmj:Q0b:=mT 259 [] true [.one (.int .i64), .one (.int .u32), .one (.int .u32)] [] (λa r=>Qji (argI a 0) (argI a 1) (argI a 2)) (λX=> .tup [.int .u32 (X.1), .bool (X.2)]) (λX=>[])
theorem Zft:Q04 pG Zmj:=oT (.cons Z9n (.cons Z38 (.cons Qqq (.nil)))) Tryz.func259 Tryz.call259 [] [] 2
def Qn2(c:Q02)(m:List Int):Tree (Q02×Q0v×(List Int)):=
.an (Q7m c m c.Pc 4 1) (.lv (Q0w c m c.Pc 4 1) λ(x0:Int×Int×List Int)=> .br (x0.2.1 !=0) (.lv (Q2g c x0.2.1 c.Pc) λ(x1:Q02)=> .lf (x1,{C4:=0,C8:=0,D7:=0,Value:=0},x0.2.2)) (.an (Qc2 x0.2.2 x0.1 4) (.lv (Q22 x0.2.2 x0.1 4) λ(x2:Int×Bool)=> .lv (Q3f x2.1) λ(x3:Q0i×Bool)=> .br (!x3.2) (.lv (Q2g c 1 x2.1) λ(x4:Q02)=> .lf (x4,{C4:=0,C8:=0,D7:=0,Value:=0},x0.2.2)) (.lv (Q4z x3.1.Op) λ(x5:Bool)=>let T1:Tree ((Q02×Q0v×(List Int))):= .br (decide (x3.1.Op>=56)) (.an (Qo3 c x3.1) (.lv (Ql5 c x3.1) λ(x7:Q02×Q0v)=> .lf (x7.1,x7.2,x0.2.2))) (.br (decide (x3.1.Op>=40)) (.an (Qs7 c x3.1) (.lv (Z0p c x3.1) λ(x8:Q02)=> .lf (x8,{C4:=0,C8:=0,D7:=0,Value:=0},x0.2.2))) (.br (decide (x3.1.Op>=32)) (.an (Qk4 c x0.2.2 x3.1) (.lv (Q4h c x0.2.2 x3.1) λ(x9:Q02×List Int)=> .lf (x9.1,{C4:=0,C8:=0,D7:=0,Value:=0},x9.2))) (.br (x3.1.Op==24) (.an (Q2j c x3.1.A (ishl u32 (wrap u32 x3.1.Imm) 16)) (.lv (Q1m c x3.1.A (ishl u32 (wrap u32 x3.1.Imm) 16)) λ(x10:Q02)=> .lf ({X:=x10.X,Pc:=wrap u32 (x10.Pc+4),B4:=x10.B4},{C4:=0,C8:=0,D7:=0,Value:=0},x0.2.2))) (let E2:=aK (A16.l c.X) x3.1.B.toNat 0;let E3:=bT 0 1&&decide (0<=x3.1.B/\x3.1.B<(↑16:Int)); .br (decide (x3.1.Op<=13)) (.cn (bT 0 1&&decide (0<=x3.1.C/\x3.1.C<(↑16:Int))) (.cn E3 (let E4:=aK (A16.l c.X) x3.1.C.toNat 0; .an (Qnn x3.1.Op E2 E4) (.lv (Qcb x3.1.Op E2 E4) λ(x11:Int×Bool)=> .an (Q2j c x3.1.A x11.1) (.lv (Q1m c x3.1.A x11.1) λ(x12:Q02)=> .lf ({X:=x12.X,Pc:=wrap u32 (x12.Pc+4),B4:=x12.B4},{C4:=0,C8:=0,D7:=0,Value:=0},x0.2.2)))))) (.cn E3 (.an (Qnn x3.1.Op E2 (wrap u32 x3.1.Imm)) (.lv (Qcb x3.1.Op E2 (wrap u32 x3.1.Imm)) λ(x13:Int×Bool)=> .an (Q2j c x3.1.A x13.1) (.lv (Q1m c x3.1.A x13.1) λ(x14:Q02)=> .lf ({X:=x14.X,Pc:=wrap u32 (x14.Pc+4),B4:=x14.B4},{C4:=0,C8:=0,D7:=0,Value:=0},x0.2.2))))))))); .br x5 (.br (iand u32 c.B4.a0 (1:Int)==(0:Int)) (.lv (Q2g c 2 x2.1) λ(x6:Q02)=> .lf (x6,{C4:=0,C8:=0,D7:=0,Value:=0},x0.2.2)) T1) T1))))
def Q6l c m:=(Qn2 c m).m
abbrev Qqy c m:=(Qn2 c m).p
def zA:Q0b:=mT 217 [false,true] true [.agg Q02.sig, .one (.row 0)] [.arr 25 1 (.ints .u32)] (λa r=>Qn2 (Q02.of (aC a 0)) (rowL .u32 r 0)) (λX=> .tup [.agg (Q02.cells (X.1)), .agg (Q0v.cells (X.2.1))]) (λX=>[⟨false,25,1, .ints .u32 (X.2.2)⟩])
theorem Z6o:Q04 pG zA:=oT (.cons Qt5 (.cons Qiz (.cons Qny (.cons Qq4 (.cons Qrs (.cons Z4y (.cons Zba (.cons Qy3 (.cons Qd8 (.cons Zft (.nil))))))))))) Tryz.func217 Tryz.call217 [] [] 2
end
noncomputable section
def Qbu(steps:Int):Tree Int:=
.lf (if 4000<if 0>steps then 0 else steps then 4000 else if 0>steps then 0 else steps)
def Q19 steps:=(Qbu steps).m
def Z0y:Q0b:=mS 158 [] true [.one (.int .i64)] [] (λa r=>Qbu (argI a 0)) (λX=> .int .i64 X) (λX=>[])
theorem Qxl:Q04 pG Z0y:=oS (.nil) Tryz.func158 Tryz.call158 [] [] 2
def Z5q(t:Q0h)(now:Int):Tree Bool:=
.br t.D2 (.lf (decide (now>=t.C3))) (.lf false)
def Qko t now:=(Z5q t now).m
def Zlp:Q0b:=mS 214 [] true [.agg Q0h.sig, .one (.int .u32)] [] (λa r=>Z5q (Q0h.of (aC a 0)) (argI a 1)) (λX=> .bool X) (λX=>[])
theorem Zha:Q04 pG Zlp:=oS (.nil) Tryz.func214 Tryz.call214 [] [] 2
def Qcw(m:Q00)(z:(Int)):Nat:=(32-z).toNat
def Q4(m:Q00):Tree Q02:=
.an (Qf3 m) (.lv (Q2k m) λ(x0:Int)=> .br (iand u32 m.B1.B4.a0 (2:Int)==(0:Int)) (.lf m.B1) (.br (x0==0) (.lf m.B1) (.lp inferInstance (Qcw m 0+1) ((rZ/\rZ/\rE (x0:Int)/\rE (0:Int)/\True)/\(mE m (((Els.Nil (Els.ints u32 m.Mem)\/rE (1:Nat))/\rE m.Mem)) True)/\(rE (0:Int)/\rE (0:Int)/\rE (0:Int)/\rE (0:Int)/\rE (0:Int)/\rE (0:Int)/\rE (0:Int)/\rE (0:Int)/\rE (0:Int)/\rE (0:Int)/\rE (0:Int)/\rE (0:Int)/\rE (0:Int)/\rE (0:Int)/\rE (0:Int)/\rE (0:Int)/\rE (0:Int)/\rE (0:Int)/\rE (0:Int)/\rE (0:Int)/\rE (0:Int)/\rE (0:Int)/\rE (0:Int)/\rE (0:Int)/\rE (0:Int)/\True)/\True) 0 λ(v0:Int)=> .cn (decide (0<=wrap u64 v0)) (.br (iand u32 (ishr u32 x0 (wrap u64 v0)) (1:Int)==(0:Int)) (.nx ((rZ/\rZ/\rE (x0:Int)/\rE ((wrap i64 (v0+1)):Int)/\True)/\(mE m (((Els.Nil (Els.ints u32 m.Mem)\/rE (1:Nat))/\rE m.Mem)) True)/\(rE (0:Int)/\rE (0:Int)/\rE (0:Int)/\rE (0:Int)/\rE (0:Int)/\rE (0:Int)/\rE (0:Int)/\rE (0:Int)/\rE (0:Int)/\rE (0:Int)/\rE (0:Int)/\rE (0:Int)/\rE (0:Int)/\rE (0:Int)/\rE (0:Int)/\rE (0:Int)/\rE (0:Int)/\rE (0:Int)/\rE (0:Int)/\rE (0:Int)/\rE (0:Int)/\rE (0:Int)/\rE (0:Int)/\rE (0:Int)/\rE (0:Int)/\True)/\True) (Sum.inl (wrap i64 (v0+1)))) (.lv (Q2g m.B1 (wrap i64 (16+v0)) 0) λ(x1:Q02)=> .lf (Sum.inr x1))))))
def Q0k m:=(Q4 m).m
abbrev Q6b m:=(Q4 m).p
def Qqm:LInv:={
 α:=(Int)
 F:=λst a=>([(1, .ptr 0 0 0),(2, .ptr 1 0 0),(3,(lk st 3)),(4, .int i64 a)],[⟨true,43,49, .gen [mB (cT st 1)]⟩,⟨true,29,25, .gen [[(cT st 2 0),(cT st 2 1),(cT st 2 2),(cT st 2 3),(cT st 2 4),(cT st 2 5),(cT st 2 6),(cT st 2 7),(cT st 2 8),(cT st 2 9),(cT st 2 10),(cT st 2 11),(cT st 2 12),(cT st 2 13),(cT st 2 14),(cT st 2 15),(cT st 2 16),(cT st 2 17),(cT st 2 18),(cT st 2 19),(cT st 2 20),(cT st 2 21),(cT st 2 22),(cT st 2 23),(cT st 2 24)]]⟩])
 a0:=λst=>(lk st 4).toInt
 ex0:=λst=>[]++[(rX st 1 0),(rX st 2 1)]}
def Qna:List (Nat×LInv):=[(5,Qqm)]
def Qsy:Q0b:=mT 186 [] true [.agg Q00.sig] [] (λa r=>Q4 (Q00.of (aC a 0))) (λX=> .agg (Q02.cells X)) (λX=>[])
theorem Qat:Q04 pG Qsy:=oT (.cons Qn9 (.cons Qiz (.nil))) Tryz.func186 Tryz.call186 [] Qna 3
def Qed(m:Q00):Tree Bool:=
.an (Q6b m) (.lv (Q0k m) λ(x0:Q02)=> .br (iand u32 x0.B4.a0 (1:Int)==(0:Int)) (.lf false) (.an (Qc2 m.Mem x0.Pc 4) (.lv (Q22 m.Mem x0.Pc 4) λ(x1:Int×Bool)=> .lv (Q3f x1.1) λ(x2:Q0i×Bool)=> .br x1.2 (.br x2.2 (.br (x2.1.Op==60) (.lf (x2.1.Imm==2)) (.lf false)) (.lf false)) (.lf false))))
def Quy m:=(Qed m).m
abbrev Qj9 m:=(Qed m).p
def Zfc:Q0b:=mT 116 [] true [.agg Q00.sig] [] (λa r=>Qed (Q00.of (aC a 0))) (λX=> .bool X) (λX=>[])
theorem Qto:Q04 pG Zfc:=oT (.cons Qat (.cons Qny (.cons Qq4 (.nil)))) Tryz.func116 Tryz.call116 [] [] 2
def Q6m(m:Q00):Tree Bool:=
.an (Qdq m) (.lv (Q2a m) λ(x0:Bool)=> .br x0 (.lf false) (.an (Qj9 m) (.lv (Quy m) λ(x1:Bool)=> .lf x1)))
def Qcc m:=(Q6m m).m
abbrev Qb m:=(Q6m m).p
def Qvq:Q0b:=mT 31 [] true [.agg Q00.sig] [] (λa r=>Q6m (Q00.of (aC a 0))) (λX=> .bool X) (λX=>[])
theorem Qt6:Q04 pG Qvq:=oT (.cons Qso (.cons Qto (.nil))) Tryz.func31 Tryz.call31 [] [] 2
def Q2z(c:Q0c)(port:Int):Tree (Q0c×Int):=
let T1:Tree ((Q0c×Int)):= .br (port==0) (.cn (decide ((0:Int)<=(1:Int)/\1<=(c.D0.length:Int)/\(c.D0.length:Int)<=(c.D0.length:Int))) (.cn (decide ((0:Int)<=(0:Int)/\0<(c.D0.length:Int))) (.lf ({D0:=dC (dG (c.D0.length:Int)-dG 1) (dD (dG 1) c.D0)},wrap u32 (↑(eZ (c.D0.getD (dG 0) (0:UInt8))):Int))))) (.br (port==1) (.lf (c,wrap u32 (c.D0.length:Int))) (.lf (c,0))); .br (port==0) (.br ((c.D0.length:Int)==(0:Int)) (.lf (c,4294967295)) T1) T1
def Q4m c port:=(Q2z c port).m
theorem Qsi(c:Q0c)(port:Int):(Q2z c port).p:=by
 unfold Tree.p Q2z
 repeat'(first|exact trivial|refine w_br (λ_=> ?_) (λ_=> ?_)|refine w_cn ?_ ?_|refine w_an ?_ ?_|refine w_lv (λ_ _=> ?_)|refine w_nx ?_|refine w_lf ?_|refine And.intro ?_ ?_)
 all_goals(exact fin0)
def Qy2:Q0b:=mS 260 [] true [.agg Q0c.sig, .one (.int .i64)] [] (λa r=>Q2z (Q0c.of (aC a 0)) (argI a 1)) (λX=> .tup [.agg (Q0c.cells (X.1)), .int .u32 (X.2)]) (λX=>[])
theorem Qjr:Q04 pG Qy2:=oS (.nil) Tryz.func260 Tryz.call260 [] [] 2 (λ_ _ _=>by kernel_rfl) (λa r=>Qsi (Q0c.of (aC a 0)) (argI a 1)) (λ_ X=>by kernel_rfl)
def Qdt(t:Q0h):Tree Int:=
.br t.D1 (.lf 1) (.lf 0)
def Qep t:=(Qdt t).m
def Z4k:Q0b:=mS 261 [] true [.agg Q0h.sig] [] (λa r=>Qdt (Q0h.of (aC a 0))) (λX=> .int .u32 X) (λX=>[])
theorem Qno:Q04 pG Z4k:=oS (.nil) Tryz.func261 Tryz.call261 [] [] 2
def Qfr(d0:Q0d)(port:Int):Tree Int:=
.br (port==4) (.lf d0.C1) (.br (port==5) (.lf d0.Frame) (.br (port==6) (.lf (wrap u32 d0.B7)) (.lf 0)))
def Qgw d0 port:=(Qfr d0 port).m
def Z8p:Q0b:=mS 262 [] true [.agg Q0d.sig, .one (.int .i64)] [] (λa r=>Qfr (Q0d.of (aC a 0)) (argI a 1)) (λX=> .int .u32 X) (λX=>[])
theorem Qq:Q04 pG Z8p:=oS (.nil) Tryz.func262 Tryz.call262 [] [] 2
def Qem(n:Q0m)(port:Int):Tree Int:=
.br (port==7) (.lf n.Frame) (.br (port==8) (.lf n.D9) (.br (port==9) (.br n.C5 (.br n.B6 (.lf (wrap u32 ((1:Int)+(2:Int)))) (.lf 1)) (.br n.B6 (.lf (wrap u32 ((0:Int)+(2:Int)))) (.lf 0))) (.lf 0)))
def Qg8 n port:=(Qem n port).m
def Zex:Q0b:=mS 263 [] true [.agg Q0m.sig, .one (.int .i64)] [] (λa r=>Qem (Q0m.of (aC a 0)) (argI a 1)) (λX=> .int .u32 X) (λX=>[])
theorem Qtm:Q04 pG Zex:=oS (.nil) Tryz.func263 Tryz.call263 [] [] 2
def Q5g(b:Q07)(port:Int):Tree Int:=
.br (port==10) (.lf b.C6) (.br (port==11) (.lv (Qcz b) λ(x0:Int)=> .lf (wrap u32 x0)) (.lf 0))
def Q4k b port:=(Q5g b port).m
def Qxz:Q0b:=mS 264 [] true [.agg Q07.sig, .one (.int .i64)] [] (λa r=>Q5g (Q07.of (aC a 0)) (argI a 1)) (λX=> .int .u32 X) (λX=>[])
theorem Qk9:Q04 pG Qxz:=oS (.cons Qs5 (.nil)) Tryz.func264 Tryz.call264 [] [] 2
def Qeb(m:Q00)(port clock:Int):Tree (Int×Q00):=
.br (decide (port<=1)) (.lv (Q4m m.A2 port) λ(x0:Q0c×Int)=> .lf (x0.2,{B1:=m.B1,Mem:=m.Mem,A2:=x0.1,A7:=m.A7,A9:=m.A9,B9:=m.B9,A1:=m.A1,A4:=m.A4,A3:=m.A3,A6:=m.A6})) (.br (port==2) (.lf (clock,m)) (.br (port==3) (.lv (Qep m.A7) λ(x1:Int)=> .lf (x1,m)) (.br (decide (port<=6)) (.lv (Qgw m.A9 port) λ(x2:Int)=> .lf (x2,m)) (.br (decide (port<=9)) (.lv (Qg8 m.B9 port) λ(x3:Int)=> .lf (x3,m)) (.lv (Q4k m.A1 port) λ(x4:Int)=> .lf (x4,m))))))
def Qam m port clock:=(Qeb m port clock).m
def yA:Q0b:=mS 218 [true,false,false] true [.ptr 0, .one (.int .i64), .one (.int .u32)] [.box 43 49 (Q00.sigW (.row 1)), .arr 25 1 (.ints .u32)] (λa r=>Qeb (Q00.ofW (r.getD 0 default).cs (rowL .u32 r 1)) (argI a 1) (argI a 2)) (λX=> .int .u32 (X.1)) (λX=>[⟨true,43,49, .gen [(Q00.cellsW (X.2) (.all 1))]⟩,⟨false,25,1, .ints .u32 (X.2).Mem⟩])
theorem Zl4:Q04 pG yA:=oS (.cons Qjr (.cons Qno (.cons Qq (.cons Qtm (.cons Qk9 (.nil)))))) Tryz.func218 Tryz.call218 [.row 25 1 (.ints .u32)] [] 2
def Qjs(deadline:Int):Tree Q0h:=
.br (deadline==0) (.lf ({D2:=false,C3:=0,D1:=false})) (.lf ({D2:=true,C3:=deadline,D1:=false}))
def Qod deadline:=(Qjs deadline).m
def Zmv:Q0b:=mS 265 [] true [.one (.int .u32)] [] (λa r=>Qjs (argI a 0)) (λX=> .agg (Q0h.cells X)) (λX=>[])
theorem Z2s:Q04 pG Zmv:=oS (.nil) Tryz.func265 Tryz.call265 [] [] 2
def Qs4(x n:Int)(z:(Int)×(List Int)):Prop:=0<=z.1/\(z.2.length:Int)=z.1/\(z.1<=n\/z.1=0)
def Qdl(x n:Int)(z:(Int)×(List Int)):Nat:=(n-z.1).toNat
def Qgb(x n:Int):Tree (List UInt8):=
.lp inferInstance (Qdl x n (0,[])+1) ((rE (x:Int)/\rE (n:Int)/\True/\rE (0:Int)/\True)/\rE ([]:List Int)/\True) (0,[]) λ(v0:Int×List Int)=> .br (decide (v0.1<n)) (.cn (decide (0<=wrap u64 (wrap i64 (8*v0.1)))) (.cn (decide (1*(v0.2.length+1)<=140737488355328)) (.nx ((rE (x:Int)/\rE (n:Int)/\True/\rE ((wrap i64 (v0.1+1)):Int)/\True)/\rE ((v0.2++[wrap u8 (ishr u32 x (wrap u64 (wrap i64 (8*v0.1))))]):List Int)/\True) (Sum.inl (wrap i64 (v0.1+1),v0.2++[wrap u8 (ishr u32 x (wrap u64 (wrap i64 (8*v0.1))))]))))) (.lf (Sum.inr (bytesOf v0.2)))
def Z8z x n:=(Qgb x n).m
def Qiw(x n:Int):Prop:=
n<=1000000000000
theorem Zcy(x n:Int)(hw:Qiw x n):(Qgb x n).p:=by
 simp only[Qiw]at hw
 unfold Tree.p Qgb
 repeat'(first|refine w_lp (inv:=Qs4 x n) (μ:=Qdl x n) ?_ (cO _) (λ_ _=> ?_)|exact trivial|refine w_br (λ_=> ?_) (λ_=> ?_)|refine w_cn ?_ ?_|refine w_an ?_ ?_|refine w_lv (λ_ _=> ?_)|refine w_nx ?_|refine w_lf ?_|refine And.intro ?_ ?_)
 all_goals((try simp only[Qs4,Qdl]at*);exact fin0)
def Zic:LInv:={
 α:=(Int)×(List Int)
 F:=λst a=>([(0,(lk st 0)),(1,(lk st 1)),(5, .all 0),(6, .int i64 a.1)],[⟨false,5,1, .ints u8 a.2⟩])
 a0:=λst=>((lk st 6).toInt,(Q3h st.rows (rN st 5)))
 ex0:=λst=>[]++[(rX st 5 0)]}
def Zaf:List (Nat×LInv):=[(3,Zic)]
def Zm7:Q0b:=mkP 315 [] true [.one (.int .u32), .one (.int .i64)] [] (λa r=>Qiw (argI a 0) (argI a 1)) (λa r=>Z8z (argI a 0) (argI a 1)) (λX=> .str X) (λX=>[])
theorem Zg:Q04 pG Zm7:=Q0j drawn Q0g (.nil) Tryz.func315 Tryz.call315 (λa r=>Qgb (argI a 0) (argI a 1)) [] Zaf 3 (hp:=λa r h=>Zcy (argI a 0) (argI a 1) h)
def Qgt(m:List Int)(frame:Int)(z:(Int)×(List Int)):Nat:=(32-z.1).toNat
def Q8o(m:List Int)(frame:Int):Tree ((List UInt8)×Bool):=
.br (decide (frame<0)) (.lf ([],false)) (.lv (Q34 m) λ(x0:Int)=> .br (decide (frame>=x0)) (.lf ([],false)) (.lp inferInstance (Qgt m frame (0,[])+1) ((((Els.Nil (Els.ints u32 m)\/rE (1:Nat))/\rE (m:List Int))/\rE (frame:Int)/\True/\rE (0:Int)/\True)/\rE ([]:List Int)/\True) (0,[]) λ(v0:Int×List Int)=> .br (decide (v0.1<32)) (.cn (bS 1 1&&bT 0 1&&decide (0<=wrap i64 (wrap i64 (frame*32)+v0.1)/\wrap i64 (wrap i64 (frame*32)+v0.1)<(m.length:Int))) (let E1:=m.getD (dG (wrap i64 (wrap i64 (frame*32)+v0.1))) 0; .an (Qiw E1 4) (.lv (Z8z E1 4) λ(x1:List UInt8)=> .cn (decide (1*(v0.2.length+dL (Q1p x1))<=140737488355328)) (.nx ((((Els.Nil (Els.ints u32 m)\/rE (1:Nat))/\rE (m:List Int))/\rE (frame:Int)/\True/\rE ((wrap i64 (v0.1+1)):Int)/\True)/\rE ((v0.2++Q1p x1):List Int)/\True) (Sum.inl (wrap i64 (v0.1+1),v0.2++Q1p x1)))))) (.lf (Sum.inr (bytesOf v0.2,true)))))
def Qi1 m frame:=(Q8o m frame).m
abbrev Qfk m frame:=(Q8o m frame).p
def Zdp:LInv:={
 α:=(Int)×(List Int)
 F:=λst a=>([(0,(lk st 0)),(1,(lk st 1)),(6, .all 0),(7, .int i64 a.1)],[⟨false,5,1, .ints u8 a.2⟩])
 a0:=λst=>((lk st 7).toInt,(Q3h st.rows (rN st 6)))
 ex0:=λst=>[]++[(rX st 6 0)]}
def Z47:List (Nat×LInv):=[(5,Zdp)]
def Zh2:Q0b:=mT 304 [] true [.one (.ints .u32), .one (.int .i64)] [] (λa r=>Q8o (argL .u32 a 0) (argI a 1)) (λX=> .tup [.str (X.1), .bool (X.2)]) (λX=>[])
theorem Qw8:Q04 pG Zh2:=oT (.cons Qbx (.cons Zg (.nil))) Tryz.func304 Tryz.call304 [] Z47 3
def Qq3(d0:Q0d)(at0:Int):Tree (Q08×Bool):=
.br (d0.B7 !=1) (.lf ({C4:=0,At:=0,C1:=0,C9:=[]},false)) (.br (d0.D4==1) (.lf ({C4:=3,At:=at0,C1:=d0.B5,C9:=[]},true)) (.br (d0.D4==2) (.lf ({C4:=4,At:=at0,C1:=d0.B5,C9:=d0.B8},true)) (.lf ({C4:=0,At:=0,C1:=0,C9:=[]},false))))
def Qih d0 at0:=(Qq3 d0 at0).m
def Z3j:Q0b:=mS 305 [] true [.agg Q0d.sig, .one (.int .u64)] [] (λa r=>Qq3 (Q0d.of (aC a 0)) (argI a 1)) (λX=> .tup [.agg (Q08.cells (X.1)), .bool (X.2)]) (λX=>[])
theorem Z05:Q04 pG Z3j:=oS (.nil) Tryz.func305 Tryz.call305 [] [] 2
def Q4i(d0:Q0d)(m:List Int)(port v at0:Int):Tree (Q0d×(List Q08)):=
.br (port==4) (.lf ({Blocks:=d0.Blocks,C1:=v,Frame:=d0.Frame,B7:=d0.B7,D4:=d0.D4,B5:=d0.B5,B2:=d0.B2,B8:=d0.B8},[])) (.br (port==5) (.lf ({Blocks:=d0.Blocks,C1:=d0.C1,Frame:=v,B7:=d0.B7,D4:=d0.D4,B5:=d0.B5,B2:=d0.B2,B8:=d0.B8},[])) (.br (port !=6) (.lf (d0,[])) (let T1:Tree ((Q0d×(List Q08))):= .br (d0.B7==0) (let T2:Tree ((Q0d×(List Q08))):= .lf ({Blocks:=d0.Blocks,C1:=d0.C1,Frame:=d0.Frame,B7:=3,D4:=d0.D4,B5:=d0.B5,B2:=d0.B2,B8:=d0.B8},[]); .br (decide (d0.C1>=d0.Blocks)) T2 (.lv (Q1v m d0.Frame) λ(x0:Bool)=> .br (!x0) T2 (.br (v==2) (.an (Qfk m (wrap i64 d0.Frame)) (.lv (Qi1 m (wrap i64 d0.Frame)) λ(x1:List UInt8×Bool)=>let E4:=({Blocks:=d0.Blocks,C1:=d0.C1,Frame:=d0.Frame,B7:=1,D4:=wrap i64 v,B5:=d0.C1,B2:=d0.Frame,B8:=x1.1}:Q0d); .lv (Qih E4 at0) λ(x2:Q08×Bool)=> .lf (E4,[x2.1]))) (let E5:=({Blocks:=d0.Blocks,C1:=d0.C1,Frame:=d0.Frame,B7:=1,D4:=wrap i64 v,B5:=d0.C1,B2:=d0.Frame,B8:=[]}:Q0d); .lv (Qih E5 at0) λ(x3:Q08×Bool)=> .lf (E5,[x3.1]))))) (.lf (d0,[])); .br (v==0) (let T3:Tree ((Q0d×(List Q08))):= .lf ({Blocks:=d0.Blocks,C1:=d0.C1,Frame:=d0.Frame,B7:=0,D4:=d0.D4,B5:=d0.B5,B2:=d0.B2,B8:=d0.B8},[]); .br (d0.B7==2) T3 (.br (d0.B7==3) T3 (.br (v==1) T1 (.br (v==2) T1 (.lf (d0,[])))))) (.br (v==1) T1 (.br (v==2) T1 (.lf (d0,[])))))))
def Qba d0 m port v at0:=(Q4i d0 m port v at0).m
abbrev Qfa d0 m port v at0:=(Q4i d0 m port v at0).p
def Z4l:Q0b:=mT 266 [] true [.agg Q0d.sig, .one (.ints .u32), .one (.int .i64), .one (.int .u32), .one (.int .u64)] [] (λa r=>Q4i (Q0d.of (aC a 0)) (argL .u32 a 1) (argI a 2) (argI a 3) (argI a 4)) (λX=> .tup [.agg (Q0d.cells (X.1)), .sl 4 (.recs .apiOutput (X.2)) true]) (λX=>[])
theorem Qnw:Q04 pG Z4l:=oT (.cons Qek (.cons Qw8 (.cons Z05 (.nil)))) Tryz.func266 Tryz.call266 [.sl (.recs .apiOutput) true] [] 2
def Q9k(n:Q0m)(m:List Int)(port v at0:Int):Tree (Q0m×(List Q08)):=
.br (port==7) (.lf ({Frame:=v,D8:=n.D8,C5:=n.C5,C0:=n.C0,B6:=n.B6,D9:=n.D9},[])) (.br (port==8) (.lf ({Frame:=n.Frame,D8:=v,C5:=n.C5,C0:=n.C0,B6:=n.B6,D9:=n.D9},[])) (.br (port !=9) (.lf (n,[])) (.br (v==0) (.lf ({Frame:=n.Frame,D8:=n.D8,C5:=n.C5,C0:=n.C0,B6:=false,D9:=0},[])) (let T1:Tree ((Q0m×(List Q08))):= .br (v==2) (.lv (Q1v m n.Frame) λ(x2:Bool)=> .br x2 (.br (!n.C5) (.br (!n.B6) (.lf ({Frame:=n.Frame,D8:=n.D8,C5:=true,C0:=n.Frame,B6:=n.B6,D9:=n.D9},[])) (.lf (n,[]))) (.lf (n,[]))) (.lf (n,[]))) (.lf (n,[])); .br (v==1) (.br (decide (n.D8>=1)) (.br (decide (n.D8<=128)) (.lv (Q1v m n.Frame) λ(x0:Bool)=> .br x0 (.an (Qfk m (wrap i64 n.Frame)) (.lv (Qi1 m (wrap i64 n.Frame)) λ(x1:List UInt8×Bool)=> .cn (decide ((0:Int)<=(0:Int)/\0<=n.D8/\n.D8<=(x1.1.length:Int))) (.lf (n,[{C4:=2,At:=at0,C1:=0,C9:=dC (dG n.D8-dG 0) (dD (dG 0) x1.1)}])))) T1) T1) T1) T1))))
def Qi6 n m port v at0:=(Q9k n m port v at0).m
abbrev Qgm n m port v at0:=(Q9k n m port v at0).p
def Z7x:Q0b:=mT 267 [] true [.agg Q0m.sig, .one (.ints .u32), .one (.int .i64), .one (.int .u32), .one (.int .u64)] [] (λa r=>Q9k (Q0m.of (aC a 0)) (argL .u32 a 1) (argI a 2) (argI a 3) (argI a 4)) (λX=> .tup [.agg (Q0m.cells (X.1)), .sl 4 (.recs .apiOutput (X.2)) true]) (λX=>[])
theorem Qpu:Q04 pG Z7x:=oT (.cons Qek (.cons Qw8 (.nil))) Tryz.func267 Tryz.call267 [.sl (.recs .apiOutput) true] [] 2
def Qid(b:Q07)(m:List Int)(port v:Int)(z:(Int)×(List Int)):Nat:=(32-z.1).toNat
def Q46(b:Q07)(m:List Int)(port v:Int):Tree (Q07×(List Int)):=
let T1:Tree ((Q07×(List Int))):= .br (port==11) (.br (decide (v<32)) (.cn (decide (0<=v)) (.lf ({C6:=b.C6,C2:=Qg u32 b.C2 (ishl u32 1 v)},m))) (.lf (b,m))) (.lf (b,m)); .br (port==10) (.lv (Q1v m v) λ(x0:Bool)=> .br x0 (.cn (decide (0<=v)) (.br (iand u32 (ishr u32 b.C2 v) (1:Int)==(0:Int)) (.cn (decide (0<=v)) (.lp inferInstance (Qid b m port v (0,m)+1) ((True/\rE (v:Int)/\rZ/\rZ/\rE (0:Int)/\True)/\rE (m:List Int)/\(rE b.C6/\rE ((ior u32 b.C2 (ishl u32 1 v)):Int)/\True)/\(rE (0:Int)/\rE (0:Int)/\True)/\True) (0,m) λ(v0:Int×List Int)=> .br (decide (v0.1<32)) (let E2:=wrap i64 (wrap i64 v*32)+v0.1; .cn (bS 1 1&&bT 0 1&&decide (0<=wrap i64 E2/\wrap i64 E2<(v0.2.length:Int))) (.nx ((True/\rE (v:Int)/\rZ/\rZ/\rE ((wrap i64 (v0.1+1)):Int)/\True)/\rE ((dH v0.2 (dG (wrap i64 (wrap i64 (wrap i64 v*32)+v0.1))) 0):List Int)/\(rE b.C6/\rE ((ior u32 b.C2 (ishl u32 1 v)):Int)/\True)/\(rE (0:Int)/\rE (0:Int)/\True)/\True) (Sum.inl (wrap i64 (v0.1+1),dH v0.2 (dG (wrap i64 E2)) 0)))) (.lf (Sum.inr ({C6:=b.C6,C2:=ior u32 b.C2 (ishl u32 1 v)},v0.2))))) T1)) T1) T1
def Q5x b m port v:=(Q46 b m port v).m
abbrev Qkl b m port v:=(Q46 b m port v).p
def Zdn:LInv:={
 α:=(Int)×(List Int)
 F:=λst a=>([(1, .all 0),(3,(lk st 3)),(4, .ptr 1 0 0),(8, .ptr 2 0 0),(9, .int i64 a.1)],[⟨false,25,1, .ints u32 a.2⟩,⟨true,40,2, .gen [[(cT st 4 0),(cT st 4 1)]]⟩,⟨true,40,2, .gen [[(cT st 8 0),(cT st 8 1)]]⟩])
 a0:=λst=>((lk st 9).toInt,(Q3h st.rows 0))
 ex0:=λst=>[0]++[(rX st 4 1),(rX st 8 2)]}
def Z3q:List (Nat×LInv):=[(4,Zdn)]
def Zgr:Q0b:=mT 268 [false,true,false,false] true [.agg Q07.sig, .one (.row 0), .one (.int .i64), .one (.int .u32)] [.arr 25 1 (.ints .u32)] (λa r=>Q46 (Q07.of (aC a 0)) (rowL .u32 r 0) (argI a 2) (argI a 3)) (λX=> .agg (Q07.cells (X.1))) (λX=>[⟨false,25,1, .ints .u32 (X.2)⟩])
theorem Qvv:Q04 pG Zgr:=oT (.cons Qek (.nil)) Tryz.func268 Tryz.call268 [] Z3q 3
def Q9b(m:Q00)(port v:Int):Tree ((List Q08)×Q00):=
.br (port==0) (.lf ([{C4:=1,At:=m.A4,C1:=0,C9:=[(λ(n:Int)=>fB n.toNat) (wrap u8 v)]}],m)) (.br (decide (port<=2)) (.lf ([],m)) (.br (port==3) (.lv (Qod v) λ(x0:Q0h)=> .lf ([],{B1:=m.B1,Mem:=m.Mem,A2:=m.A2,A7:=x0,A9:=m.A9,B9:=m.B9,A1:=m.A1,A4:=m.A4,A3:=m.A3,A6:=m.A6})) (.br (decide (port<=6)) (.an (Qfa m.A9 m.Mem port v m.A4) (.lv (Qba m.A9 m.Mem port v m.A4) λ(x1:Q0d×List Q08)=> .lf (x1.2,{B1:=m.B1,Mem:=m.Mem,A2:=m.A2,A7:=m.A7,A9:=x1.1,B9:=m.B9,A1:=m.A1,A4:=m.A4,A3:=m.A3,A6:=m.A6}))) (.br (decide (port<=9)) (.an (Qgm m.B9 m.Mem port v m.A4) (.lv (Qi6 m.B9 m.Mem port v m.A4) λ(x2:Q0m×List Q08)=> .lf (x2.2,{B1:=m.B1,Mem:=m.Mem,A2:=m.A2,A7:=m.A7,A9:=m.A9,B9:=x2.1,A1:=m.A1,A4:=m.A4,A3:=m.A3,A6:=m.A6}))) (.an (Qkl m.A1 m.Mem port v) (.lv (Q5x m.A1 m.Mem port v) λ(x3:Q07×List Int)=> .lf ([],{B1:=m.B1,Mem:=x3.2,A2:=m.A2,A7:=m.A7,A9:=m.A9,B9:=m.B9,A1:=x3.1,A4:=m.A4,A3:=m.A3,A6:=m.A6})))))))
def Q8 m port v:=(Q9b m port v).m
abbrev Qx1 m port v:=(Q9b m port v).p
def Zme:Q0b:=mT 220 [true,false,false] true [.ptr 0, .one (.int .i64), .one (.int .u32)] [.box 43 49 (Q00.sigW (.row 1)), .arr 25 1 (.ints .u32)] (λa r=>Q9b (Q00.ofW (r.getD 0 default).cs (rowL .u32 r 1)) (argI a 1) (argI a 2)) (λX=> .sl 4 (.recs .apiOutput (X.1)) true) (λX=>[⟨true,43,49, .gen [(Q00.cellsW (X.2) (.all 1))]⟩,⟨false,25,1, .ints .u32 (X.2).Mem⟩])
theorem Zhw:Q04 pG Zme:=oT (.cons Z2s (.cons Qnw (.cons Qpu (.cons Qvv (.nil))))) Tryz.func220 Tryz.call220 [.sl (.recs .apiOutput) true, .row 25 1 (.ints .u32)] [] 2
def Q7o(m:Q00)(clock:Int):Tree ((List Q08)×Q00):=
.an (Q6b m) (.lv (Q0k m) λ(x0:Q02)=> .an (Qqy x0 m.Mem) (.lv (Q6l x0 m.Mem) λ(x1:Q02×Q0v×List Int)=>let E1:=({B1:=x1.1,Mem:=x1.2.2,A2:=m.A2,A7:=m.A7,A9:=m.A9,B9:=m.B9,A1:=m.A1,A4:=m.A4,A3:=false,A6:=m.A6}:Q00); .br (x1.2.1.C4==1) (.lv (Qam E1 x1.2.1.C8 clock) λ(x2:Int×Q00)=> .an (Q2j x2.2.B1 x1.2.1.D7 x2.1) (.lv (Q1m x2.2.B1 x1.2.1.D7 x2.1) λ(x3:Q02)=> .lf ([],{B1:=x3,Mem:=x2.2.Mem,A2:=x2.2.A2,A7:=x2.2.A7,A9:=x2.2.A9,B9:=x2.2.B9,A1:=x2.2.A1,A4:=wrap u64 (x2.2.A4+1),A3:=x2.2.A3,A6:=x2.2.A6}))) (.br (x1.2.1.C4==2) (.an (Qx1 E1 x1.2.1.C8 x1.2.1.Value) (.lv (Q8 E1 x1.2.1.C8 x1.2.1.Value) λ(x4:List Q08×Q00)=> .lf (x4.1,{B1:=x4.2.B1,Mem:=x4.2.Mem,A2:=x4.2.A2,A7:=x4.2.A7,A9:=x4.2.A9,B9:=x4.2.B9,A1:=x4.2.A1,A4:=wrap u64 (x4.2.A4+1),A3:=x4.2.A3,A6:=x4.2.A6}))) (.br (x1.2.1.C4==3) (.lf ([],{B1:=x1.1,Mem:=x1.2.2,A2:=m.A2,A7:=m.A7,A9:=m.A9,B9:=m.B9,A1:=m.A1,A4:=wrap u64 (m.A4+1),A3:=true,A6:=m.A6})) (.br (x1.2.1.C4==4) (.lf ([],{B1:=x1.1,Mem:=x1.2.2,A2:=m.A2,A7:=m.A7,A9:=m.A9,B9:=m.B9,A1:=m.A1,A4:=wrap u64 (m.A4+1),A3:=false,A6:=true})) (.lf ([],{B1:=x1.1,Mem:=x1.2.2,A2:=m.A2,A7:=m.A7,A9:=m.A9,B9:=m.B9,A1:=m.A1,A4:=wrap u64 (m.A4+1),A3:=false,A6:=m.A6})))))))
def Q0z m clock:=(Q7o m clock).m
abbrev Qls m clock:=(Q7o m clock).p
def Z4b:Q0b:=mT 160 [true,false] true [.ptr 0, .one (.int .u32)] [.box 43 49 (Q00.sigW (.row 1)), .arr 25 1 (.ints .u32)] (λa r=>Q7o (Q00.ofW (r.getD 0 default).cs (rowL .u32 r 1)) (argI a 1)) (λX=> .sl 4 (.recs .apiOutput (X.1)) true) (λX=>[⟨true,43,49, .gen [(Q00.cellsW (X.2) (.all 1))]⟩,⟨false,25,1, .ints .u32 (X.2).Mem⟩])
theorem Z2n:Q04 pG Z4b:=oT (.cons Qat (.cons Z6o (.cons Zl4 (.cons Qd8 (.cons Zhw (.nil)))))) Tryz.func160 Tryz.call160 [.sl (.recs .apiOutput) true, .row 25 1 (.ints .u32)] [] 2
end
noncomputable section
instance sumInhZg {α β:Type} [Inhabited β]:Inhabited (α⊕β):=⟨.inr default⟩
def Qgq(m:Q01)(port clock:Int):Tree (Int×Q01):=
.br (decide (port<=1)) (.lv (Q4m m.A0.A2 port) λ(x0:Q0c×Int)=> .lf (x0.2,{A0:={B1:=m.A0.B1,Mem:=m.A0.Mem,A2:=x0.1,A7:=m.A0.A7,A9:=m.A0.A9,B9:=m.A0.B9,A1:=m.A0.A1,A4:=m.A0.A4,A3:=m.A0.A3,A6:=m.A0.A6},B3:=m.B3,C7:=m.C7,B0:=m.B0})) (.br (port==2) (.lf (clock,m)) (.br (port==3) (.lv (Qep m.A0.A7) λ(x1:Int)=> .lf (x1,m)) (.br (decide (port<=6)) (.lv (Qgw m.A0.A9 port) λ(x2:Int)=> .lf (x2,m)) (.br (decide (port<=9)) (.lv (Qg8 m.A0.B9 port) λ(x3:Int)=> .lf (x3,m)) (.lv (Q4k m.A0.A1 port) λ(x4:Int)=> .lf (x4,m))))))
def Qsp m port clock:=(Qgq m port clock).m
def Zhg:Q0b:=mS 218 [true,false,false] true [.ptr 0, .one (.int .i64), .one (.int .u32)] [.box 96 52 (Q01.sigW (.row 1) (.row 2) (.row 3)), .arr 25 1 (.ints .u32), .arr 126 4 (.recs .apiEntry), .arr 66 3 (.recs .apiEvent)] (λa r=>Qgq (Q01.ofW (r.getD 0 default).cs (rowL .u32 r 1) (rowR .apiEntry r 2) (rowR .apiEvent r 3)) (argI a 1) (argI a 2)) (λX=> .int .u32 (X.1)) (λX=>[⟨true,96,52, .gen [(Q01.cellsW (X.2) (.all 1) (.all 2) (.all 3))]⟩,⟨false,25,1, .ints .u32 (X.2).A0.Mem⟩,⟨false,126,4, .recs .apiEntry (X.2).C7⟩,⟨false,66,3, .recs .apiEvent (X.2).B0⟩])
theorem Ze7:Q04 pG Zhg:=oS (.cons Qjr (.cons Qno (.cons Qq (.cons Qtm (.cons Qk9 (.nil)))))) Tryz.func218 Tryz.call218 [.row 25 1 (.ints .u32), .row 126 4 (.recs .apiEntry), .row 66 3 (.recs .apiEvent)] [] 2
def Qbc(m:Q01)(port v:Int):Tree ((List Q08)×Q01):=
.br (port==0) (.lf ([{C4:=1,At:=m.A0.A4,C1:=0,C9:=[(λ(n:Int)=>fB n.toNat) (wrap u8 v)]}],m)) (.br (decide (port<=2)) (.lf ([],m)) (.br (port==3) (.lv (Qod v) λ(x0:Q0h)=> .lf ([],{A0:={B1:=m.A0.B1,Mem:=m.A0.Mem,A2:=m.A0.A2,A7:=x0,A9:=m.A0.A9,B9:=m.A0.B9,A1:=m.A0.A1,A4:=m.A0.A4,A3:=m.A0.A3,A6:=m.A0.A6},B3:=m.B3,C7:=m.C7,B0:=m.B0})) (.br (decide (port<=6)) (.an (Qfa m.A0.A9 m.A0.Mem port v m.A0.A4) (.lv (Qba m.A0.A9 m.A0.Mem port v m.A0.A4) λ(x1:Q0d×List Q08)=> .lf (x1.2,{A0:={B1:=m.A0.B1,Mem:=m.A0.Mem,A2:=m.A0.A2,A7:=m.A0.A7,A9:=x1.1,B9:=m.A0.B9,A1:=m.A0.A1,A4:=m.A0.A4,A3:=m.A0.A3,A6:=m.A0.A6},B3:=m.B3,C7:=m.C7,B0:=m.B0}))) (.br (decide (port<=9)) (.an (Qgm m.A0.B9 m.A0.Mem port v m.A0.A4) (.lv (Qi6 m.A0.B9 m.A0.Mem port v m.A0.A4) λ(x2:Q0m×List Q08)=> .lf (x2.2,{A0:={B1:=m.A0.B1,Mem:=m.A0.Mem,A2:=m.A0.A2,A7:=m.A0.A7,A9:=m.A0.A9,B9:=x2.1,A1:=m.A0.A1,A4:=m.A0.A4,A3:=m.A0.A3,A6:=m.A0.A6},B3:=m.B3,C7:=m.C7,B0:=m.B0}))) (.an (Qkl m.A0.A1 m.A0.Mem port v) (.lv (Q5x m.A0.A1 m.A0.Mem port v) λ(x3:Q07×List Int)=> .lf ([],{A0:={B1:=m.A0.B1,Mem:=x3.2,A2:=m.A0.A2,A7:=m.A0.A7,A9:=m.A0.A9,B9:=m.A0.B9,A1:=x3.1,A4:=m.A0.A4,A3:=m.A0.A3,A6:=m.A0.A6},B3:=m.B3,C7:=m.C7,B0:=m.B0})))))))
def Qom m port v:=(Qbc m port v).m
abbrev Qpm m port v:=(Qbc m port v).p
def Zbo:Q0b:=mT 220 [true,false,false] true [.ptr 0, .one (.int .i64), .one (.int .u32)] [.box 96 52 (Q01.sigW (.row 1) (.row 2) (.row 3)), .arr 25 1 (.ints .u32), .arr 126 4 (.recs .apiEntry), .arr 66 3 (.recs .apiEvent)] (λa r=>Qbc (Q01.ofW (r.getD 0 default).cs (rowL .u32 r 1) (rowR .apiEntry r 2) (rowR .apiEvent r 3)) (argI a 1) (argI a 2)) (λX=> .sl 4 (.recs .apiOutput (X.1)) true) (λX=>[⟨true,96,52, .gen [(Q01.cellsW (X.2) (.all 1) (.all 2) (.all 3))]⟩,⟨false,25,1, .ints .u32 (X.2).A0.Mem⟩,⟨false,126,4, .recs .apiEntry (X.2).C7⟩,⟨false,66,3, .recs .apiEvent (X.2).B0⟩])
theorem Zap:Q04 pG Zbo:=oT (.cons Z2s (.cons Qnw (.cons Qpu (.cons Qvv (.nil))))) Tryz.func220 Tryz.call220 [.sl (.recs .apiOutput) true, .row 25 1 (.ints .u32), .row 126 4 (.recs .apiEntry), .row 66 3 (.recs .apiEvent)] [] 2
def Q5d(m:Q01)(clock:Int):Tree ((List Q08)×Q01):=
.an (Q6b m.A0) (.lv (Q0k m.A0) λ(x0:Q02)=> .an (Qqy x0 m.A0.Mem) (.lv (Q6l x0 m.A0.Mem) λ(x1:Q02×Q0v×List Int)=>let E1:=({B1:=x1.1,Mem:=x1.2.2,A2:=m.A0.A2,A7:=m.A0.A7,A9:=m.A0.A9,B9:=m.A0.B9,A1:=m.A0.A1,A4:=m.A0.A4,A3:=false,A6:=m.A0.A6}:Q00); .br (x1.2.1.C4==1) (.lv (Qsp {A0:=E1,B3:=m.B3,C7:=m.C7,B0:=m.B0} x1.2.1.C8 clock) λ(x2:Int×Q01)=> .an (Q2j x2.2.A0.B1 x1.2.1.D7 x2.1) (.lv (Q1m x2.2.A0.B1 x1.2.1.D7 x2.1) λ(x3:Q02)=> .lf ([],{A0:={B1:=x3,Mem:=x2.2.A0.Mem,A2:=x2.2.A0.A2,A7:=x2.2.A0.A7,A9:=x2.2.A0.A9,B9:=x2.2.A0.B9,A1:=x2.2.A0.A1,A4:=wrap u64 (x2.2.A0.A4+1),A3:=x2.2.A0.A3,A6:=x2.2.A0.A6},B3:=x2.2.B3,C7:=x2.2.C7,B0:=x2.2.B0}))) (.br (x1.2.1.C4==2) (.an (Qpm {A0:=E1,B3:=m.B3,C7:=m.C7,B0:=m.B0} x1.2.1.C8 x1.2.1.Value) (.lv (Qom {A0:=E1,B3:=m.B3,C7:=m.C7,B0:=m.B0} x1.2.1.C8 x1.2.1.Value) λ(x4:List Q08×Q01)=> .lf (x4.1,{A0:={B1:=x4.2.A0.B1,Mem:=x4.2.A0.Mem,A2:=x4.2.A0.A2,A7:=x4.2.A0.A7,A9:=x4.2.A0.A9,B9:=x4.2.A0.B9,A1:=x4.2.A0.A1,A4:=wrap u64 (x4.2.A0.A4+1),A3:=x4.2.A0.A3,A6:=x4.2.A0.A6},B3:=x4.2.B3,C7:=x4.2.C7,B0:=x4.2.B0}))) (.br (x1.2.1.C4==3) (.lf ([],{A0:={B1:=x1.1,Mem:=x1.2.2,A2:=m.A0.A2,A7:=m.A0.A7,A9:=m.A0.A9,B9:=m.A0.B9,A1:=m.A0.A1,A4:=wrap u64 (m.A0.A4+1),A3:=true,A6:=m.A0.A6},B3:=m.B3,C7:=m.C7,B0:=m.B0})) (.br (x1.2.1.C4==4) (.lf ([],{A0:={B1:=x1.1,Mem:=x1.2.2,A2:=m.A0.A2,A7:=m.A0.A7,A9:=m.A0.A9,B9:=m.A0.B9,A1:=m.A0.A1,A4:=wrap u64 (m.A0.A4+1),A3:=false,A6:=true},B3:=m.B3,C7:=m.C7,B0:=m.B0})) (.lf ([],{A0:={B1:=x1.1,Mem:=x1.2.2,A2:=m.A0.A2,A7:=m.A0.A7,A9:=m.A0.A9,B9:=m.A0.B9,A1:=m.A0.A1,A4:=wrap u64 (m.A0.A4+1),A3:=false,A6:=m.A0.A6},B3:=m.B3,C7:=m.C7,B0:=m.B0})))))))
def Q66 m clock:=(Q5d m clock).m
abbrev Q5j m clock:=(Q5d m clock).p
def Qxf:Q0b:=mT 160 [true,false] true [.ptr 0, .one (.int .u32)] [.box 96 52 (Q01.sigW (.row 1) (.row 2) (.row 3)), .arr 25 1 (.ints .u32), .arr 126 4 (.recs .apiEntry), .arr 66 3 (.recs .apiEvent)] (λa r=>Q5d (Q01.ofW (r.getD 0 default).cs (rowL .u32 r 1) (rowR .apiEntry r 2) (rowR .apiEvent r 3)) (argI a 1)) (λX=> .sl 4 (.recs .apiOutput (X.1)) true) (λX=>[⟨true,96,52, .gen [(Q01.cellsW (X.2) (.all 1) (.all 2) (.all 3))]⟩,⟨false,25,1, .ints .u32 (X.2).A0.Mem⟩,⟨false,126,4, .recs .apiEntry (X.2).C7⟩,⟨false,66,3, .recs .apiEvent (X.2).B0⟩])
theorem Qv6:Q04 pG Qxf:=oT (.cons Qat (.cons Z6o (.cons Ze7 (.cons Qd8 (.cons Zap (.nil)))))) Tryz.func160 Tryz.call160 [.sl (.recs .apiOutput) true, .row 25 1 (.ints .u32), .row 126 4 (.recs .apiEntry), .row 66 3 (.recs .apiEvent)] [] 2
def Qal(r:Q01)(steps clock:Int)(z:(Int)×Q01):Nat:=(z.2.B0.length-z.1).toNat
def Q50(r:Q01)(steps clock:Int)(v0:Int×Q01)(z:(Int)×Q01×(List Q08)):Nat:=(4000-z.1).toNat
def Q4y(r:Q01)(steps clock:Int):Tree (Q01×(List Q08)):=
.an (Qkx r) (.lv (Qnt r) λ(x0:Q01)=> .lv (Q9a x0.A0) λ(x1:Bool)=> .br (!x1) (.lf (x0,[])) (.lp inferInstance (Qal r steps clock (0,{A0:=x0.A0,B3:=if clock>x0.B3 then clock else x0.B3,C7:=x0.C7,B0:=x0.B0})+1) ((rE (steps:Int)/\rZ/\rZ/\rE (0:Int)/\True)/\(mE x0.A0 True (rE ((if clock>x0.B3 then clock else x0.B3):Int)/\True/\True/\True))/\rE x0.A0.Mem/\rE x0.C7/\rE x0.B0/\(mE zM True (rE (0:Int)/\True/\True/\True))/\True) (0,{A0:=x0.A0,B3:=if clock>x0.B3 then clock else x0.B3,C7:=x0.C7,B0:=x0.B0}) λ(v0:Int×Q01)=> .br (decide (v0.1<(v0.2.B0.length:Int))) (.cn (bS 3 3&&bT 0 3&&decide (0<=v0.1/\v0.1<(v0.2.B0.length:Int))) (let E2:=v0.2.B0.getD v0.1.toNat (RK.dflt RK.apiEvent); .an (Qhr v0.2 E2) (.lv (Qhe v0.2 E2) λ(x2:Q01)=> .nx ((rE (steps:Int)/\rZ/\rZ/\rE ((wrap i64 (v0.1+1)):Int)/\True)/\(mE x2.A0 True (rE x2.B3/\True/\True/\True))/\rE x2.A0.Mem/\rE x2.C7/\rE x2.B0/\(mE zM True (rE (0:Int)/\True/\True/\True))/\True) (Sum.inl (wrap i64 (v0.1+1),x2))))) (.lp inferInstance (Q50 r steps clock v0 (0,{A0:=v0.2.A0,B3:=v0.2.B3,C7:=v0.2.C7,B0:=[]},[])+1) ((rE (steps:Int)/\rZ/\rZ/\True/\rE (0:Int)/\True)/\(mE v0.2.A0 True (rE v0.2.B3/\True/\True/\True))/\rE v0.2.A0.Mem/\rE v0.2.C7/\rE ([]:List (RK.T RK.apiEvent))/\(mE zM True (rE (0:Int)/\True/\True/\True))/\rE ([]:List (RK.T RK.apiOutput))/\True) (0,{A0:=v0.2.A0,B3:=v0.2.B3,C7:=v0.2.C7,B0:=[]},[]) λ(v1:Int×Q01×List Q08)=> .lv (Q19 steps) λ(x3:Int)=> .br (decide (v1.1<x3)) (.lv (Qko v1.2.1.A0.A7 v1.2.1.B3) λ(x4:Bool)=> .br x4 (.an (Qhr v1.2.1 {C4:=2,N:=0,C9:=[]}) (.lv (Qhe v1.2.1 {C4:=2,N:=0,C9:=[]}) λ(x5:Q01)=> .an (Qdq x5.A0) (.lv (Q2a x5.A0) λ(x6:Bool)=> .br x6 (.lf (Sum.inr (Sum.inr (x5,v1.2.2)))) (.an (Qb x5.A0) (.lv (Qcc x5.A0) λ(x7:Bool)=> .br x7 (.cn (decide (40*(x5.C7.length+1)<=140737488355328)) (let E3:=({At:=x5.A0.A4,Event:={C4:=1,N:=x5.B3,C9:=[]}}:Q1t); .an (Q5j {A0:=x5.A0,B3:=x5.B3,C7:=x5.C7++[E3],B0:=x5.B0} x5.B3) (.lv (Q66 {A0:=x5.A0,B3:=x5.B3,C7:=x5.C7++[E3],B0:=x5.B0} x5.B3) λ(x8:List Q08×Q01)=> .cn (decide (40*(v1.2.2.length+x8.1.length)<=140737488355328)) (.nx ((rE (steps:Int)/\rZ/\rZ/\True/\rE ((wrap i64 (v1.1+1)):Int)/\True)/\(mE x8.2.A0 True (rE ((wrap u32 (x8.2.B3+1)):Int)/\True/\True/\True))/\rE x8.2.A0.Mem/\rE x8.2.C7/\rE x8.2.B0/\(mE zM True (rE (0:Int)/\True/\True/\True))/\rE ((v1.2.2++x8.1):List (RK.T RK.apiOutput))/\True) (Sum.inl (wrap i64 (v1.1+1),{A0:=x8.2.A0,B3:=wrap u32 (x8.2.B3+1),C7:=x8.2.C7,B0:=x8.2.B0},v1.2.2++x8.1)))))) (.an (Q5j x5 x5.B3) (.lv (Q66 x5 x5.B3) λ(x9:List Q08×Q01)=> .cn (decide (40*(v1.2.2.length+x9.1.length)<=140737488355328)) (.nx ((rE (steps:Int)/\rZ/\rZ/\True/\rE ((wrap i64 (v1.1+1)):Int)/\True)/\(mE x9.2.A0 True (rE ((wrap u32 (x9.2.B3+1)):Int)/\True/\True/\True))/\rE x9.2.A0.Mem/\rE x9.2.C7/\rE x9.2.B0/\(mE zM True (rE (0:Int)/\True/\True/\True))/\rE ((v1.2.2++x9.1):List (RK.T RK.apiOutput))/\True) (Sum.inl (wrap i64 (v1.1+1),{A0:=x9.2.A0,B3:=wrap u32 (x9.2.B3+1),C7:=x9.2.C7,B0:=x9.2.B0},v1.2.2++x9.1)))))))))) (.an (Qdq v1.2.1.A0) (.lv (Q2a v1.2.1.A0) λ(x10:Bool)=> .br x10 (.lf (Sum.inr (Sum.inr (v1.2.1,v1.2.2)))) (.an (Qb v1.2.1.A0) (.lv (Qcc v1.2.1.A0) λ(x11:Bool)=> .br x11 (.cn (decide (40*(v1.2.1.C7.length+1)<=140737488355328)) (let E1:=({At:=v1.2.1.A0.A4,Event:={C4:=1,N:=v1.2.1.B3,C9:=[]}}:Q1t); .an (Q5j {A0:=v1.2.1.A0,B3:=v1.2.1.B3,C7:=v1.2.1.C7++[E1],B0:=v1.2.1.B0} v1.2.1.B3) (.lv (Q66 {A0:=v1.2.1.A0,B3:=v1.2.1.B3,C7:=v1.2.1.C7++[E1],B0:=v1.2.1.B0} v1.2.1.B3) λ(x12:List Q08×Q01)=> .cn (decide (40*(v1.2.2.length+x12.1.length)<=140737488355328)) (.nx ((rE (steps:Int)/\rZ/\rZ/\True/\rE ((wrap i64 (v1.1+1)):Int)/\True)/\(mE x12.2.A0 True (rE ((wrap u32 (x12.2.B3+1)):Int)/\True/\True/\True))/\rE x12.2.A0.Mem/\rE x12.2.C7/\rE x12.2.B0/\(mE zM True (rE (0:Int)/\True/\True/\True))/\rE ((v1.2.2++x12.1):List (RK.T RK.apiOutput))/\True) (Sum.inl (wrap i64 (v1.1+1),{A0:=x12.2.A0,B3:=wrap u32 (x12.2.B3+1),C7:=x12.2.C7,B0:=x12.2.B0},v1.2.2++x12.1)))))) (.an (Q5j v1.2.1 v1.2.1.B3) (.lv (Q66 v1.2.1 v1.2.1.B3) λ(x13:List Q08×Q01)=> .cn (decide (40*(v1.2.2.length+x13.1.length)<=140737488355328)) (.nx ((rE (steps:Int)/\rZ/\rZ/\True/\rE ((wrap i64 (v1.1+1)):Int)/\True)/\(mE x13.2.A0 True (rE ((wrap u32 (x13.2.B3+1)):Int)/\True/\True/\True))/\rE x13.2.A0.Mem/\rE x13.2.C7/\rE x13.2.B0/\(mE zM True (rE (0:Int)/\True/\True/\True))/\rE ((v1.2.2++x13.1):List (RK.T RK.apiOutput))/\True) (Sum.inl (wrap i64 (v1.1+1),{A0:=x13.2.A0,B3:=wrap u32 (x13.2.B3+1),C7:=x13.2.C7,B0:=x13.2.B0},v1.2.2++x13.1)))))))))) (.lf (Sum.inr (Sum.inr (v1.2.1,v1.2.2)))))))
def Qca r steps clock:=(Q4y r steps clock).m
abbrev Qkh r steps clock:=(Q4y r steps clock).p
def Qy4:LInv:={
 α:=(Int)×Q01
 F:=λst a=>([(1,(lk st 1)),(3, .ptr 0 0 0),(6, .ptr 4 0 0),(8, .int i64 a.1)],[⟨true,96,52, .gen [[.int u32 a.2.A0.B1.X.a0, .int u32 a.2.A0.B1.X.a1, .int u32 a.2.A0.B1.X.a2, .int u32 a.2.A0.B1.X.a3, .int u32 a.2.A0.B1.X.a4, .int u32 a.2.A0.B1.X.a5, .int u32 a.2.A0.B1.X.a6, .int u32 a.2.A0.B1.X.a7, .int u32 a.2.A0.B1.X.a8, .int u32 a.2.A0.B1.X.a9, .int u32 a.2.A0.B1.X.a10, .int u32 a.2.A0.B1.X.a11, .int u32 a.2.A0.B1.X.a12, .int u32 a.2.A0.B1.X.a13, .int u32 a.2.A0.B1.X.a14, .int u32 a.2.A0.B1.X.a15, .int u32 a.2.A0.B1.Pc, .int u32 a.2.A0.B1.B4.a0, .int u32 a.2.A0.B1.B4.a1, .int u32 a.2.A0.B1.B4.a2, .int u32 a.2.A0.B1.B4.a3, .int u32 a.2.A0.B1.B4.a4, .int u32 a.2.A0.B1.B4.a5, .int u32 a.2.A0.B1.B4.a6, .int u32 a.2.A0.B1.B4.a7, .all 1, .str a.2.A0.A2.D0, .bool a.2.A0.A7.D2, .int u32 a.2.A0.A7.C3, .bool a.2.A0.A7.D1, .int u32 a.2.A0.A9.Blocks, .int u32 a.2.A0.A9.C1, .int u32 a.2.A0.A9.Frame, .int i64 a.2.A0.A9.B7, .int i64 a.2.A0.A9.D4, .int u32 a.2.A0.A9.B5, .int u32 a.2.A0.A9.B2, .str a.2.A0.A9.B8, .int u32 a.2.A0.B9.Frame, .int u32 a.2.A0.B9.D8, .bool a.2.A0.B9.C5, .int u32 a.2.A0.B9.C0, .bool a.2.A0.B9.B6, .int u32 a.2.A0.B9.D9, .int u32 a.2.A0.A1.C6, .int u32 a.2.A0.A1.C2, .int u64 a.2.A0.A4, .bool a.2.A0.A3, .bool a.2.A0.A6, .int u32 a.2.B3, .all 2, .all 3]]⟩,⟨false,25,1, .ints u32 a.2.A0.Mem⟩,⟨false,126,4, .recs RK.apiEntry a.2.C7⟩,⟨false,66,3, .recs RK.apiEvent a.2.B0⟩,⟨true,96,52, .gen [[(cT st 6 0),(cT st 6 1),(cT st 6 2),(cT st 6 3),(cT st 6 4),(cT st 6 5),(cT st 6 6),(cT st 6 7),(cT st 6 8),(cT st 6 9),(cT st 6 10),(cT st 6 11),(cT st 6 12),(cT st 6 13),(cT st 6 14),(cT st 6 15),(cT st 6 16),(cT st 6 17),(cT st 6 18),(cT st 6 19),(cT st 6 20),(cT st 6 21),(cT st 6 22),(cT st 6 23),(cT st 6 24),(cT st 6 25),(cT st 6 26),(cT st 6 27),(cT st 6 28),(cT st 6 29),(cT st 6 30),(cT st 6 31),(cT st 6 32),(cT st 6 33),(cT st 6 34),(cT st 6 35),(cT st 6 36),(cT st 6 37),(cT st 6 38),(cT st 6 39),(cT st 6 40),(cT st 6 41),(cT st 6 42),(cT st 6 43),(cT st 6 44),(cT st 6 45),(cT st 6 46),(cT st 6 47),(cT st 6 48),(cT st 6 49),(cT st 6 50),(cT st 6 51)]]⟩])
 a0:=λst=>((lk st 8).toInt,(⟨(mR (cT st 3) (Q3h st.rows (Q0n (cT st 3 25) 1000000))),(cT st 3 49).toInt,(Q68 RK.apiEntry st.rows (Q0n (cT st 3 50) 1000000)),(Q68 RK.apiEvent st.rows (Q0n (cT st 3 51) 1000000))⟩:Q01))
 ex0:=λst=>[]++[(rX st 3 0),(Q0n (cT st 3 25) (st.rows.length+1)),(Q0n (cT st 3 50) (st.rows.length+2)),(Q0n (cT st 3 51) (st.rows.length+3)),(rX st 6 4)]}
def Qxn:LInv:={
 α:=(Int)×Q01×(List Q08)
 F:=λst a=>([(1,(lk st 1)),(3, .ptr 0 0 0),(6, .ptr 4 0 0),(9, .all 5),(10, .int i64 a.1)],[⟨true,96,52, .gen [[.int u32 a.2.1.A0.B1.X.a0, .int u32 a.2.1.A0.B1.X.a1, .int u32 a.2.1.A0.B1.X.a2, .int u32 a.2.1.A0.B1.X.a3, .int u32 a.2.1.A0.B1.X.a4, .int u32 a.2.1.A0.B1.X.a5, .int u32 a.2.1.A0.B1.X.a6, .int u32 a.2.1.A0.B1.X.a7, .int u32 a.2.1.A0.B1.X.a8, .int u32 a.2.1.A0.B1.X.a9, .int u32 a.2.1.A0.B1.X.a10, .int u32 a.2.1.A0.B1.X.a11, .int u32 a.2.1.A0.B1.X.a12, .int u32 a.2.1.A0.B1.X.a13, .int u32 a.2.1.A0.B1.X.a14, .int u32 a.2.1.A0.B1.X.a15, .int u32 a.2.1.A0.B1.Pc, .int u32 a.2.1.A0.B1.B4.a0, .int u32 a.2.1.A0.B1.B4.a1, .int u32 a.2.1.A0.B1.B4.a2, .int u32 a.2.1.A0.B1.B4.a3, .int u32 a.2.1.A0.B1.B4.a4, .int u32 a.2.1.A0.B1.B4.a5, .int u32 a.2.1.A0.B1.B4.a6, .int u32 a.2.1.A0.B1.B4.a7, .all 1, .str a.2.1.A0.A2.D0, .bool a.2.1.A0.A7.D2, .int u32 a.2.1.A0.A7.C3, .bool a.2.1.A0.A7.D1, .int u32 a.2.1.A0.A9.Blocks, .int u32 a.2.1.A0.A9.C1, .int u32 a.2.1.A0.A9.Frame, .int i64 a.2.1.A0.A9.B7, .int i64 a.2.1.A0.A9.D4, .int u32 a.2.1.A0.A9.B5, .int u32 a.2.1.A0.A9.B2, .str a.2.1.A0.A9.B8, .int u32 a.2.1.A0.B9.Frame, .int u32 a.2.1.A0.B9.D8, .bool a.2.1.A0.B9.C5, .int u32 a.2.1.A0.B9.C0, .bool a.2.1.A0.B9.B6, .int u32 a.2.1.A0.B9.D9, .int u32 a.2.1.A0.A1.C6, .int u32 a.2.1.A0.A1.C2, .int u64 a.2.1.A0.A4, .bool a.2.1.A0.A3, .bool a.2.1.A0.A6, .int u32 a.2.1.B3, .all 2, .all 3]]⟩,⟨false,25,1, .ints u32 a.2.1.A0.Mem⟩,⟨false,126,4, .recs RK.apiEntry a.2.1.C7⟩,⟨false,66,3, .recs RK.apiEvent a.2.1.B0⟩,⟨true,96,52, .gen [[(cT st 6 0),(cT st 6 1),(cT st 6 2),(cT st 6 3),(cT st 6 4),(cT st 6 5),(cT st 6 6),(cT st 6 7),(cT st 6 8),(cT st 6 9),(cT st 6 10),(cT st 6 11),(cT st 6 12),(cT st 6 13),(cT st 6 14),(cT st 6 15),(cT st 6 16),(cT st 6 17),(cT st 6 18),(cT st 6 19),(cT st 6 20),(cT st 6 21),(cT st 6 22),(cT st 6 23),(cT st 6 24),(cT st 6 25),(cT st 6 26),(cT st 6 27),(cT st 6 28),(cT st 6 29),(cT st 6 30),(cT st 6 31),(cT st 6 32),(cT st 6 33),(cT st 6 34),(cT st 6 35),(cT st 6 36),(cT st 6 37),(cT st 6 38),(cT st 6 39),(cT st 6 40),(cT st 6 41),(cT st 6 42),(cT st 6 43),(cT st 6 44),(cT st 6 45),(cT st 6 46),(cT st 6 47),(cT st 6 48),(cT st 6 49),(cT st 6 50),(cT st 6 51)]]⟩,⟨false,71,4, .recs RK.apiOutput a.2.2⟩])
 a0:=λst=>((lk st 10).toInt,(⟨(mR (cT st 3) (Q3h st.rows (Q0n (cT st 3 25) 1000000))),(cT st 3 49).toInt,(Q68 RK.apiEntry st.rows (Q0n (cT st 3 50) 1000000)),(Q68 RK.apiEvent st.rows (Q0n (cT st 3 51) 1000000))⟩:Q01),(Q68 RK.apiOutput st.rows (rN st 9)))
 ex0:=λst=>[]++[(rX st 3 0),(Q0n (cT st 3 25) (st.rows.length+1)),(Q0n (cT st 3 50) (st.rows.length+2)),(Q0n (cT st 3 51) (st.rows.length+3)),(rX st 6 4),(rX st 9 5)]}
def Qrq:List (Nat×LInv):=[(6,Qy4),(12,Qxn)]
def Z2g:Q0b:=mT 147 [] true [.agg Q01.sig, .one (.int .i64), .one (.int .u32)] [] (λa r=>Q4y (Q01.of (aC a 0)) (argI a 1) (argI a 2)) (λX=> .tup [.agg (Q01.cellsW (X.1) (.all 0) (.all 1) (.all 2)), .all 3]) (λX=>[⟨false,25,1, .ints .u32 (X.1).A0.Mem⟩,⟨false,126,4, .recs .apiEntry (X.1).C7⟩,⟨false,66,3, .recs .apiEvent (X.1).B0⟩,⟨false,71,4, .recs .apiOutput (X.2)⟩])
theorem Qyi:Q04 pG Z2g:=oT (.cons Qw9 (.cons Qqf (.cons Z3y (.cons Qxl (.cons Zha (.cons Qso (.cons Qt6 (.cons Qv6 (.nil))))))))) Tryz.func147 Tryz.call147 [.row 25 1 (.ints .u32), .row 126 4 (.recs .apiEntry), .row 66 3 (.recs .apiEvent), .row 71 4 (.recs .apiOutput)] Qrq 3

import Derived.Test.YtmalmklaonainaaGreatMachineTellsYz
open Nat renaming blt->bT, beq->bS, lt_succ_self->cO
open List renaming length->dL, replicate->cR, take->dC, drop->dD, set->dH, getD->aK
open Int renaming toNat->dG, tdiv->eZ, tmod->dF
open UInt8 renaming ofNat->fD, toNat->fB
set_option maxRecDepth 100000
set_option linter.all false
namespace Go.Proofs.YtmalmklaonainaaGreat
open Go Go.GD Go.IntKind
noncomputable section
def Q9f(m:List Int):Tree (List Int):=
.cn (bT (0:Nat) (1:Nat)&&bS (1:Nat) (1:Nat)&&List.all [D.int u32 (0:Int)] D.plain&&decide ((0:Int)<=(m.length:Int)/\(m.length:Int)<=(m.length:Int)/\(m.length:Int)<=(9223372036854775807:Int)/\(↑(4:Nat):Int)*(m.length:Int)<=(140737488355328:Int))) (let E1:=dL (cR (dG (m.length:Int)) (0:Int)); .lf (dC (Min.min (m.length) E1) m++dD (Min.min (m.length) E1) (cR (dG (m.length:Int)) (0:Int))))
def Qp4 m:=(Q9f m).m
abbrev Qts m:=(Q9f m).p
def Zj4:Q0b:=mT 122 [] true [.one (.ints .u32)] [] (λa r=>Q9f (argL .u32 a 0)) (λX=> .all 0) (λX=>[⟨false,25,1, .ints .u32 X⟩])
theorem Zel:Q04 pG Zj4:=oT (.nil) Tryz.func122 Tryz.call122 [.row 25 1 (.ints .u32)] [] 2
def Q86(m:Q00):Tree Q00:=
.an (Qts m.Mem) (.lv (Qp4 m.Mem) λ(x0:List Int)=> .lf ({B1:=m.B1,Mem:=x0,A2:=m.A2,A7:=m.A7,A9:=m.A9,B9:=m.B9,A1:=m.A1,A4:=m.A4,A3:=m.A3,A6:=m.A6}))
def Qg9 m:=(Q86 m).m
abbrev Q8u m:=(Q86 m).p
def Zn9:Q0b:=mT 34 [] true [.agg Q00.sig] [] (λa r=>Q86 (Q00.of (aC a 0))) (λX=> .agg (Q00.cellsW X (.all 0))) (λX=>[⟨false,25,1, .ints .u32 X.Mem⟩])
theorem Qhn:Q04 pG Zn9:=oT (.cons Zel (.nil)) Tryz.func34 Tryz.call34 [.row 25 1 (.ints .u32)] [] 2
def Qr7(n k:Int)(z:(Int)×(List Int)):Prop:=0<=z.1/\(z.2.length:Int)=z.1/\(z.1<=k\/z.1=0)
def Qcu(n k:Int)(z:(Int)×(List Int)):Nat:=(k-z.1).toNat
def Qdf(n k:Int):Tree (List UInt8):=
.lp inferInstance (Qcu n k (0,[])+1) ((rE (n:Int)/\rE (k:Int)/\True/\rE (0:Int)/\True)/\rE ([]:List Int)/\True) (0,[]) λ(v0:Int×List Int)=> .br (decide (v0.1<k)) (.lv (Qa1 n (wrap i64 (eZ v0.1 9))) λ(x0:Int)=> .cn (decide (1*(v0.2.length+1)<=140737488355328)) (.nx ((rE (n:Int)/\rE (k:Int)/\True/\rE ((wrap i64 (v0.1+1)):Int)/\True)/\rE ((v0.2++[wrap u8 x0]):List Int)/\True) (Sum.inl (wrap i64 (v0.1+1),v0.2++[wrap u8 x0])))) (.lf (Sum.inr (bytesOf v0.2)))
def Ql5 n k:=(Qdf n k).m
def Q4m(n k:Int):Prop:=
k<=1000000000000
theorem Zas(n k:Int)(hw:Q4m n k):(Qdf n k).p:=by
 simp only[Q4m]at hw
 unfold Tree.p Qdf
 repeat'(first|refine w_lp (inv:=Qr7 n k) (μ:=Qcu n k) ?_ (cO _) (λ_ _=> ?_)|exact trivial|refine w_br (λ_=> ?_) (λ_=> ?_)|refine w_cn ?_ ?_|refine w_an ?_ ?_|refine w_lv (λ_ _=> ?_)|refine w_nx ?_|refine w_lf ?_|refine And.intro ?_ ?_)
 all_goals((try simp only[Qr7,Qcu]at*);exact fin0)
def Zet:LInv:={
 α:=(Int)×(List Int)
 F:=λst a=>([(0,(lk st 0)),(1,(lk st 1)),(5, .all 0),(6, .int i64 a.1)],[⟨false,5,1, .ints u8 a.2⟩])
 a0:=λst=>((lk st 6).toInt,(Q2f st.rows (rN st 5)))
 ex0:=λst=>[]++[(rX st 5 0)]}
def Z5t:List (Nat×LInv):=[(3,Zet)]
def Zid:Q0b:=mkP 84 [] true [.one (.int .i64), .one (.int .i64)] [] (λa r=>Q4m (argI a 0) (argI a 1)) (λa r=>Ql5 (argI a 0) (argI a 1)) (λX=> .str X) (λX=>[])
theorem Qx0:Q04 pG Zid:=Q0k drawn Q0g (.cons Qmb (.nil)) Tryz.func84 Tryz.call84 (λa r=>Qdf (argI a 0) (argI a 1)) [] Z5t 3 (hp:=λa r h=>Zas (argI a 0) (argI a 1) h)
def Qdd(r:Q01):Tree Q01:=
.an (Q8u r.A0) (.lv (Qg9 r.A0) λ(x0:Q00)=> .cn (decide (40*(0+r.C8.length)<=140737488355328)) (.cn (decide (32*(0+r.B0.length)<=140737488355328)) (.lf ({A0:=x0,B3:=r.B3,C8:=r.C8,B0:=r.B0}))))
def Qo0 r:=(Qdd r).m
abbrev Qla r:=(Qdd r).p
def Zjh:Q0b:=mT 212 [] true [.agg Q01.sig] [] (λa r=>Qdd (Q01.of (aC a 0))) (λX=> .agg (Q01.cellsW X (.all 0) (.all 1) (.all 2))) (λX=>[⟨false,25,1, .ints .u32 X.A0.Mem⟩,⟨false,126,4, .recs .apiEntry X.C8⟩,⟨false,66,3, .recs .apiEvent X.B0⟩])
theorem Qxl:Q04 pG Zjh:=oT (.cons Qhn (.nil)) Tryz.func212 Tryz.call212 [.row 25 1 (.ints .u32), .row 126 4 (.recs .apiEntry), .row 66 3 (.recs .apiEvent)] [] 2
def Qsu(e:Q0e):Tree Bool:=
.br (e.C3==1) (.lf (decide (e.C9=[]))) (.br (e.C3==6) (.lf (decide (e.C9=[]))) (.br (e.C3==2) (.br (e.N==0) (.lf (decide (e.C9=[]))) (.lf false)) (.br (e.C3==3) (.br (decide (e.N<=255)) (.lf (decide (e.C9=[]))) (.lf false)) (.br (e.C3==4) (.br (decide (e.N<=1)) (.br (decide (e.C9=[])) (.lf true) (.br (e.N==1) (.lf ((e.C9.length:Int)==(128:Int))) (.lf false))) (.lf false)) (.br (e.C3==5) (.br (e.N==0) (.br (decide ((e.C9.length:Int)>=(1:Int))) (.lf (decide ((e.C9.length:Int)<=(128:Int)))) (.lf false)) (.lf false)) (.lf false))))))
def Qie e:=(Qsu e).m
def Zbn:Q0b:=mS 154 [] true [.agg Q0e.sig] [] (λa r=>Qsu (Q0e.of (aC a 0))) (λX=> .bool X) (λX=>[])
theorem Z62:Q04 pG Zbn:=oS (.nil) Tryz.func154 Tryz.call154 [] [] 2
def Q87(r:Q01)(e:Q0e):Tree (Q01×Bool):=
.an (Qla r) (.lv (Qo0 r) λ(x0:Q01)=> .lv (Qie e) λ(x1:Bool)=> .br (!x1) (.lf (x0,false)) (.br (e.C3==1) (.lf (x0,false)) (.br (decide ((x0.B0.length:Int)>=(16:Int))) (.lf (x0,false)) (.cn (decide (32*(x0.B0.length+1)<=140737488355328)) (.lf ({A0:=x0.A0,B3:=x0.B3,C8:=x0.C8,B0:=x0.B0++[e]},true))))))
def Q4x r e:=(Q87 r e).m
abbrev Qmn r e:=(Q87 r e).p
def Z43:Q0b:=mT 146 [] true [.agg Q01.sig, .agg Q0e.sig] [] (λa r=>Q87 (Q01.of (aC a 0)) (Q0e.of (aC a 1))) (λX=> .tup [.agg (Q01.cellsW (X.1) (.all 0) (.all 1) (.all 2)), .bool (X.2)]) (λX=>[⟨false,25,1, .ints .u32 (X.1).A0.Mem⟩,⟨false,126,4, .recs .apiEntry (X.1).C8⟩,⟨false,66,3, .recs .apiEvent (X.1).B0⟩])
theorem Z21:Q04 pG Z43:=oT (.cons Qxl (.cons Z62 (.nil))) Tryz.func146 Tryz.call146 [.row 25 1 (.ints .u32), .row 126 4 (.recs .apiEntry), .row 66 3 (.recs .apiEvent)] [] 2
def Qew(n:Int):Tree Q0e:=
.lv (Qa1 n 2) λ(x0:Int)=> .br (dF x0 (7:Int)==(0:Int)) (.lf ({C3:=2,N:=0,C9:=[]})) (.br (dF x0 (7:Int)==(1:Int)) (.lf ({C3:=3,N:=wrap u32 (iand i64 (ishr i64 x0 8) 255),C9:=[]})) (.br (dF x0 (7:Int)==(2:Int)) (.lf ({C3:=3,N:=wrap u32 (iand i64 (ishr i64 x0 8) 255),C9:=[]})) (.br (dF x0 (7:Int)==(3:Int)) (.lf ({C3:=4,N:=1,C9:=[]})) (.br (dF x0 (7:Int)==(4:Int)) (.an (Q4m x0 128) (.lv (Ql5 x0 128) λ(x1:List UInt8)=> .lf ({C3:=4,N:=1,C9:=x1}))) (.br (dF x0 (7:Int)==(5:Int)) (let E1:=wrap i64 (1+dF (ishr i64 x0 8) 40); .an (Q4m x0 E1) (.lv (Ql5 x0 E1) λ(x2:List UInt8)=> .lf ({C3:=5,N:=0,C9:=x2}))) (.br (dF (ishr i64 x0 8) (4:Int)==(0:Int)) (.lf ({C3:=4,N:=0,C9:=[]})) (.lf ({C3:=6,N:=wrap u32 (dF (ishr i64 x0 8) 3),C9:=[]}))))))))
def Qgo n:=(Qew n).m
abbrev Qqo n:=(Qew n).p
def Zfw:Q0b:=mT 76 [] true [.one (.int .i64)] [] (λa r=>Qew (argI a 0)) (λX=> .agg (Q0e.cells X)) (λX=>[])
theorem Z9w:Q04 pG Zfw:=oT (.cons Qmb (.cons Qx0 (.nil))) Tryz.func76 Tryz.call76 [] [] 2
def Qp3(m:List Int):Tree Int:=
.br (dF (m.length:Int) (32:Int) !=(0:Int)) (.lf 0) (.br (decide ((m.length:Int)>(1024:Int))) (.lf 0) (.lf (wrap i64 (eZ (m.length:Int) 32))))
def Q3o m:=(Qp3 m).m
def Zch:Q0b:=mS 93 [] true [.one (.ints .u32)] [] (λa r=>Qp3 (argL .u32 a 0)) (λX=> .int .i64 X) (λX=>[])
theorem Qc6:Q04 pG Zch:=oS (.nil) Tryz.func93 Tryz.call93 [] [] 2
def Ql(c:Q0c):Tree Bool:=
.lf (decide ((c.D0.length:Int)<=(16:Int)))
def Qhv c:=(Ql c).m
def Qv8:Q0b:=mS 94 [] true [.agg Q0c.sig] [] (λa r=>Ql (Q0c.of (aC a 0))) (λX=> .bool X) (λX=>[])
theorem Qsb:Q04 pG Qv8:=oS (.nil) Tryz.func94 Tryz.call94 [] [] 2
def Qhe(t:Q0i):Tree Bool:=
.br t.D2 (.br t.D1 (.lf false) (.br t.D2 (.lf (t.C4 !=0)) (.br t.D1 (.lf true) (.lf (t.C4==0))))) (.br t.D2 (.lf (t.C4 !=0)) (.br t.D1 (.lf true) (.lf (t.C4==0))))
def Qcb t:=(Qhe t).m
def Z35:Q0b:=mS 95 [] true [.agg Q0i.sig] [] (λa r=>Qhe (Q0i.of (aC a 0))) (λX=> .bool X) (λX=>[])
theorem Qyx:Q04 pG Z35:=oS (.nil) Tryz.func95 Tryz.call95 [] [] 2
def Qjr(d0:Q0d)(pages:Int):Tree Bool:=
.br (decide (d0.Blocks>64)) (.lf false) (.br (decide (d0.B8<0)) (.lf false) (.br (decide (d0.B8>3)) (.lf false) (.br (d0.B8 !=1) (.br (d0.D4==0) (.br (d0.B5==0) (.br (d0.B2==0) (.lf (decide (d0.B7=[]))) (.lf false)) (.lf false)) (.lf false)) (.br (decide (d0.B5>=d0.Blocks)) (.lf false) (.br (decide (wrap i64 d0.B2>=pages)) (.lf false) (.br (d0.D4==1) (.br (decide (d0.B7=[])) (.lf true) (.br (d0.D4==2) (.lf ((d0.B7.length:Int)==(128:Int))) (.lf false))) (.br (d0.D4==2) (.lf ((d0.B7.length:Int)==(128:Int))) (.lf false))))))))
def Qes d0 pages:=(Qjr d0 pages).m
def Z5l:Q0b:=mS 96 [] true [.agg Q0d.sig, .one (.int .i64)] [] (λa r=>Qjr (Q0d.of (aC a 0)) (argI a 1)) (λX=> .bool X) (λX=>[])
theorem Z1z:Q04 pG Z5l:=oS (.nil) Tryz.func96 Tryz.call96 [] [] 2
def Qlf(n:Q0n)(pages:Int):Tree Bool:=
let T1:Tree (Bool):= .br n.B6 (.br (decide (n.D9>=1)) (.lf (decide (n.D9<=128))) (.lf false)) (.lf (n.D9==0)); .br n.C5 (.br n.B6 (.lf false) (.br (decide (wrap i64 n.C0>=pages)) (.lf false) (.br (!n.C5) (.br (n.C0 !=0) (.lf false) T1) T1))) (.br (!n.C5) (.br (n.C0 !=0) (.lf false) T1) T1)
def Qhc n pages:=(Qlf n pages).m
def Z9q:Q0b:=mS 97 [] true [.agg Q0n.sig, .one (.int .i64)] [] (λa r=>Qlf (Q0n.of (aC a 0)) (argI a 1)) (λX=> .bool X) (λX=>[])
theorem Z53:Q04 pG Z9q:=oS (.nil) Tryz.func97 Tryz.call97 [] [] 2
def Qfs(b:Q07)(pages:Int)(z:(Int)):Prop:=0<=z/\z<=32
def Q5u(b:Q07)(pages:Int)(z:(Int)):Nat:=(32-z).toNat
def Q50(b:Q07)(pages:Int):Tree Bool:=
.lp inferInstance (Q5u b pages 0+1) ((rE (pages:Int)/\rZ/\rE (0:Int)/\True)/\(rE b.C6/\rE b.C2/\True)/\True) 0 λ(v0:Int)=> .br (decide (v0<32)) (.cn (decide (0<=wrap u64 v0)) (let T1:Tree ((Int)⊕(Bool)):= .nx ((rE (pages:Int)/\rZ/\rE ((wrap i64 (v0+1)):Int)/\True)/\(rE b.C6/\rE b.C2/\True)/\True) (Sum.inl (wrap i64 (v0+1))); .br (iand u32 (ishr u32 b.C2 (wrap u64 v0)) (1:Int)==(1:Int)) (.br (decide (v0>=pages)) (.lf (Sum.inr false)) T1) T1)) (.lf (Sum.inr true))
def Q8z b pages:=(Q50 b pages).m
theorem Qs(b:Q07)(pages:Int):(Q50 b pages).p:=by
 unfold Tree.p Q50
 repeat'(first|refine w_lp (inv:=Qfs b pages) (μ:=Q5u b pages) ?_ (cO _) (λ_ _=> ?_)|exact trivial|refine w_br (λ_=> ?_) (λ_=> ?_)|refine w_cn ?_ ?_|refine w_an ?_ ?_|refine w_lv (λ_ _=> ?_)|refine w_nx ?_|refine w_lf ?_|refine And.intro ?_ ?_)
 all_goals((try simp only[Qfs,Q5u]at*);exact fin0)
def Qur:LInv:={
 α:=(Int)
 F:=λst a=>([(1,(lk st 1)),(2, .ptr 0 0 0),(5, .int i64 a)],[⟨true,40,2, .gen [[(cT st 2 0),(cT st 2 1)]]⟩])
 a0:=λst=>(lk st 5).toInt
 ex0:=λst=>[]++[(rX st 2 0)]}
def Qqb:List (Nat×LInv):=[(2,Qur)]
def Qvd:Q0b:=mS 98 [] true [.agg Q07.sig, .one (.int .i64)] [] (λa r=>Q50 (Q07.of (aC a 0)) (argI a 1)) (λX=> .bool X) (λX=>[])
theorem Qsm:Q04 pG Qvd:=oS (.nil) Tryz.func98 Tryz.call98 [] Qqb 3 (λ_ _ _=>by kernel_rfl) (λa r=>Qs (Q07.of (aC a 0)) (argI a 1)) (λ_ X=>by kernel_rfl)
def Qw2(m:Q00):Tree Bool:=
.lv (Q3o m.Mem) λ(x0:Int)=> .br (decide (x0<1)) (.lf false) (.br (m.B1.X.a0 !=0) (.lf false) (.br (decide (m.B1.B4.a0>31)) (.lf false) (.br (decide (m.B1.B4.a7>31)) (.lf false) (.br (decide (m.B1.B4.a6>255)) (.lf false) (.br (dF m.B1.B4.a1 (4:Int) !=(0:Int)) (.lf false) (.lv (Qhv m.A2) λ(x1:Bool)=> .br (!x1) (.lf false) (.lv (Qcb m.A7) λ(x2:Bool)=> .br (!x2) (.lf false) (.lv (Qes m.A9 x0) λ(x3:Bool)=> .br (!x3) (.lf false) (.lv (Qhc m.B9 x0) λ(x4:Bool)=> .br (!x4) (.lf false) (.lv (Q8z m.A1 x0) λ(x5:Bool)=> .br (!x5) (.lf false) (.br (decide (m.A4<=1152921504606846976)) (.br m.A3 (.lf (!m.A6)) (.lf true)) (.lf false))))))))))))
def Q8e m:=(Qw2 m).m
def Zm6:Q0b:=mS 25 [] true [.agg Q00.sig] [] (λa r=>Qw2 (Q00.of (aC a 0))) (λX=> .bool X) (λX=>[])
theorem Qm4:Q04 pG Zm6:=oS (.cons Qc6 (.cons Qsb (.cons Qyx (.cons Z1z (.cons Z53 (.cons Qsm (.nil))))))) Tryz.func25 Tryz.call25 [] [] 2
def Qm(t:Q0i):Tree (Q0i×Bool):=
.br (!t.D2) (.lf (t,false)) (.lf ({D2:=false,C4:=t.C4,D1:=true},true))
def Qot t:=(Qm t).m
def Zja:Q0b:=mS 221 [] true [.agg Q0i.sig] [] (λa r=>Qm (Q0i.of (aC a 0))) (λX=> .tup [.agg (Q0i.cells (X.1)), .bool (X.2)]) (λX=>[])
theorem Qxc:Q04 pG Zja:=oS (.nil) Tryz.func221 Tryz.call221 [] [] 2
def Qhs(c:Q0c)(b:Int):Tree (Q0c×Bool):=
.br (decide ((c.D0.length:Int)>=(16:Int))) (.lf (c,false)) (.cn (decide (c.D0.length+1<=maxLen)) (.lf ({D0:=c.D0++[(λ(n:Int)=>fD n.toNat) b]},true)))
def Qtt c b:=(Qhs c b).m
abbrev Qli c b:=(Qhs c b).p
def Zgt:Q0b:=mT 222 [] true [.agg Q0c.sig, .one (.int .u8)] [] (λa r=>Qhs (Q0c.of (aC a 0)) (argI a 1)) (λX=> .tup [.agg (Q0c.cells (X.1)), .bool (X.2)]) (λX=>[])
theorem Qxx:Q04 pG Zgt:=oT (.nil) Tryz.func222 Tryz.call222 [] [] 2
def Qhp(m:List Int)(frame:Int):Tree Bool:=
.lv (Q3o m) λ(x0:Int)=> .lf (decide (wrap u64 frame<wrap u64 x0))
def Q22 m frame:=(Qhp m frame).m
def Zjb:Q0b:=mS 269 [] true [.one (.ints .u32), .one (.int .u32)] [] (λa r=>Qhp (argL .u32 a 0) (argI a 1)) (λX=> .bool X) (λX=>[])
theorem Qf:Q04 pG Zjb:=oS (.cons Qc6 (.nil)) Tryz.func269 Tryz.call269 [] [] 2
def Qdv(m:List Int)(addr size v:Int):Tree (List Int):=
let E1:=bS 1 1&&bT 0 1&&decide (0<=wrap u32 (eZ addr 4)/\wrap u32 (eZ addr 4)<(m.length:Int));let E2:=dG (wrap u32 (eZ addr 4)); .br (size==4) (.cn E1 (.lf (dH m E2 v))) (.cn E1 (let E3:=decide (0<=wrap u32 (8*dF addr 4)); .cn E3 (.cn E3 (.cn E1 (.lf (dH m E2 (ior u32 (Qg7 u32 (m.getD E2 0) (ishl u32 255 (wrap u32 (8*dF addr 4)))) (ishl u32 (iand u32 v 255) (wrap u32 (8*dF addr 4))))))))))
def Q9h m addr size v:=(Qdv m addr size v).m
abbrev Qf2 m addr size v:=(Qdv m addr size v).p
def Zn4:Q0b:=mT 300 [true,false,false,false] true [.one (.row 0), .one (.int .u32), .one (.int .i64), .one (.int .u32)] [.arr 25 1 (.ints .u32)] (λa r=>Qdv (rowL .u32 r 0) (argI a 1) (argI a 2) (argI a 3)) (λX=> .tup []) (λX=>[⟨false,25,1, .ints .u32 X⟩])
theorem Z1f:Q04 pG Zn4:=oT (.nil) Tryz.func300 Tryz.call300 [] [] 2
def Qi7(m:List Int)(frame:Int)(s:List UInt8)(z:(Int)×(List Int)):Nat:=(128-z.1).toNat
def Q90(m:List Int)(frame:Int)(s:List UInt8):Tree (List Int):=
.lp inferInstance (Qi7 m frame s (0,m)+1) ((True/\rE (frame:Int)/\rE (s:List UInt8)/\rE (0:Int)/\True)/\rE (m:List Int)/\True) (0,m) λ(v0:Int×List Int)=> .br (decide (v0.1<(s.length:Int))) (.br (decide (v0.1<128)) (.cn (decide (0<=v0.1/\v0.1<(s.length:Int))) (let E1:=wrap u32 (↑(fB (s.getD v0.1.toNat (0:UInt8))):Int);let E2:=wrap u32 (wrap i64 (wrap i64 (frame*128)+v0.1)); .an (Qf2 v0.2 E2 1 E1) (.lv (Q9h v0.2 E2 1 E1) λ(x0:List Int)=> .nx ((True/\rE (frame:Int)/\rE (s:List UInt8)/\rE ((wrap i64 (v0.1+1)):Int)/\True)/\rE (x0:List Int)/\True) (Sum.inl (wrap i64 (v0.1+1),x0))))) (.lf (Sum.inr v0.2))) (.lf (Sum.inr v0.2))
def Qkw m frame s:=(Q90 m frame s).m
abbrev Qlr m frame s:=(Q90 m frame s).p
def Zdu:LInv:={
 α:=(Int)×(List Int)
 F:=λst a=>([(0, .all 0),(1,(lk st 1)),(2,(lk st 2)),(6, .int i64 a.1)],[⟨false,25,1, .ints u32 a.2⟩])
 a0:=λst=>((lk st 6).toInt,(Q2f st.rows 0))
 ex0:=λst=>[0]++[]}
def Z46:List (Nat×LInv):=[(1,Zdu)]
def Zj1:Q0b:=mT 270 [true,false,false] true [.one (.row 0), .one (.int .i64), .one (.str)] [.arr 25 1 (.ints .u32)] (λa r=>Q90 (rowL .u32 r 0) (argI a 1) (argS a 2)) (λX=> .tup []) (λX=>[⟨false,25,1, .ints .u32 X⟩])
theorem Qx3:Q04 pG Zj1:=oT (.cons Z1f (.nil)) Tryz.func270 Tryz.call270 [] Z46 3
def Q5v(d0:Q0d)(m:List Int)(e:Q0e):Tree (Q0d×Bool×(List Int)):=
.br (d0.B8 !=1) (.lf (d0,false,m)) (.br (e.C3 !=4) (.lf (d0,false,m)) (.br (decide (e.N>1)) (.lf (d0,false,m)) (let E4:=({Blocks:=d0.Blocks,C1:=d0.C1,Frame:=d0.Frame,B8:=2,D4:=0,B5:=0,B2:=0,B7:=[]}:Q0d);let E5:=({Blocks:=d0.Blocks,C1:=d0.C1,Frame:=d0.Frame,B8:=3,D4:=0,B5:=0,B2:=0,B7:=[]}:Q0d);let T2:Tree ((Q0d×Bool×(List Int))):= .br (e.N==1) (.lf (E4,true,m)) (.lf (E5,true,m));let E6:=decide ((e.C9.length:Int)>(0:Int)); .br (e.N==1) (let T1:Tree ((Q0d×Bool×(List Int))):= .br (d0.D4==1) (.an (Qlr m (wrap i64 d0.B2) e.C9) (.lv (Qkw m (wrap i64 d0.B2) e.C9) λ(x1:List Int)=> .br (e.N==1) (.lf (E4,true,x1)) (.lf (E5,true,x1)))) T2;let T3:Tree ((Q0d×Bool×(List Int))):= .br (!d0.D4==1) (.br E6 (.lf (d0,false,m)) T1) T1; .br (d0.D4==1) (.br ((e.C9.length:Int) !=(128:Int)) (.lf (d0,false,m)) (.lv (Q22 m d0.B2) λ(x0:Bool)=> .br (!x0) (.lf (d0,false,m)) T3)) T3) (.br E6 (.lf (d0,false,m)) T2))))
def Q8v d0 m e:=(Q5v d0 m e).m
abbrev Qi6 d0 m e:=(Q5v d0 m e).p
def Zbp:Q0b:=mT 223 [false,true,false] true [.agg Q0d.sig, .one (.row 0), .agg Q0e.sig] [.arr 25 1 (.ints .u32)] (λa r=>Q5v (Q0d.of (aC a 0)) (rowL .u32 r 0) (Q0e.of (aC a 2))) (λX=> .tup [.agg (Q0d.cells (X.1)), .bool (X.2.1)]) (λX=>[⟨false,25,1, .ints .u32 (X.2.2)⟩])
theorem Qr8:Q04 pG Zbp:=oT (.cons Qf (.cons Qx3 (.nil))) Tryz.func223 Tryz.call223 [] [] 2
def Q9u(n:Q0n)(m:List Int)(frame:List UInt8):Tree (Q0n×Bool×(List Int)):=
.br (!n.C5) (.lf (n,false,m)) (.br (decide ((frame.length:Int)<(1:Int))) (.lf (n,false,m)) (.br (decide ((frame.length:Int)>(128:Int))) (.lf (n,false,m)) (.lv (Q22 m n.C0) λ(x0:Bool)=> .br (!x0) (.lf (n,false,m)) (.an (Qlr m (wrap i64 n.C0) frame) (.lv (Qkw m (wrap i64 n.C0) frame) λ(x1:List Int)=> .lf ({Frame:=n.Frame,D8:=n.D8,C5:=false,C0:=0,B6:=true,D9:=wrap u32 (frame.length:Int)},true,x1))))))
def Qbe n m frame:=(Q9u n m frame).m
abbrev Qh6 n m frame:=(Q9u n m frame).p
def Z8t:Q0b:=mT 224 [false,true,false] true [.agg Q0n.sig, .one (.row 0), .one (.str)] [.arr 25 1 (.ints .u32)] (λa r=>Q9u (Q0n.of (aC a 0)) (rowL .u32 r 0) (argS a 2)) (λX=> .tup [.agg (Q0n.cells (X.1)), .bool (X.2.1)]) (λX=>[⟨false,25,1, .ints .u32 (X.2.2)⟩])
theorem Qr2:Q04 pG Z8t:=oT (.cons Qf (.cons Qx3 (.nil))) Tryz.func224 Tryz.call224 [] [] 2
def Q64(m:Q00)(e:Q0e):Tree (Bool×Q00):=
.br m.A6 (.lf (false,m)) (let T1:Tree ((Bool×Q00)):= .br (e.C3==4) (.an (Qi6 m.A9 m.Mem e) (.lv (Q8v m.A9 m.Mem e) λ(x2:Q0d×Bool×List Int)=> .lf (x2.2.1,{B1:=m.B1,Mem:=x2.2.2,A2:=m.A2,A7:=m.A7,A9:=x2.1,B9:=m.B9,A1:=m.A1,A4:=m.A4,A3:=m.A3,A6:=m.A6}))) (let T3:Tree ((Bool×Q00)):= .br (e.C3==6) (.br (decide (e.C9=[])) (.lf (true,{B1:=m.B1,Mem:=m.Mem,A2:=m.A2,A7:=m.A7,A9:=m.A9,B9:=m.B9,A1:={C6:=e.N,C2:=m.A1.C2},A4:=m.A4,A3:=m.A3,A6:=m.A6})) (.lf (false,m))) (.lf (false,m)); .br (e.C3==5) (.br (e.N==0) (.an (Qh6 m.B9 m.Mem e.C9) (.lv (Qbe m.B9 m.Mem e.C9) λ(x3:Q0n×Bool×List Int)=> .lf (x3.2.1,{B1:=m.B1,Mem:=x3.2.2,A2:=m.A2,A7:=m.A7,A9:=m.A9,B9:=x3.1,A1:=m.A1,A4:=m.A4,A3:=m.A3,A6:=m.A6}))) T3) T3);let T2:Tree ((Bool×Q00)):= .br (e.C3==3) (.br (decide (e.N<=255)) (.br (decide (e.C9=[])) (.an (Qli m.A2 (wrap u8 e.N)) (.lv (Qtt m.A2 (wrap u8 e.N)) λ(x1:Q0c×Bool)=> .lf (x1.2,{B1:=m.B1,Mem:=m.Mem,A2:=x1.1,A7:=m.A7,A9:=m.A9,B9:=m.B9,A1:=m.A1,A4:=m.A4,A3:=m.A3,A6:=m.A6}))) T1) T1) T1; .br (e.C3==2) (.br (e.N==0) (.br (decide (e.C9=[])) (.lv (Qot m.A7) λ(x0:Q0i×Bool)=> .lf (x0.2,{B1:=m.B1,Mem:=m.Mem,A2:=m.A2,A7:=x0.1,A9:=m.A9,B9:=m.B9,A1:=m.A1,A4:=m.A4,A3:=m.A3,A6:=m.A6})) T2) T2) T2)
def Q1s m e:=(Q64 m e).m
abbrev Qr6 m e:=(Q64 m e).p
def Zdv:Q0b:=mT 161 [true,false] true [.ptr 0, .agg Q0e.sig] [.box 43 49 (Q00.sigW (.row 1)), .arr 25 1 (.ints .u32)] (λa r=>Q64 (Q00.ofW (r.getD 0 default).cs (rowL .u32 r 1)) (Q0e.of (aC a 1))) (λX=> .bool (X.1)) (λX=>[⟨true,43,49, .gen [(Q00.cellsW (X.2) (.all 1))]⟩,⟨false,25,1, .ints .u32 (X.2).Mem⟩])
theorem Zay:Q04 pG Zdv:=oT (.cons Qxc (.cons Qxx (.cons Qr8 (.cons Qr2 (.nil))))) Tryz.func161 Tryz.call161 [.row 25 1 (.ints .u32)] [] 2
def Q81(m:Q01)(e:Q0e):Tree (Bool×Q01):=
.br m.A0.A6 (.lf (false,m)) (let T1:Tree ((Bool×Q01)):= .br (e.C3==4) (.an (Qi6 m.A0.A9 m.A0.Mem e) (.lv (Q8v m.A0.A9 m.A0.Mem e) λ(x2:Q0d×Bool×List Int)=> .lf (x2.2.1,{A0:={B1:=m.A0.B1,Mem:=x2.2.2,A2:=m.A0.A2,A7:=m.A0.A7,A9:=x2.1,B9:=m.A0.B9,A1:=m.A0.A1,A4:=m.A0.A4,A3:=m.A0.A3,A6:=m.A0.A6},B3:=m.B3,C8:=m.C8,B0:=m.B0}))) (let T3:Tree ((Bool×Q01)):= .br (e.C3==6) (.br (decide (e.C9=[])) (.lf (true,{A0:={B1:=m.A0.B1,Mem:=m.A0.Mem,A2:=m.A0.A2,A7:=m.A0.A7,A9:=m.A0.A9,B9:=m.A0.B9,A1:={C6:=e.N,C2:=m.A0.A1.C2},A4:=m.A0.A4,A3:=m.A0.A3,A6:=m.A0.A6},B3:=m.B3,C8:=m.C8,B0:=m.B0})) (.lf (false,m))) (.lf (false,m)); .br (e.C3==5) (.br (e.N==0) (.an (Qh6 m.A0.B9 m.A0.Mem e.C9) (.lv (Qbe m.A0.B9 m.A0.Mem e.C9) λ(x3:Q0n×Bool×List Int)=> .lf (x3.2.1,{A0:={B1:=m.A0.B1,Mem:=x3.2.2,A2:=m.A0.A2,A7:=m.A0.A7,A9:=m.A0.A9,B9:=x3.1,A1:=m.A0.A1,A4:=m.A0.A4,A3:=m.A0.A3,A6:=m.A0.A6},B3:=m.B3,C8:=m.C8,B0:=m.B0}))) T3) T3);let T2:Tree ((Bool×Q01)):= .br (e.C3==3) (.br (decide (e.N<=255)) (.br (decide (e.C9=[])) (.an (Qli m.A0.A2 (wrap u8 e.N)) (.lv (Qtt m.A0.A2 (wrap u8 e.N)) λ(x1:Q0c×Bool)=> .lf (x1.2,{A0:={B1:=m.A0.B1,Mem:=m.A0.Mem,A2:=x1.1,A7:=m.A0.A7,A9:=m.A0.A9,B9:=m.A0.B9,A1:=m.A0.A1,A4:=m.A0.A4,A3:=m.A0.A3,A6:=m.A0.A6},B3:=m.B3,C8:=m.C8,B0:=m.B0}))) T1) T1) T1; .br (e.C3==2) (.br (e.N==0) (.br (decide (e.C9=[])) (.lv (Qot m.A0.A7) λ(x0:Q0i×Bool)=> .lf (x0.2,{A0:={B1:=m.A0.B1,Mem:=m.A0.Mem,A2:=m.A0.A2,A7:=x0.1,A9:=m.A0.A9,B9:=m.A0.B9,A1:=m.A0.A1,A4:=m.A0.A4,A3:=m.A0.A3,A6:=m.A0.A6},B3:=m.B3,C8:=m.C8,B0:=m.B0})) T2) T2) T2)
def Qiz m e:=(Q81 m e).m
abbrev Qmk m e:=(Q81 m e).p
def Z5r:Q0b:=mT 161 [true,false] true [.ptr 0, .agg Q0e.sig] [.box 96 52 (Q01.sigW (.row 1) (.row 2) (.row 3)), .arr 25 1 (.ints .u32), .arr 126 4 (.recs .apiEntry), .arr 66 3 (.recs .apiEvent)] (λa r=>Q81 (Q01.ofW (r.getD 0 default).cs (rowL .u32 r 1) (rowR .apiEntry r 2) (rowR .apiEvent r 3)) (Q0e.of (aC a 1))) (λX=> .bool (X.1)) (λX=>[⟨true,96,52, .gen [(Q01.cellsW (X.2) (.all 1) (.all 2) (.all 3))]⟩,⟨false,25,1, .ints .u32 (X.2).A0.Mem⟩,⟨false,126,4, .recs .apiEntry (X.2).C8⟩,⟨false,66,3, .recs .apiEvent (X.2).B0⟩])
theorem Z0o:Q04 pG Z5r:=oT (.cons Qxc (.cons Qxx (.cons Qr8 (.cons Qr2 (.nil))))) Tryz.func161 Tryz.call161 [.row 25 1 (.ints .u32), .row 126 4 (.recs .apiEntry), .row 66 3 (.recs .apiEvent)] [] 2
def Q70(m:Q01)(e:Q0e):Tree (Bool×Q01):=
.an (Qmk m e) (.lv (Qiz m e) λ(x0:Bool×Q01)=> .lf (x0.1,x0.2))
def Qgh m e:=(Q70 m e).m
abbrev Qk4 m e:=(Q70 m e).p
def Z0d:Q0b:=mT 159 [true,false] true [.ptr 0, .agg Q0e.sig] [.box 96 52 (Q01.sigW (.row 1) (.row 2) (.row 3)), .arr 25 1 (.ints .u32), .arr 126 4 (.recs .apiEntry), .arr 66 3 (.recs .apiEvent)] (λa r=>Q70 (Q01.ofW (r.getD 0 default).cs (rowL .u32 r 1) (rowR .apiEntry r 2) (rowR .apiEvent r 3)) (Q0e.of (aC a 1))) (λX=> .bool (X.1)) (λX=>[⟨true,96,52, .gen [(Q01.cellsW (X.2) (.all 1) (.all 2) (.all 3))]⟩,⟨false,25,1, .ints .u32 (X.2).A0.Mem⟩,⟨false,126,4, .recs .apiEntry (X.2).C8⟩,⟨false,66,3, .recs .apiEvent (X.2).B0⟩])
theorem Qz2:Q04 pG Z0d:=oT (.cons Z0o (.nil)) Tryz.func159 Tryz.call159 [.row 25 1 (.ints .u32), .row 126 4 (.recs .apiEntry), .row 66 3 (.recs .apiEvent)] [] 2
def Qa(r:Q01)(e:Q0e):Tree Q01:=
.an (Qk4 r e) (.lv (Qgh r e) λ(x0:Bool×Q01)=> .br x0.1 (.cn (decide (40*(x0.2.C8.length+1)<=140737488355328)) (.lf ({A0:=x0.2.A0,B3:=x0.2.B3,C8:=x0.2.C8++[{At:=x0.2.A0.A4,Event:=e}],B0:=x0.2.B0}))) (.lf x0.2))
def Qgu r e:=(Qa r e).m
abbrev Qh1 r e:=(Qa r e).p
def Z8u:Q0b:=mkKP 1 213 [true,false] [.ptr 0, .agg Q0e.sig] [.box 96 52 (Q01.sigW (.row 1) (.row 2) (.row 3)), .arr 25 1 (.ints .u32), .arr 126 4 (.recs .apiEntry), .arr 66 3 (.recs .apiEvent)] (λa r=>Qh1 (Q01.ofW (r.getD 0 default).cs (rowL .u32 r 1) (rowR .apiEntry r 2) (rowR .apiEvent r 3)) (Q0e.of (aC a 1))) (λa r=>Qgu (Q01.ofW (r.getD 0 default).cs (rowL .u32 r 1) (rowR .apiEntry r 2) (rowR .apiEvent r 3)) (Q0e.of (aC a 1))) (λX=> .tup []) (λX=>[⟨true,96,52, .gen [(Q01.cellsW X (.all 1) (.all 2) (.all 3))]⟩,⟨false,25,1, .ints .u32 X.A0.Mem⟩,⟨false,126,4, .recs .apiEntry X.C8⟩,⟨false,66,3, .recs .apiEvent X.B0⟩])
theorem Z52:Q04 pG Z8u:=Qwp drawn Q0g (.cons Qz2 (.nil)) Tryz.func213 Tryz.call213 (λa r=>Qa (Q01.ofW (r.getD 0 default).cs (rowL .u32 r 1) (rowR .apiEntry r 2) (rowR .apiEvent r 3)) (Q0e.of (aC a 1))) [.row 25 1 (.ints .u32), .row 126 4 (.recs .apiEntry), .row 66 3 (.recs .apiEvent)] [] 2 (λ_ _ _=>by kernel_rfl) (λ_ _=>rfl) (λ_ _ h=>h)
def Qgw(is:Bool)(n:Int):Tree Int:=
.br is (.cn (decide (0<=wrap u64 n)) (.lf (ishl u32 1 (wrap u64 n)))) (.lf 0)
def Q98 is n:=(Qgw is n).m
abbrev Q9o is n:=(Qgw is n).p
def Zha:Q0b:=mT 104 [] true [.one (.bool), .one (.int .i64)] [] (λa r=>Qgw (argB a 0) (argI a 1)) (λX=> .int .u32 X) (λX=>[])
theorem Zex:Q04 pG Zha:=oT (.nil) Tryz.func104 Tryz.call104 [] [] 2
def Qhd(t:Q0i):Tree Bool:=
.lf t.D1
def Q9j t:=(Qhd t).m
def Qrm:Q0b:=mS 105 [] true [.agg Q0i.sig] [] (λa r=>Qhd (Q0i.of (aC a 0))) (λX=> .bool X) (λX=>[])
theorem Qqm:Q04 pG Qrm:=oS (.nil) Tryz.func105 Tryz.call105 [] [] 2
def Qeg(c:Q0c):Tree Bool:=
.lf (decide ((c.D0.length:Int)>(0:Int)))
def Q57 c:=(Qeg c).m
def Qoi:Q0b:=mS 106 [] true [.agg Q0c.sig] [] (λa r=>Qeg (Q0c.of (aC a 0))) (λX=> .bool X) (λX=>[])
theorem Qn7:Q04 pG Qoi:=oS (.nil) Tryz.func106 Tryz.call106 [] [] 2
def Qj9(d0:Q0d):Tree Bool:=
.br (d0.B8==2) (.lf true) (.lf (d0.B8==3))
def Qaq d0:=(Qj9 d0).m
def Qtf:Q0b:=mS 107 [] true [.agg Q0d.sig] [] (λa r=>Qj9 (Q0d.of (aC a 0))) (λX=> .bool X) (λX=>[])
theorem Qs4:Q04 pG Qtf:=oS (.nil) Tryz.func107 Tryz.call107 [] [] 2
def Qk7(n:Q0n):Tree Bool:=
.lf n.B6
def Qd2 n:=(Qk7 n).m
def Qvs:Q0b:=mS 108 [] true [.agg Q0n.sig] [] (λa r=>Qk7 (Q0n.of (aC a 0))) (λX=> .bool X) (λX=>[])
theorem Qu2:Q04 pG Qvs:=oS (.nil) Tryz.func108 Tryz.call108 [] [] 2
def Qni(b:Q07)(z:(Int)×(Int)):Prop:=0<=z.2/\z.2<=32
def Qfr(b:Q07)(z:(Int)×(Int)):Nat:=(32-z.2).toNat
def Qjh(b:Q07):Tree Int:=
.lp inferInstance (Qfr b (0,0)+1) ((rZ/\rE (0:Int)/\rE (0:Int)/\True)/\(rE b.C6/\rE b.C2/\True)/\True) (0,0) λ(v0:Int×Int)=> .br (decide (v0.2<32)) (.cn (decide (0<=wrap u64 v0.2)) (.nx ((rZ/\rE ((wrap i64 (v0.1+wrap i64 (iand u32 (ishr u32 b.C2 (wrap u64 v0.2)) 1))):Int)/\rE ((wrap i64 (v0.2+1)):Int)/\True)/\(rE b.C6/\rE b.C2/\True)/\True) (Sum.inl (wrap i64 (v0.1+wrap i64 (iand u32 (ishr u32 b.C2 (wrap u64 v0.2)) 1)),wrap i64 (v0.2+1))))) (.lf (Sum.inr v0.1))
def Qdq b:=(Qjh b).m
theorem Z5g(b:Q07):(Qjh b).p:=by
 unfold Tree.p Qjh
 repeat'(first|refine w_lp (inv:=Qni b) (μ:=Qfr b) ?_ (cO _) (λ_ _=> ?_)|exact trivial|refine w_br (λ_=> ?_) (λ_=> ?_)|refine w_cn ?_ ?_|refine w_an ?_ ?_|refine w_lv (λ_ _=> ?_)|refine w_nx ?_|refine w_lf ?_|refine And.intro ?_ ?_)
 all_goals((try simp only[Qni,Qfr]at*);exact fin0)
def Zb3:LInv:={
 α:=(Int)×(Int)
 F:=λst a=>([(1, .ptr 0 0 0),(3, .int i64 a.1),(4, .int i64 a.2)],[⟨true,40,2, .gen [[(cT st 1 0),(cT st 1 1)]]⟩])
 a0:=λst=>((lk st 3).toInt,(lk st 4).toInt)
 ex0:=λst=>[]++[(rX st 1 0)]}
def Z1v:List (Nat×LInv):=[(3,Zb3)]
def Zfm:Q0b:=mS 177 [] true [.agg Q07.sig] [] (λa r=>Qjh (Q07.of (aC a 0))) (λX=> .int .i64 X) (λX=>[])
theorem Qt5:Q04 pG Zfm:=oS (.nil) Tryz.func177 Tryz.call177 [] Z1v 3 (λ_ _ _=>by kernel_rfl) (λa r=>Z5g (Q07.of (aC a 0))) (λ_ X=>by kernel_rfl)
def Q95(b:Q07):Tree Bool:=
.lv (Qdq b) λ(x0:Int)=> .lf (wrap u64 x0 !=wrap u64 b.C6)
def Q3j b:=(Q95 b).m
def Qoj:Q0b:=mS 109 [] true [.agg Q07.sig] [] (λa r=>Q95 (Q07.of (aC a 0))) (λX=> .bool X) (λX=>[])
theorem Qmz:Q04 pG Qoj:=oS (.cons Qt5 (.nil)) Tryz.func109 Tryz.call109 [] [] 2
def Qeq(m:Q00):Tree Int:=
.lv (Q9j m.A7) λ(x0:Bool)=> .an (Q9o x0 0) (.lv (Q98 x0 0) λ(x1:Int)=> .lv (Q57 m.A2) λ(x2:Bool)=> .an (Q9o x2 1) (.lv (Q98 x2 1) λ(x3:Int)=> .lv (Qaq m.A9) λ(x4:Bool)=> .an (Q9o x4 2) (.lv (Q98 x4 2) λ(x5:Int)=> .lv (Qd2 m.B9) λ(x6:Bool)=> .an (Q9o x6 3) (.lv (Q98 x6 3) λ(x7:Int)=> .lv (Q3j m.A1) λ(x8:Bool)=> .an (Q9o x8 4) (.lv (Q98 x8 4) λ(x9:Int)=> .lf (ior u32 (ior u32 (ior u32 (ior u32 x1 x3) x5) x7) x9))))))
def Qdj m:=(Qeq m).m
abbrev Qju m:=(Qeq m).p
def Zdn:Q0b:=mT 27 [] true [.agg Q00.sig] [] (λa r=>Qeq (Q00.of (aC a 0))) (λX=> .int .u32 X) (λX=>[])
theorem Que:Q04 pG Zdn:=oT (.cons Zex (.cons Qqm (.cons Qn7 (.cons Qs4 (.cons Qu2 (.cons Qmz (.nil))))))) Tryz.func27 Tryz.call27 [] [] 2
def Q80(m:Q00):Tree Int:=
.an (Qju m) (.lv (Qdj m) λ(x0:Int)=> .lf (iand u32 x0 m.B1.B4.a7))
def Q2r m:=(Q80 m).m
abbrev Qfp m:=(Q80 m).p
def Z4z:Q0b:=mT 111 [] true [.agg Q00.sig] [] (λa r=>Q80 (Q00.of (aC a 0))) (λX=> .int .u32 X) (λX=>[])
theorem Qop:Q04 pG Z4z:=oT (.cons Que (.nil)) Tryz.func111 Tryz.call111 [] [] 2
def Qdc(m:Q00):Tree Bool:=
.br m.A3 (.an (Qfp m) (.lv (Q2r m) λ(x0:Int)=> .lf (x0==0))) (.lf false)
def Qcw m:=(Qdc m).m
abbrev Qgi m:=(Qdc m).p
def Zgr:Q0b:=mT 29 [] true [.agg Q00.sig] [] (λa r=>Qdc (Q00.of (aC a 0))) (λX=> .bool X) (λX=>[])
theorem Qo9:Q04 pG Zgr:=oT (.cons Qop (.nil)) Tryz.func29 Tryz.call29 [] [] 2
def Q92(m:Q00):Tree Bool:=
.lv (Q8e m) λ(x0:Bool)=> .br (!x0) (.lf true) (.br m.A6 (.lf true) (.an (Qgi m) (.lv (Qcw m) λ(x1:Bool)=> .br x1 (.lf true) (.lf (decide (m.A4>=1152921504606846976))))))
def Q24 m:=(Q92 m).m
abbrev Qe5 m:=(Q92 m).p
def Zcv:Q0b:=mT 115 [] true [.agg Q00.sig] [] (λa r=>Q92 (Q00.of (aC a 0))) (λX=> .bool X) (λX=>[])
theorem Quh:Q04 pG Zcv:=oT (.cons Qm4 (.cons Qo9 (.nil))) Tryz.func115 Tryz.call115 [] [] 2
end
noncomputable section
def Z78(b:Bool):Tree Int:=
.br b (.lf 1) (.lf 0)
def Qam b:=(Z78 b).m
def Zns:Q0b:=mS 281 [] true [.one (.bool)] [] (λa r=>Z78 (argB a 0)) (λX=> .int .u32 X) (λX=>[])
theorem Qri:Q04 pG Zns:=oS (.nil) Tryz.func281 Tryz.call281 [] [] 2
def Qhh(c:Q02)(cause bad:Int):Tree Q02:=
.lv (Qam (iand u32 c.B4.a0 (1:Int) !=(0:Int))) λ(x0:Int)=> .lv (Qam (iand u32 c.B4.a0 (2:Int) !=(0:Int))) λ(x1:Int)=> .lf ({X:=c.X,Pc:=c.B4.a1,B4:={a0:=ior u32 (Qg7 u32 (ior u32 (ior u32 (Qg7 u32 c.B4.a0 24) (wrap u32 (8*x0))) (wrap u32 (16*x1))) 2) 1,a1:=c.B4.a1,a2:=c.Pc,a3:=wrap u32 cause,a4:=bad,a5:=c.B4.a5,a6:=c.B4.a6,a7:=c.B4.a7}})
def Q2l c cause bad:=(Qhh c cause bad).m
def Zjs:Q0b:=mS 244 [] true [.agg Q02.sig, .one (.int .i64), .one (.int .u32)] [] (λa r=>Qhh (Q02.of (aC a 0)) (argI a 1) (argI a 2)) (λX=> .agg (Q02.cells X)) (λX=>[])
theorem Qj1:Q04 pG Zjs:=oS (.cons Qri (.nil)) Tryz.func244 Tryz.call244 [] [] 2
def Q7l(m:List Int)(addr size:Int):Tree Bool:=
let T1:Tree (Bool):= .cn (decide (wrap u32 size≠0)) (.br (dF addr (wrap u32 size)==0) (.lv (Q3o m) λ(x0:Int)=> .lf (decide (addr<wrap u32 (wrap i64 (128*x0))))) (.lf false)); .br (size !=1) (.br (size !=4) (.lf false) T1) T1
def Q2 m addr size:=(Q7l m addr size).m
abbrev Qct m addr size:=(Q7l m addr size).p
def Zaj:Q0b:=mT 245 [] true [.one (.ints .u32), .one (.int .u32), .one (.int .i64)] [] (λa r=>Q7l (argL .u32 a 0) (argI a 1) (argI a 2)) (λX=> .bool X) (λX=>[])
theorem Qjk:Q04 pG Zaj:=oT (.cons Qc6 (.nil)) Tryz.func245 Tryz.call245 [] [] 2
def Q3d(m:List Int)(addr size:Int):Tree (Int×Bool):=
.an (Qct m addr size) (.lv (Q2 m addr size) λ(x0:Bool)=> .br (!x0) (.lf (0,false)) (.cn (bS 1 1&&bT 0 1&&decide (0<=wrap u32 (eZ addr 4)/\wrap u32 (eZ addr 4)<(m.length:Int))) (.br (size==1) (.cn (decide (0<=wrap u32 (8*dF addr 4))) (.lf (iand u32 (ishr u32 (m.getD (dG (wrap u32 (eZ addr 4))) 0) (wrap u32 (8*dF addr 4))) 255,true))) (.lf (m.getD (dG (wrap u32 (eZ addr 4))) 0,true)))))
def Q1 m addr size:=(Q3d m addr size).m
abbrev Qc3 m addr size:=(Q3d m addr size).p
def Zh4:Q0b:=mT 187 [] true [.one (.ints .u32), .one (.int .u32), .one (.int .i64)] [] (λa r=>Q3d (argL .u32 a 0) (argI a 1) (argI a 2)) (λX=> .tup [.int .u32 (X.1), .bool (X.2)]) (λX=>[])
theorem Qnm:Q04 pG Zh4:=oT (.cons Qjk (.nil)) Tryz.func187 Tryz.call187 [] [] 2
def Q5w(w:Int):Tree (Q0h×Bool):=
.lv (Q2d (wrap i64 (ishr u32 w 24))) λ(x0:Int)=>let E5:=({Op:=0,A:=0,B:=0,C:=0,Imm:=0}:Q0h); .br (x0==0) (.lf (E5,false)) (.br (x0==2) (let E3:=({Op:=wrap i64 (ishr u32 w 24),A:=wrap i64 (iand u32 (ishr u32 w 20) 15),B:=wrap i64 (iand u32 (ishr u32 w 16) 15),C:=wrap i64 (iand u32 w 65535),Imm:=0}:Q0h); .lv (Q6v E3) λ(x1:Bool)=> .br (!x1) (.lf (E5,false)) (.lf (E3,true))) (let T1:Tree ((Q0h×Bool)):=let E2:=({Op:=wrap i64 (ishr u32 w 24),A:=wrap i64 (iand u32 (ishr u32 w 20) 15),B:=wrap i64 (iand u32 (ishr u32 w 16) 15),C:=0,Imm:=wrap i32 (wrap i16 (iand u32 w 65535))}:Q0h); .lv (Q6v E2) λ(x2:Bool)=> .br (!x2) (.lf (E5,false)) (.lf (E2,true)); .br (x0==3) T1 (.br (x0==7) T1 (let E4:=({Op:=wrap i64 (ishr u32 w 24),A:=wrap i64 (iand u32 (ishr u32 w 20) 15),B:=wrap i64 (iand u32 (ishr u32 w 16) 15),C:=0,Imm:=wrap i32 (iand u32 w 65535)}:Q0h); .lv (Q6v E4) λ(x4:Bool)=> .br (!x4) (.lf (E5,false)) (.lf (E4,true))))))
def Q1u w:=(Q5w w).m
def Z99:Q0b:=mS 188 [] true [.one (.int .u32)] [] (λa r=>Q5w (argI a 0)) (λX=> .tup [.agg (Q0h.cells (X.1)), .bool (X.2)]) (λX=>[])
theorem Qr1:Q04 pG Z99:=oS (.cons Qeh (.cons Qsr (.nil))) Tryz.func188 Tryz.call188 [] [] 2
def Qxk(access:Int):Tree Bool:=
.br (decide (access>=1)) (.lf (decide (access<=3))) (.lf false)
def Qds access:=(Qxk access).m
def Zfj:Q0b:=mS 292 [] true [.one (.int .i64)] [] (λa r=>Qxk (argI a 0)) (λX=> .bool X) (λX=>[])
theorem Qsj:Q04 pG Zfj:=oS (.nil) Tryz.func292 Tryz.call292 [] [] 2
def Qxq(c:Q02):Tree Bool:=
.lf (iand u32 c.B4.a0 (5:Int)==(4:Int))
def Qkc c:=(Qxq c).m
def Zf5:Q0b:=mS 293 [] true [.agg Q02.sig] [] (λa r=>Qxq (Q02.of (aC a 0))) (λX=> .bool X) (λX=>[])
theorem Zbc:Q04 pG Zf5:=oS (.nil) Tryz.func293 Tryz.call293 [] [] 2
def Q85(access:Int):Tree Int:=
.br (access==1) (.lf 4) (.br (access==3) (.lf 6) (.lf 5))
def Q1w access:=(Q85 access).m
def Z4m:Q0b:=mS 294 [] true [.one (.int .i64)] [] (λa r=>Q85 (argI a 0)) (λX=> .int .i64 X) (λX=>[])
theorem Qog:Q04 pG Z4m:=oS (.nil) Tryz.func294 Tryz.call294 [] [] 2
def Q99(m:List Int)(root va access:Int):Tree Q0z:=
.lv (Q1w access) λ(x0:Int)=> .lv (Q3o m) λ(x1:Int)=> .lv (Qds access) λ(x2:Bool)=>let E4:=({Addr:=0,F0:=0,E0:=x0}:Q0z); .br (!x2) (.lf (E4)) (.br (decide (va>=4096)) (.lf (E4)) (.br (decide (root>=wrap u32 x1)) (.lf (E4)) (let E6:=wrap u32 (root*128)+wrap u32 (4*wrap u32 (eZ va 128));let E3:=eZ (wrap u32 E6) 4; .cn (bS 1 1&&bT 0 1&&decide (0<=wrap u32 E3/\wrap u32 E3<(m.length:Int))) (let E5:=m.getD (dG (wrap u32 E3)) 0; .br (iand u32 E5 (1:Int)==(0:Int)) (.lf (E4)) (let T1:Tree (Q0z):= .br (decide (iand u32 (ishr u32 E5 8) 255>=wrap u32 x1)) (.lf (E4)) (.lf ({Addr:=wrap u32 (wrap u32 (iand u32 (ishr u32 E5 8) (255:Int)*(128:Int))+dF va 128),F0:=wrap u32 E6,E0:=0}));let T2:Tree (Q0z):= .br (access==1) (.br (iand u32 E5 (4:Int)==(0:Int)) (.lf (E4)) T1) T1; .br (access==3) (.br (iand u32 E5 (2:Int)==(0:Int)) (.lf (E4)) T2) T2)))))
def Q62 m root va access:=(Q99 m root va access).m
abbrev Qun m root va access:=(Q99 m root va access).p
def Zig:Q0b:=mT 295 [] true [.one (.ints .u32), .one (.int .u32), .one (.int .u32), .one (.int .i64)] [] (λa r=>Q99 (argL .u32 a 0) (argI a 1) (argI a 2) (argI a 3)) (λX=> .agg (Q0z.cells X)) (λX=>[])
theorem Zd8:Q04 pG Zig:=oT (.cons Qog (.cons Qc6 (.cons Qsj (.nil)))) Tryz.func295 Tryz.call295 [] [] 2
def Qde(m:List Int)(entry access:Int):Tree (List Int):=
.an (Qct m entry 4) (.lv (Q2 m entry 4) λ(x0:Bool)=> .br (!x0) (.lf m) (let E3:=bS 1 1&&bT 0 1&&decide (0<=wrap u32 (eZ entry 4)/\wrap u32 (eZ entry 4)<(m.length:Int)); .cn E3 (.cn E3 (let E4:=dG (wrap u32 (eZ entry 4));let E1:=dH m E4 (ior u32 (m.getD E4 0) 8); .br (access==3) (let E2:=bS 1 1&&bT 0 1&&decide (0<=wrap u32 (eZ entry 4)/\wrap u32 (eZ entry 4)<(↑(dL E1):Int)); .cn E2 (.cn E2 (.lf (dH E1 E4 (ior u32 (aK E1 E4 0) 16))))) (.lf E1)))))
def Qp0 m entry access:=(Qde m entry access).m
abbrev Qsc m entry access:=(Qde m entry access).p
def Zgu:Q0b:=mT 296 [true,false,false] true [.one (.row 0), .one (.int .u32), .one (.int .i64)] [.arr 25 1 (.ints .u32)] (λa r=>Qde (rowL .u32 r 0) (argI a 1) (argI a 2)) (λX=> .tup []) (λX=>[⟨false,25,1, .ints .u32 X⟩])
theorem Zc3:Q04 pG Zgu:=oT (.cons Qjk (.nil)) Tryz.func296 Tryz.call296 [] [] 2
def Q74(c:Q02)(m:List Int)(va size access:Int):Tree (Int×Int×(List Int)):=
.lv (Qds access) λ(x0:Bool)=> .br (!x0) (.lf (0,5,m)) (let T1:Tree ((Int×Int×(List Int))):= .cn (decide (wrap u32 size≠0)) (.br (dF va (wrap u32 size) !=0) (.lf (0,3,m)) (.lv (Qkc c) λ(x1:Bool)=> .br (!x1) (.an (Qct m va size) (.lv (Q2 m va size) λ(x2:Bool)=> .br (!x2) (.lv (Q1w access) λ(x3:Int)=> .lf (0,x3,m)) (.lf (va,0,m)))) (.an (Qun m c.B4.a6 va access) (.lv (Q62 m c.B4.a6 va access) λ(x4:Q0z)=> .br (x4.E0 !=0) (.lf (0,x4.E0,m)) (.an (Qsc m x4.F0 access) (.lv (Qp0 m x4.F0 access) λ(x5:List Int)=> .lf (x4.Addr,0,x5))))))); .br (size !=1) (.br (size !=4) (.lf (0,5,m)) T1) T1)
def Q0y c m va size access:=(Q74 c m va size access).m
abbrev Q89 c m va size access:=(Q74 c m va size access).p
def Zcx:Q0b:=mT 254 [false,true,false,false,false] true [.agg Q02.sig, .one (.row 0), .one (.int .u32), .one (.int .i64), .one (.int .i64)] [.arr 25 1 (.ints .u32)] (λa r=>Q74 (Q02.of (aC a 0)) (rowL .u32 r 0) (argI a 2) (argI a 3) (argI a 4)) (λX=> .tup [.int .u32 (X.1), .int .i64 (X.2.1)]) (λX=>[⟨false,25,1, .ints .u32 (X.2.2)⟩])
theorem Qtp:Q04 pG Zcx:=oT (.cons Qsj (.cons Zbc (.cons Qjk (.cons Qog (.cons Zd8 (.cons Zc3 (.nil))))))) Tryz.func254 Tryz.call254 [] [] 2
def Ql0(op:Int):Tree Bool:=
.br (decide (op>=57)) (.lf (decide (op<=64))) (.lf false)
def Q31 op:=(Ql0 op).m
def Qwh:Q0b:=mS 255 [] true [.one (.int .i64)] [] (λa r=>Ql0 (argI a 0)) (λX=> .bool X) (λX=>[])
theorem Qsl:Q04 pG Qwh:=oS (.nil) Tryz.func255 Tryz.call255 [] [] 2
def Qcm(c:Q02):Tree Q02:=
.lv (Qam (iand u32 c.B4.a0 (8:Int) !=(0:Int))) λ(x0:Int)=> .lv (Qam (iand u32 c.B4.a0 (16:Int) !=(0:Int))) λ(x1:Int)=> .lf ({X:=c.X,Pc:=c.B4.a2,B4:={a0:=ior u32 (ior u32 (Qg7 u32 c.B4.a0 3) (wrap u32 (1*x0))) (wrap u32 (2*x1)),a1:=c.B4.a1,a2:=c.B4.a2,a3:=c.B4.a3,a4:=c.B4.a4,a5:=c.B4.a5,a6:=c.B4.a6,a7:=c.B4.a7}})
def Qic c:=(Qcm c).m
def Zb7:Q0b:=mS 297 [] true [.agg Q02.sig] [] (λa r=>Qcm (Q02.of (aC a 0))) (λX=> .agg (Q02.cells X)) (λX=>[])
theorem Z54:Q04 pG Zb7:=oS (.cons Qri (.nil)) Tryz.func297 Tryz.call297 [] [] 2
def Qdu(c:Q02)(r v:Int):Tree Q02:=
.br (decide (r>0)) (.br (decide (r<16)) (.cn (bT 0 1&&decide (0<=r/\r<(↑16:Int))) (.lf ({X:=A16.of 0 (dH (A16.l c.X) r.toNat v),Pc:=c.Pc,B4:=c.B4}))) (.lf c)) (.lf c)
def Q1q c r v:=(Qdu c r v).m
abbrev Q2p c r v:=(Qdu c r v).p
def Znh:Q0b:=mT 219 [] true [.agg Q02.sig, .one (.int .i64), .one (.int .u32)] [] (λa r=>Qdu (Q02.of (aC a 0)) (argI a 1) (argI a 2)) (λX=> .agg (Q02.cells X)) (λX=>[])
theorem Qdn:Q04 pG Znh:=oT (.nil) Tryz.func219 Tryz.call219 [] [] 2
def Qbt(c:Q02)(csr v:Int):Tree Q02:=
let E4:=bT 0 1&&decide (0<=csr/\csr<(↑8:Int));let T2:Tree (Q02):= .cn E4 (.lf ({X:=c.X,Pc:=c.Pc,B4:=A8.of 0 (dH (A8.l c.B4) csr.toNat (iand u32 v 31))})); .br (csr==0) T2 (.br (csr==7) T2 (.br (csr==6) (.cn E4 (.lf ({X:=c.X,Pc:=c.Pc,B4:=A8.of 0 (dH (A8.l c.B4) csr.toNat (iand u32 v 255))}))) (let T3:Tree (Q02):= .cn E4 (.lf ({X:=c.X,Pc:=c.Pc,B4:=A8.of 0 (dH (A8.l c.B4) csr.toNat (Qg7 u32 v 3))})); .br (csr==1) T3 (.br (csr==2) T3 (let T1:Tree (Q02):= .cn E4 (.lf ({X:=c.X,Pc:=c.Pc,B4:=A8.of 0 (dH (A8.l c.B4) csr.toNat v)})); .br (csr==3) T1 (.br (csr==4) T1 (.br (csr==5) T1 (.lf c))))))))
def Qgp c csr v:=(Qbt c csr v).m
abbrev Qqq c csr v:=(Qbt c csr v).p
def Zg:Q0b:=mT 298 [] true [.agg Q02.sig, .one (.int .i64), .one (.int .u32)] [] (λa r=>Qbt (Q02.of (aC a 0)) (argI a 1) (argI a 2)) (λX=> .agg (Q02.cells X)) (λX=>[])
theorem Z9c:Q04 pG Zg:=oT (.nil) Tryz.func298 Tryz.call298 [] [] 2
def Q7f(c:Q02)(i:Q0h):Tree (Q02×Q0w):=
.br (i.Op==56) (.lv (Q2l c 7 0) λ(x0:Q02)=> .lf (x0,{C3:=0,C7:=0,D7:=0,Value:=0})) (.br (i.Op==57) (.lv (Qic c) λ(x1:Q02)=> .lf (x1,{C3:=0,C7:=0,D7:=0,Value:=0})) (.br (i.Op==58) (.cn (bT 0 1&&decide (0<=i.Imm/\i.Imm<(↑8:Int))) (let E3:=aK (A8.l c.B4) i.Imm.toNat 0; .an (Q2p c i.A E3) (.lv (Q1q c i.A E3) λ(x2:Q02)=> .lf ({X:=x2.X,Pc:=wrap u32 (x2.Pc+4),B4:=x2.B4},{C3:=0,C7:=0,D7:=0,Value:=0})))) (let E2:=bT 0 1&&decide (0<=i.A/\i.A<(↑16:Int)); .br (i.Op==59) (.cn E2 (let E4:=aK (A16.l c.X) i.A.toNat 0; .an (Qqq c (wrap i64 i.Imm) E4) (.lv (Qgp c (wrap i64 i.Imm) E4) λ(x3:Q02)=> .lf ({X:=x3.X,Pc:=wrap u32 (x3.Pc+4),B4:=x3.B4},{C3:=0,C7:=0,D7:=0,Value:=0})))) (let E1:=({X:=c.X,Pc:=wrap u32 (c.Pc+4),B4:=c.B4}:Q02); .br (i.Op==60) (.lf (E1,{C3:=1,C7:=wrap i64 i.Imm,D7:=i.A,Value:=0})) (.br (i.Op==61) (.cn E2 (.lf (E1,{C3:=2,C7:=wrap i64 i.Imm,D7:=0,Value:=aK (A16.l c.X) i.A.toNat 0}))) (.br (i.Op==62) (.lf (E1,{C3:=3,C7:=0,D7:=0,Value:=0})) (.br (i.Op==63) (.lf (E1,{C3:=5,C7:=0,D7:=0,Value:=0})) (.br (i.Op==64) (.lf (E1,{C3:=4,C7:=0,D7:=0,Value:=0})) (.lf (E1,{C3:=0,C7:=0,D7:=0,Value:=0}))))))))))
def Qhj c i:=(Q7f c i).m
abbrev Qoa c i:=(Q7f c i).p
def Za8:Q0b:=mT 256 [] true [.agg Q02.sig, .agg Q0h.sig] [] (λa r=>Q7f (Q02.of (aC a 0)) (Q0h.of (aC a 1))) (λX=> .tup [.agg (Q02.cells (X.1)), .agg (Q0w.cells (X.2))]) (λX=>[])
theorem Z4a:Q04 pG Za8:=oT (.cons Qj1 (.cons Z54 (.cons Qdn (.cons Z9c (.nil))))) Tryz.func256 Tryz.call256 [] [] 2
def Qy(op a b:Int):Tree Bool:=
.br (op==40) (.lf (a==b)) (.br (op==41) (.lf (a !=b)) (.br (op==42) (.lf (decide (wrap i32 a<wrap i32 b))) (.br (op==43) (.lf (decide (wrap i32 a>=wrap i32 b))) (.br (op==44) (.lf (decide (a<b))) (.lf (decide (a>=b)))))))
def Q28 op a b:=(Qy op a b).m
def Zeq:Q0b:=mS 299 [] true [.one (.int .i64), .one (.int .u32), .one (.int .u32)] [] (λa r=>Qy (argI a 0) (argI a 1) (argI a 2)) (λX=> .bool X) (λX=>[])
theorem Z97:Q04 pG Zeq:=oS (.nil) Tryz.func299 Tryz.call299 [] [] 2
def Qh(c:Q02)(i:Q0h):Tree Q02:=
.br (i.Op==48) (.an (Q2p c i.A (wrap u32 (c.Pc+4))) (.lv (Q1q c i.A (wrap u32 (c.Pc+4))) λ(x0:Q02)=> .lf ({X:=x0.X,Pc:=wrap u32 (c.Pc+wrap u32 (4*wrap u32 i.Imm)),B4:=x0.B4}))) (let E1:=bT 0 1&&decide (0<=i.B/\i.B<(↑16:Int)); .br (i.Op==49) (.cn E1 (.an (Q2p c i.A (wrap u32 (c.Pc+4))) (.lv (Q1q c i.A (wrap u32 (c.Pc+4))) λ(x1:Q02)=> .lf ({X:=x1.X,Pc:=wrap u32 (aK (A16.l c.X) i.B.toNat 0+wrap u32 i.Imm),B4:=x1.B4})))) (.cn (bT 0 1&&decide (0<=i.A/\i.A<(↑16:Int))) (.cn E1 (.lv (Q28 i.Op (aK (A16.l c.X) i.A.toNat 0) (aK (A16.l c.X) i.B.toNat 0)) λ(x2:Bool)=> .br x2 (.lf ({X:=c.X,Pc:=wrap u32 (c.Pc+wrap u32 (4*wrap u32 i.Imm)),B4:=c.B4})) (.lf ({X:=c.X,Pc:=wrap u32 (c.Pc+4),B4:=c.B4}))))))
def Z2 c i:=(Qh c i).m
abbrev Qt2 c i:=(Qh c i).p
def Zhw:Q0b:=mT 257 [] true [.agg Q02.sig, .agg Q0h.sig] [] (λa r=>Qh (Q02.of (aC a 0)) (Q0h.of (aC a 1))) (λX=> .agg (Q02.cells X)) (λX=>[])
theorem Zfp:Q04 pG Zhw:=oT (.cons Qdn (.cons Z97 (.nil))) Tryz.func257 Tryz.call257 [] [] 2
def Q6w(x n:Int):Tree Int:=
.br (decide (n<1)) (.lf 0) (.br (decide (n>=32)) (.lf x) (.cn (decide (0<=wrap u64 n)) (.cn (decide (0<=wrap u64 (wrap i64 (n-1)))) (let E1:=iand u32 x (wrap u32 (ishl u32 1 (wrap u64 n)-1)); .br (ishr u32 E1 (wrap u64 (wrap i64 (n-1)))==1) (.cn (decide (0<=wrap u64 n)) (.lf (ior u32 E1 (ishl u32 4294967295 (wrap u64 n))))) (.lf E1)))))
def Q36 x n:=(Q6w x n).m
abbrev Qb3 x n:=(Q6w x n).p
def Qwj:Q0b:=mT 301 [] true [.one (.int .u32), .one (.int .i64)] [] (λa r=>Q6w (argI a 0) (argI a 1)) (λX=> .int .u32 X) (λX=>[])
theorem Qtq:Q04 pG Qwj:=oT (.nil) Tryz.func301 Tryz.call301 [] [] 2
def Q9g(c:Q02)(m:List Int)(i:Q0h):Tree (Q02×(List Int)):=
.cn (bT 0 1&&decide (0<=i.B/\i.B<(↑16:Int))) (let E4:=wrap u32 (aK (A16.l c.X) i.B.toNat 0+wrap u32 i.Imm);let E5:=aK (A16.l c.X) i.A.toNat 0;let E6:=bT 0 1&&decide (0<=i.A/\i.A<(↑16:Int));let E7:=({X:=c.X,Pc:=wrap u32 (c.Pc+4),B4:=c.B4}:Q02);let T1:Tree ((Q02×(List Int))):=let T3:Tree ((Q02×(List Int))):= .an (Q89 c m E4 4 3) (.lv (Q0y c m E4 4 3) λ(x0:Int×Int×List Int)=> .br (x0.2.1 !=0) (.lv (Q2l c x0.2.1 E4) λ(x1:Q02)=> .lf (x1,x0.2.2)) (.cn E6 (.an (Qf2 x0.2.2 x0.1 4 E5) (.lv (Q9h x0.2.2 x0.1 4 E5) λ(x2:List Int)=> .lf (E7,x2))))); .br (i.Op==35) T3 (.br (i.Op==36) T3 (.an (Q89 c m E4 4 2) (.lv (Q0y c m E4 4 2) λ(x6:Int×Int×List Int)=> .br (x6.2.1 !=0) (.lv (Q2l c x6.2.1 E4) λ(x7:Q02)=> .lf (x7,x6.2.2)) (.an (Qc3 x6.2.2 x6.1 4) (.lv (Q1 x6.2.2 x6.1 4) λ(x8:Int×Bool)=> .br (i.Op==33) (.an (Qb3 x8.1 8) (.lv (Q36 x8.1 8) λ(x9:Int)=> .an (Q2p c i.A x9) (.lv (Q1q c i.A x9) λ(x10:Q02)=> .lf ({X:=x10.X,Pc:=wrap u32 (x10.Pc+4),B4:=x10.B4},x6.2.2)))) (.an (Q2p c i.A x8.1) (.lv (Q1q c i.A x8.1) λ(x11:Q02)=> .lf ({X:=x11.X,Pc:=wrap u32 (x11.Pc+4),B4:=x11.B4},x6.2.2)))))))); .br (i.Op==32) T1 (.br (i.Op==35) T1 (let T2:Tree ((Q02×(List Int))):= .an (Q89 c m E4 1 3) (.lv (Q0y c m E4 1 3) λ(x24:Int×Int×List Int)=> .br (x24.2.1 !=0) (.lv (Q2l c x24.2.1 E4) λ(x25:Q02)=> .lf (x25,x24.2.2)) (.cn E6 (.an (Qf2 x24.2.2 x24.1 1 E5) (.lv (Q9h x24.2.2 x24.1 1 E5) λ(x26:List Int)=> .lf (E7,x26))))); .br (i.Op==35) T2 (.br (i.Op==36) T2 (.an (Q89 c m E4 1 2) (.lv (Q0y c m E4 1 2) λ(x30:Int×Int×List Int)=> .br (x30.2.1 !=0) (.lv (Q2l c x30.2.1 E4) λ(x31:Q02)=> .lf (x31,x30.2.2)) (.an (Qc3 x30.2.2 x30.1 1) (.lv (Q1 x30.2.2 x30.1 1) λ(x32:Int×Bool)=> .br (i.Op==33) (.an (Qb3 x32.1 8) (.lv (Q36 x32.1 8) λ(x33:Int)=> .an (Q2p c i.A x33) (.lv (Q1q c i.A x33) λ(x34:Q02)=> .lf ({X:=x34.X,Pc:=wrap u32 (x34.Pc+4),B4:=x34.B4},x30.2.2)))) (.an (Q2p c i.A x32.1) (.lv (Q1q c i.A x32.1) λ(x35:Q02)=> .lf ({X:=x35.X,Pc:=wrap u32 (x35.Pc+4),B4:=x35.B4},x30.2.2)))))))))))
def Q4l c m i:=(Q9g c m i).m
abbrev Qkz c m i:=(Q9g c m i).p
def Z36:Q0b:=mT 258 [false,true,false] true [.agg Q02.sig, .one (.row 0), .agg Q0h.sig] [.arr 25 1 (.ints .u32)] (λa r=>Q9g (Q02.of (aC a 0)) (rowL .u32 r 0) (Q0h.of (aC a 2))) (λX=> .agg (Q02.cells (X.1))) (λX=>[⟨false,25,1, .ints .u32 (X.2)⟩])
theorem Qyg:Q04 pG Z36:=oT (.cons Qtp (.cons Qj1 (.cons Z1f (.cons Qnm (.cons Qtq (.cons Qdn (.nil))))))) Tryz.func258 Tryz.call258 [] [] 2
def Qyd(op:Int):Tree Int:=
.br (op==16) (.lf 1) (.br (op==17) (.lf 3) (.br (op==18) (.lf 4) (.br (op==19) (.lf 5) (.br (op==20) (.lf 6) (.br (op==21) (.lf 7) (.br (op==22) (.lf 8) (.br (op==23) (.lf 12) (.lf op))))))))
def Z7n op:=(Qyd op).m
def Zdc:Q0b:=mS 302 [] true [.one (.int .i64)] [] (λa r=>Qyd (argI a 0)) (λX=> .int .i64 X) (λX=>[])
theorem Za0:Q04 pG Zdc:=oS (.nil) Tryz.func302 Tryz.call302 [] [] 2
def Q9x(a b:Int):Tree (Int×Int):=
.br (b==0) (.lf (4294967295,a)) (.cn (decide (wrap i64 (wrap i32 b)≠0)) (.cn (decide (wrap i64 (wrap i32 b)≠0)) (.lf (wrap u32 (wrap i64 (eZ (wrap i64 (wrap i32 a)) (wrap i64 (wrap i32 b)))),wrap u32 (dF (wrap i64 (wrap i32 a)) (wrap i64 (wrap i32 b)))))))
def Qb8 a b:=(Q9x a b).m
abbrev Qi2 a b:=(Q9x a b).p
def Zbr:Q0b:=mT 303 [] true [.one (.int .u32), .one (.int .u32)] [] (λa r=>Q9x (argI a 0) (argI a 1)) (λX=> .tup [.int .u32 (X.1), .int .u32 (X.2)]) (λX=>[])
theorem Z5m:Q04 pG Zbr:=oT (.nil) Tryz.func303 Tryz.call303 [] [] 2
def Qkl(op a b:Int):Tree (Int×Bool):=
.lv (Z7n op) λ(x0:Int)=> .br (x0==1) (.lf (wrap u32 (a+b),true)) (.br (x0==2) (.lf (wrap u32 (a-b),true)) (.br (x0==3) (.lf (iand u32 a b,true)) (.br (x0==4) (.lf (ior u32 a b,true)) (.br (x0==5) (.lf (ixor u32 a b,true)) (.br (x0==6) (.lf (ishl u32 a (iand u32 b 31),true)) (.br (x0==7) (.lf (ishr u32 a (iand u32 b 31),true)) (.br (x0==8) (.lf (wrap u32 (ishr i32 (wrap i32 a) (iand u32 b 31)),true)) (.br (x0==9) (.lf (wrap u32 (a*b),true)) (.br (x0==10) (.an (Qi2 a b) (.lv (Qb8 a b) λ(x1:Int×Int)=> .lf (x1.1,true))) (.br (x0==11) (.an (Qi2 a b) (.lv (Qb8 a b) λ(x2:Int×Int)=> .lf (x2.2,true))) (.br (x0==12) (.lv (Qam (decide (wrap i32 a<wrap i32 b))) λ(x3:Int)=> .lf (x3,true)) (.br (x0==13) (.lv (Qam (decide (a<b))) λ(x4:Int)=> .lf (x4,true)) (.lf (0,false))))))))))))))
def Qcr op a b:=(Qkl op a b).m
abbrev Qof op a b:=(Qkl op a b).p
def Znv:Q0b:=mT 259 [] true [.one (.int .i64), .one (.int .u32), .one (.int .u32)] [] (λa r=>Qkl (argI a 0) (argI a 1) (argI a 2)) (λX=> .tup [.int .u32 (X.1), .bool (X.2)]) (λX=>[])
theorem Zii:Q04 pG Znv:=oT (.cons Za0 (.cons Z5m (.cons Qri (.nil)))) Tryz.func259 Tryz.call259 [] [] 2
def Qo2(c:Q02)(m:List Int):Tree (Q02×Q0w×(List Int)):=
.an (Q89 c m c.Pc 4 1) (.lv (Q0y c m c.Pc 4 1) λ(x0:Int×Int×List Int)=> .br (x0.2.1 !=0) (.lv (Q2l c x0.2.1 c.Pc) λ(x1:Q02)=> .lf (x1,{C3:=0,C7:=0,D7:=0,Value:=0},x0.2.2)) (.an (Qc3 x0.2.2 x0.1 4) (.lv (Q1 x0.2.2 x0.1 4) λ(x2:Int×Bool)=> .lv (Q1u x2.1) λ(x3:Q0h×Bool)=> .br (!x3.2) (.lv (Q2l c 1 x2.1) λ(x4:Q02)=> .lf (x4,{C3:=0,C7:=0,D7:=0,Value:=0},x0.2.2)) (.lv (Q31 x3.1.Op) λ(x5:Bool)=>let T1:Tree ((Q02×Q0w×(List Int))):= .br (decide (x3.1.Op>=56)) (.an (Qoa c x3.1) (.lv (Qhj c x3.1) λ(x7:Q02×Q0w)=> .lf (x7.1,x7.2,x0.2.2))) (.br (decide (x3.1.Op>=40)) (.an (Qt2 c x3.1) (.lv (Z2 c x3.1) λ(x8:Q02)=> .lf (x8,{C3:=0,C7:=0,D7:=0,Value:=0},x0.2.2))) (.br (decide (x3.1.Op>=32)) (.an (Qkz c x0.2.2 x3.1) (.lv (Q4l c x0.2.2 x3.1) λ(x9:Q02×List Int)=> .lf (x9.1,{C3:=0,C7:=0,D7:=0,Value:=0},x9.2))) (.br (x3.1.Op==24) (.an (Q2p c x3.1.A (ishl u32 (wrap u32 x3.1.Imm) 16)) (.lv (Q1q c x3.1.A (ishl u32 (wrap u32 x3.1.Imm) 16)) λ(x10:Q02)=> .lf ({X:=x10.X,Pc:=wrap u32 (x10.Pc+4),B4:=x10.B4},{C3:=0,C7:=0,D7:=0,Value:=0},x0.2.2))) (let E2:=aK (A16.l c.X) x3.1.B.toNat 0;let E3:=bT 0 1&&decide (0<=x3.1.B/\x3.1.B<(↑16:Int)); .br (decide (x3.1.Op<=13)) (.cn (bT 0 1&&decide (0<=x3.1.C/\x3.1.C<(↑16:Int))) (.cn E3 (let E4:=aK (A16.l c.X) x3.1.C.toNat 0; .an (Qof x3.1.Op E2 E4) (.lv (Qcr x3.1.Op E2 E4) λ(x11:Int×Bool)=> .an (Q2p c x3.1.A x11.1) (.lv (Q1q c x3.1.A x11.1) λ(x12:Q02)=> .lf ({X:=x12.X,Pc:=wrap u32 (x12.Pc+4),B4:=x12.B4},{C3:=0,C7:=0,D7:=0,Value:=0},x0.2.2)))))) (.cn E3 (.an (Qof x3.1.Op E2 (wrap u32 x3.1.Imm)) (.lv (Qcr x3.1.Op E2 (wrap u32 x3.1.Imm)) λ(x13:Int×Bool)=> .an (Q2p c x3.1.A x13.1) (.lv (Q1q c x3.1.A x13.1) λ(x14:Q02)=> .lf ({X:=x14.X,Pc:=wrap u32 (x14.Pc+4),B4:=x14.B4},{C3:=0,C7:=0,D7:=0,Value:=0},x0.2.2))))))))); .br x5 (.br (iand u32 c.B4.a0 (1:Int)==(0:Int)) (.lv (Q2l c 2 x2.1) λ(x6:Q02)=> .lf (x6,{C3:=0,C7:=0,D7:=0,Value:=0},x0.2.2)) T1) T1))))
def Q68 c m:=(Qo2 c m).m
abbrev Qru c m:=(Qo2 c m).p
def xC:Q0b:=mT 217 [false,true] true [.agg Q02.sig, .one (.row 0)] [.arr 25 1 (.ints .u32)] (λa r=>Qo2 (Q02.of (aC a 0)) (rowL .u32 r 0)) (λX=> .tup [.agg (Q02.cells (X.1)), .agg (Q0w.cells (X.2.1))]) (λX=>[⟨false,25,1, .ints .u32 (X.2.2)⟩])
theorem Z7a:Q04 pG xC:=oT (.cons Qtp (.cons Qj1 (.cons Qnm (.cons Qr1 (.cons Qsl (.cons Z4a (.cons Zfp (.cons Qyg (.cons Qdn (.cons Zii (.nil))))))))))) Tryz.func217 Tryz.call217 [] [] 2
end
noncomputable section
def Qco(steps:Int):Tree Int:=
.lf (if 4000<if 0>steps then 0 else steps then 4000 else if 0>steps then 0 else steps)
def Q1b steps:=(Qco steps).m
def Z18:Q0b:=mS 158 [] true [.one (.int .i64)] [] (λa r=>Qco (argI a 0)) (λX=> .int .i64 X) (λX=>[])
theorem Qyw:Q04 pG Z18:=oS (.nil) Tryz.func158 Tryz.call158 [] [] 2
def Z7o(t:Q0i)(now:Int):Tree Bool:=
.br t.D2 (.lf (decide (now>=t.C4))) (.lf false)
def Qm7 t now:=(Z7o t now).m
def Zmk:Q0b:=mS 214 [] true [.agg Q0i.sig, .one (.int .u32)] [] (λa r=>Z7o (Q0i.of (aC a 0)) (argI a 1)) (λX=> .bool X) (λX=>[])
theorem Zhj:Q04 pG Zmk:=oS (.nil) Tryz.func214 Tryz.call214 [] [] 2
def Qd6(m:Q00)(z:(Int)):Nat:=(32-z).toNat
def Q45(m:Q00):Tree Q02:=
.an (Qfp m) (.lv (Q2r m) λ(x0:Int)=> .br (iand u32 m.B1.B4.a0 (2:Int)==(0:Int)) (.lf m.B1) (.br (x0==0) (.lf m.B1) (.lp inferInstance (Qd6 m 0+1) ((rZ/\rZ/\rE (x0:Int)/\rE (0:Int)/\True)/\(mE m (((Els.Nil (Els.ints u32 m.Mem)\/rE (1:Nat))/\rE m.Mem)) True)/\(rE (0:Int)/\rE (0:Int)/\rE (0:Int)/\rE (0:Int)/\rE (0:Int)/\rE (0:Int)/\rE (0:Int)/\rE (0:Int)/\rE (0:Int)/\rE (0:Int)/\rE (0:Int)/\rE (0:Int)/\rE (0:Int)/\rE (0:Int)/\rE (0:Int)/\rE (0:Int)/\rE (0:Int)/\rE (0:Int)/\rE (0:Int)/\rE (0:Int)/\rE (0:Int)/\rE (0:Int)/\rE (0:Int)/\rE (0:Int)/\rE (0:Int)/\True)/\True) 0 λ(v0:Int)=> .cn (decide (0<=wrap u64 v0)) (.br (iand u32 (ishr u32 x0 (wrap u64 v0)) (1:Int)==(0:Int)) (.nx ((rZ/\rZ/\rE (x0:Int)/\rE ((wrap i64 (v0+1)):Int)/\True)/\(mE m (((Els.Nil (Els.ints u32 m.Mem)\/rE (1:Nat))/\rE m.Mem)) True)/\(rE (0:Int)/\rE (0:Int)/\rE (0:Int)/\rE (0:Int)/\rE (0:Int)/\rE (0:Int)/\rE (0:Int)/\rE (0:Int)/\rE (0:Int)/\rE (0:Int)/\rE (0:Int)/\rE (0:Int)/\rE (0:Int)/\rE (0:Int)/\rE (0:Int)/\rE (0:Int)/\rE (0:Int)/\rE (0:Int)/\rE (0:Int)/\rE (0:Int)/\rE (0:Int)/\rE (0:Int)/\rE (0:Int)/\rE (0:Int)/\rE (0:Int)/\True)/\True) (Sum.inl (wrap i64 (v0+1)))) (.lv (Q2l m.B1 (wrap i64 (16+v0)) 0) λ(x1:Q02)=> .lf (Sum.inr x1))))))
def Q0j m:=(Q45 m).m
abbrev Q6i m:=(Q45 m).p
def Qrh:LInv:={
 α:=(Int)
 F:=λst a=>([(1, .ptr 0 0 0),(2, .ptr 1 0 0),(3,(lk st 3)),(4, .int i64 a)],[⟨true,43,49, .gen [mB (cT st 1)]⟩,⟨true,29,25, .gen [[(cT st 2 0),(cT st 2 1),(cT st 2 2),(cT st 2 3),(cT st 2 4),(cT st 2 5),(cT st 2 6),(cT st 2 7),(cT st 2 8),(cT st 2 9),(cT st 2 10),(cT st 2 11),(cT st 2 12),(cT st 2 13),(cT st 2 14),(cT st 2 15),(cT st 2 16),(cT st 2 17),(cT st 2 18),(cT st 2 19),(cT st 2 20),(cT st 2 21),(cT st 2 22),(cT st 2 23),(cT st 2 24)]]⟩])
 a0:=λst=>(lk st 4).toInt
 ex0:=λst=>[]++[(rX st 1 0),(rX st 2 1)]}
def Qow:List (Nat×LInv):=[(5,Qrh)]
def Qud:Q0b:=mT 186 [] true [.agg Q00.sig] [] (λa r=>Q45 (Q00.of (aC a 0))) (λX=> .agg (Q02.cells X)) (λX=>[])
theorem Qax:Q04 pG Qud:=oT (.cons Qop (.cons Qj1 (.nil))) Tryz.func186 Tryz.call186 [] Qow 3
def Qeu(m:Q00):Tree Bool:=
.an (Q6i m) (.lv (Q0j m) λ(x0:Q02)=> .br (iand u32 x0.B4.a0 (1:Int)==(0:Int)) (.lf false) (.an (Qc3 m.Mem x0.Pc 4) (.lv (Q1 m.Mem x0.Pc 4) λ(x1:Int×Bool)=> .lv (Q1u x1.1) λ(x2:Q0h×Bool)=> .br x1.2 (.br x2.2 (.br (x2.1.Op==60) (.lf (x2.1.Imm==2)) (.lf false)) (.lf false)) (.lf false))))
def Qkd m:=(Qeu m).m
abbrev Qjs m:=(Qeu m).p
def Zdi:Q0b:=mT 116 [] true [.agg Q00.sig] [] (λa r=>Qeu (Q00.of (aC a 0))) (λX=> .bool X) (λX=>[])
theorem Qui:Q04 pG Zdi:=oT (.cons Qax (.cons Qnm (.cons Qr1 (.nil)))) Tryz.func116 Tryz.call116 [] [] 2
def Q3f(m:Q00):Tree Bool:=
.an (Qe5 m) (.lv (Q24 m) λ(x0:Bool)=> .br x0 (.lf false) (.an (Qjs m) (.lv (Qkd m) λ(x1:Bool)=> .lf x1)))
def Q54 m:=(Q3f m).m
abbrev Q59 m:=(Q3f m).p
def Qvm:Q0b:=mT 31 [] true [.agg Q00.sig] [] (λa r=>Q3f (Q00.of (aC a 0))) (λX=> .bool X) (λX=>[])
theorem Qj3:Q04 pG Qvm:=oT (.cons Quh (.cons Qui (.nil))) Tryz.func31 Tryz.call31 [] [] 2
def Q38(c:Q0c)(port:Int):Tree (Q0c×Int):=
let T1:Tree ((Q0c×Int)):= .br (port==0) (.cn (decide ((0:Int)<=(1:Int)/\1<=(c.D0.length:Int)/\(c.D0.length:Int)<=(c.D0.length:Int))) (.cn (decide ((0:Int)<=(0:Int)/\0<(c.D0.length:Int))) (.lf ({D0:=dC (dG (c.D0.length:Int)-dG 1) (dD (dG 1) c.D0)},wrap u32 (↑(fB (c.D0.getD (dG 0) (0:UInt8))):Int))))) (.br (port==1) (.lf (c,wrap u32 (c.D0.length:Int))) (.lf (c,0))); .br (port==0) (.br ((c.D0.length:Int)==(0:Int)) (.lf (c,4294967295)) T1) T1
def Q4t c port:=(Q38 c port).m
theorem Qu4(c:Q0c)(port:Int):(Q38 c port).p:=by
 unfold Tree.p Q38
 repeat'(first|exact trivial|refine w_br (λ_=> ?_) (λ_=> ?_)|refine w_cn ?_ ?_|refine w_an ?_ ?_|refine w_lv (λ_ _=> ?_)|refine w_nx ?_|refine w_lf ?_|refine And.intro ?_ ?_)
 all_goals(exact fin0)
def Qzk:Q0b:=mS 260 [] true [.agg Q0c.sig, .one (.int .i64)] [] (λa r=>Q38 (Q0c.of (aC a 0)) (argI a 1)) (λX=> .tup [.agg (Q0c.cells (X.1)), .int .u32 (X.2)]) (λX=>[])
theorem Qk3:Q04 pG Qzk:=oS (.nil) Tryz.func260 Tryz.call260 [] [] 2 (λ_ _ _=>by kernel_rfl) (λa r=>Qu4 (Q0c.of (aC a 0)) (argI a 1)) (λ_ X=>by kernel_rfl)
def Qe6(t:Q0i):Tree Int:=
.br t.D1 (.lf 1) (.lf 0)
def Qer t:=(Qe6 t).m
def Z41:Q0b:=mS 261 [] true [.agg Q0i.sig] [] (λa r=>Qe6 (Q0i.of (aC a 0))) (λX=> .int .u32 X) (λX=>[])
theorem Qp6:Q04 pG Z41:=oS (.nil) Tryz.func261 Tryz.call261 [] [] 2
def Qg3(d0:Q0d)(port:Int):Tree Int:=
.br (port==4) (.lf d0.C1) (.br (port==5) (.lf d0.Frame) (.br (port==6) (.lf (wrap u32 d0.B8)) (.lf 0)))
def Qhf d0 port:=(Qg3 d0 port).m
def Z9j:Q0b:=mS 262 [] true [.agg Q0d.sig, .one (.int .i64)] [] (λa r=>Qg3 (Q0d.of (aC a 0)) (argI a 1)) (λX=> .int .u32 X) (λX=>[])
theorem Qr5:Q04 pG Z9j:=oS (.nil) Tryz.func262 Tryz.call262 [] [] 2
def Qet(n:Q0n)(port:Int):Tree Int:=
.br (port==7) (.lf n.Frame) (.br (port==8) (.lf n.D9) (.br (port==9) (.br n.C5 (.br n.B6 (.lf (wrap u32 ((1:Int)+(2:Int)))) (.lf 1)) (.br n.B6 (.lf (wrap u32 ((0:Int)+(2:Int)))) (.lf 0))) (.lf 0)))
def Qgl n port:=(Qet n port).m
def Ze6:Q0b:=mS 263 [] true [.agg Q0n.sig, .one (.int .i64)] [] (λa r=>Qet (Q0n.of (aC a 0)) (argI a 1)) (λX=> .int .u32 X) (λX=>[])
theorem Qt6:Q04 pG Ze6:=oS (.nil) Tryz.func263 Tryz.call263 [] [] 2
def Q5j(b:Q07)(port:Int):Tree Int:=
.br (port==10) (.lf b.C6) (.br (port==11) (.lv (Qdq b) λ(x0:Int)=> .lf (wrap u32 x0)) (.lf 0))
def Q4v b port:=(Q5j b port).m
def Qyf:Q0b:=mS 264 [] true [.agg Q07.sig, .one (.int .i64)] [] (λa r=>Q5j (Q07.of (aC a 0)) (argI a 1)) (λX=> .int .u32 X) (λX=>[])
theorem Qkg:Q04 pG Qyf:=oS (.cons Qt5 (.nil)) Tryz.func264 Tryz.call264 [] [] 2
def Qf7(m:Q00)(port clock:Int):Tree (Int×Q00):=
.br (decide (port<=1)) (.lv (Q4t m.A2 port) λ(x0:Q0c×Int)=> .lf (x0.2,{B1:=m.B1,Mem:=m.Mem,A2:=x0.1,A7:=m.A7,A9:=m.A9,B9:=m.B9,A1:=m.A1,A4:=m.A4,A3:=m.A3,A6:=m.A6})) (.br (port==2) (.lf (clock,m)) (.br (port==3) (.lv (Qer m.A7) λ(x1:Int)=> .lf (x1,m)) (.br (decide (port<=6)) (.lv (Qhf m.A9 port) λ(x2:Int)=> .lf (x2,m)) (.br (decide (port<=9)) (.lv (Qgl m.B9 port) λ(x3:Int)=> .lf (x3,m)) (.lv (Q4v m.A1 port) λ(x4:Int)=> .lf (x4,m))))))
def Qb1 m port clock:=(Qf7 m port clock).m
def zC:Q0b:=mS 218 [true,false,false] true [.ptr 0, .one (.int .i64), .one (.int .u32)] [.box 43 49 (Q00.sigW (.row 1)), .arr 25 1 (.ints .u32)] (λa r=>Qf7 (Q00.ofW (r.getD 0 default).cs (rowL .u32 r 1)) (argI a 1) (argI a 2)) (λX=> .int .u32 (X.1)) (λX=>[⟨true,43,49, .gen [(Q00.cellsW (X.2) (.all 1))]⟩,⟨false,25,1, .ints .u32 (X.2).Mem⟩])
theorem Zmt:Q04 pG zC:=oS (.cons Qk3 (.cons Qp6 (.cons Qr5 (.cons Qt6 (.cons Qkg (.nil)))))) Tryz.func218 Tryz.call218 [.row 25 1 (.ints .u32)] [] 2
def Qk2(deadline:Int):Tree Q0i:=
.br (deadline==0) (.lf ({D2:=false,C4:=0,D1:=false})) (.lf ({D2:=true,C4:=deadline,D1:=false}))
def Qpl deadline:=(Qk2 deadline).m
def Zms:Q0b:=mS 265 [] true [.one (.int .u32)] [] (λa r=>Qk2 (argI a 0)) (λX=> .agg (Q0i.cells X)) (λX=>[])
theorem Z0p:Q04 pG Zms:=oS (.nil) Tryz.func265 Tryz.call265 [] [] 2
def Qsw(x n:Int)(z:(Int)×(List Int)):Prop:=0<=z.1/\(z.2.length:Int)=z.1/\(z.1<=n\/z.1=0)
def Qe0(x n:Int)(z:(Int)×(List Int)):Nat:=(n-z.1).toNat
def Qgr(x n:Int):Tree (List UInt8):=
.lp inferInstance (Qe0 x n (0,[])+1) ((rE (x:Int)/\rE (n:Int)/\True/\rE (0:Int)/\True)/\rE ([]:List Int)/\True) (0,[]) λ(v0:Int×List Int)=> .br (decide (v0.1<n)) (.cn (decide (0<=wrap u64 (wrap i64 (8*v0.1)))) (.cn (decide (1*(v0.2.length+1)<=140737488355328)) (.nx ((rE (x:Int)/\rE (n:Int)/\True/\rE ((wrap i64 (v0.1+1)):Int)/\True)/\rE ((v0.2++[wrap u8 (ishr u32 x (wrap u64 (wrap i64 (8*v0.1))))]):List Int)/\True) (Sum.inl (wrap i64 (v0.1+1),v0.2++[wrap u8 (ishr u32 x (wrap u64 (wrap i64 (8*v0.1))))]))))) (.lf (Sum.inr (bytesOf v0.2)))
def Z90 x n:=(Qgr x n).m
def Qjd(x n:Int):Prop:=
n<=1000000000000
theorem Zcf(x n:Int)(hw:Qjd x n):(Qgr x n).p:=by
 simp only[Qjd]at hw
 unfold Tree.p Qgr
 repeat'(first|refine w_lp (inv:=Qsw x n) (μ:=Qe0 x n) ?_ (cO _) (λ_ _=> ?_)|exact trivial|refine w_br (λ_=> ?_) (λ_=> ?_)|refine w_cn ?_ ?_|refine w_an ?_ ?_|refine w_lv (λ_ _=> ?_)|refine w_nx ?_|refine w_lf ?_|refine And.intro ?_ ?_)
 all_goals((try simp only[Qsw,Qe0]at*);exact fin0)
def Zil:LInv:={
 α:=(Int)×(List Int)
 F:=λst a=>([(0,(lk st 0)),(1,(lk st 1)),(5, .all 0),(6, .int i64 a.1)],[⟨false,5,1, .ints u8 a.2⟩])
 a0:=λst=>((lk st 6).toInt,(Q2f st.rows (rN st 5)))
 ex0:=λst=>[]++[(rX st 5 0)]}
def Zbs:List (Nat×LInv):=[(3,Zil)]
def Zn7:Q0b:=mkP 315 [] true [.one (.int .u32), .one (.int .i64)] [] (λa r=>Qjd (argI a 0) (argI a 1)) (λa r=>Z90 (argI a 0) (argI a 1)) (λX=> .str X) (λX=>[])
theorem Zhh:Q04 pG Zn7:=Q0k drawn Q0g (.nil) Tryz.func315 Tryz.call315 (λa r=>Qgr (argI a 0) (argI a 1)) [] Zbs 3 (hp:=λa r h=>Zcf (argI a 0) (argI a 1) h)
def Qik(m:List Int)(frame:Int)(z:(Int)×(List Int)):Nat:=(32-z.1).toNat
def Q8r(m:List Int)(frame:Int):Tree ((List UInt8)×Bool):=
.br (decide (frame<0)) (.lf ([],false)) (.lv (Q3o m) λ(x0:Int)=> .br (decide (frame>=x0)) (.lf ([],false)) (.lp inferInstance (Qik m frame (0,[])+1) ((((Els.Nil (Els.ints u32 m)\/rE (1:Nat))/\rE (m:List Int))/\rE (frame:Int)/\True/\rE (0:Int)/\True)/\rE ([]:List Int)/\True) (0,[]) λ(v0:Int×List Int)=> .br (decide (v0.1<32)) (.cn (bS 1 1&&bT 0 1&&decide (0<=wrap i64 (wrap i64 (frame*32)+v0.1)/\wrap i64 (wrap i64 (frame*32)+v0.1)<(m.length:Int))) (let E1:=m.getD (dG (wrap i64 (wrap i64 (frame*32)+v0.1))) 0; .an (Qjd E1 4) (.lv (Z90 E1 4) λ(x1:List UInt8)=> .cn (decide (1*(v0.2.length+dL (Q1f x1))<=140737488355328)) (.nx ((((Els.Nil (Els.ints u32 m)\/rE (1:Nat))/\rE (m:List Int))/\rE (frame:Int)/\True/\rE ((wrap i64 (v0.1+1)):Int)/\True)/\rE ((v0.2++Q1f x1):List Int)/\True) (Sum.inl (wrap i64 (v0.1+1),v0.2++Q1f x1)))))) (.lf (Sum.inr (bytesOf v0.2,true)))))
def Qig m frame:=(Q8r m frame).m
abbrev Qga m frame:=(Q8r m frame).p
def Zgd:LInv:={
 α:=(Int)×(List Int)
 F:=λst a=>([(0,(lk st 0)),(1,(lk st 1)),(6, .all 0),(7, .int i64 a.1)],[⟨false,5,1, .ints u8 a.2⟩])
 a0:=λst=>((lk st 7).toInt,(Q2f st.rows (rN st 6)))
 ex0:=λst=>[]++[(rX st 6 0)]}
def Z4s:List (Nat×LInv):=[(5,Zgd)]
def Zit:Q0b:=mT 304 [] true [.one (.ints .u32), .one (.int .i64)] [] (λa r=>Q8r (argL .u32 a 0) (argI a 1)) (λX=> .tup [.str (X.1), .bool (X.2)]) (λX=>[])
theorem Qxy:Q04 pG Zit:=oT (.cons Qc6 (.cons Zhh (.nil))) Tryz.func304 Tryz.call304 [] Z4s 3
def Qrd(d0:Q0d)(at0:Int):Tree (Q09×Bool):=
.br (d0.B8 !=1) (.lf ({C3:=0,At:=0,C1:=0,C9:=[]},false)) (.br (d0.D4==1) (.lf ({C3:=3,At:=at0,C1:=d0.B5,C9:=[]},true)) (.br (d0.D4==2) (.lf ({C3:=4,At:=at0,C1:=d0.B5,C9:=d0.B7},true)) (.lf ({C3:=0,At:=0,C1:=0,C9:=[]},false))))
def Qj4 d0 at0:=(Qrd d0 at0).m
def Z48:Q0b:=mS 305 [] true [.agg Q0d.sig, .one (.int .u64)] [] (λa r=>Qrd (Q0d.of (aC a 0)) (argI a 1)) (λX=> .tup [.agg (Q09.cells (X.1)), .bool (X.2)]) (λX=>[])
theorem Z0u:Q04 pG Z48:=oS (.nil) Tryz.func305 Tryz.call305 [] [] 2
def Q4s(d0:Q0d)(m:List Int)(port v at0:Int):Tree (Q0d×(List Q09)):=
.br (port==4) (.lf ({Blocks:=d0.Blocks,C1:=v,Frame:=d0.Frame,B8:=d0.B8,D4:=d0.D4,B5:=d0.B5,B2:=d0.B2,B7:=d0.B7},[])) (.br (port==5) (.lf ({Blocks:=d0.Blocks,C1:=d0.C1,Frame:=v,B8:=d0.B8,D4:=d0.D4,B5:=d0.B5,B2:=d0.B2,B7:=d0.B7},[])) (.br (port !=6) (.lf (d0,[])) (let T1:Tree ((Q0d×(List Q09))):= .br (d0.B8==0) (let T2:Tree ((Q0d×(List Q09))):= .lf ({Blocks:=d0.Blocks,C1:=d0.C1,Frame:=d0.Frame,B8:=3,D4:=d0.D4,B5:=d0.B5,B2:=d0.B2,B7:=d0.B7},[]); .br (decide (d0.C1>=d0.Blocks)) T2 (.lv (Q22 m d0.Frame) λ(x0:Bool)=> .br (!x0) T2 (.br (v==2) (.an (Qga m (wrap i64 d0.Frame)) (.lv (Qig m (wrap i64 d0.Frame)) λ(x1:List UInt8×Bool)=>let E4:=({Blocks:=d0.Blocks,C1:=d0.C1,Frame:=d0.Frame,B8:=1,D4:=wrap i64 v,B5:=d0.C1,B2:=d0.Frame,B7:=x1.1}:Q0d); .lv (Qj4 E4 at0) λ(x2:Q09×Bool)=> .lf (E4,[x2.1]))) (let E5:=({Blocks:=d0.Blocks,C1:=d0.C1,Frame:=d0.Frame,B8:=1,D4:=wrap i64 v,B5:=d0.C1,B2:=d0.Frame,B7:=[]}:Q0d); .lv (Qj4 E5 at0) λ(x3:Q09×Bool)=> .lf (E5,[x3.1]))))) (.lf (d0,[])); .br (v==0) (let T3:Tree ((Q0d×(List Q09))):= .lf ({Blocks:=d0.Blocks,C1:=d0.C1,Frame:=d0.Frame,B8:=0,D4:=d0.D4,B5:=d0.B5,B2:=d0.B2,B7:=d0.B7},[]); .br (d0.B8==2) T3 (.br (d0.B8==3) T3 (.br (v==1) T1 (.br (v==2) T1 (.lf (d0,[])))))) (.br (v==1) T1 (.br (v==2) T1 (.lf (d0,[])))))))
def Qbo d0 m port v at0:=(Q4s d0 m port v at0).m
abbrev Qfq d0 m port v at0:=(Q4s d0 m port v at0).p
def Z4d:Q0b:=mT 266 [] true [.agg Q0d.sig, .one (.ints .u32), .one (.int .i64), .one (.int .u32), .one (.int .u64)] [] (λa r=>Q4s (Q0d.of (aC a 0)) (argL .u32 a 1) (argI a 2) (argI a 3) (argI a 4)) (λX=> .tup [.agg (Q0d.cells (X.1)), .sl 4 (.recs .apiOutput (X.2)) true]) (λX=>[])
theorem Qnh:Q04 pG Z4d:=oT (.cons Qf (.cons Qxy (.cons Z0u (.nil)))) Tryz.func266 Tryz.call266 [.sl (.recs .apiOutput) true] [] 2
def Q9k(n:Q0n)(m:List Int)(port v at0:Int):Tree (Q0n×(List Q09)):=
.br (port==7) (.lf ({Frame:=v,D8:=n.D8,C5:=n.C5,C0:=n.C0,B6:=n.B6,D9:=n.D9},[])) (.br (port==8) (.lf ({Frame:=n.Frame,D8:=v,C5:=n.C5,C0:=n.C0,B6:=n.B6,D9:=n.D9},[])) (.br (port !=9) (.lf (n,[])) (.br (v==0) (.lf ({Frame:=n.Frame,D8:=n.D8,C5:=n.C5,C0:=n.C0,B6:=false,D9:=0},[])) (let T1:Tree ((Q0n×(List Q09))):= .br (v==2) (.lv (Q22 m n.Frame) λ(x2:Bool)=> .br x2 (.br (!n.C5) (.br (!n.B6) (.lf ({Frame:=n.Frame,D8:=n.D8,C5:=true,C0:=n.Frame,B6:=n.B6,D9:=n.D9},[])) (.lf (n,[]))) (.lf (n,[]))) (.lf (n,[]))) (.lf (n,[])); .br (v==1) (.br (decide (n.D8>=1)) (.br (decide (n.D8<=128)) (.lv (Q22 m n.Frame) λ(x0:Bool)=> .br x0 (.an (Qga m (wrap i64 n.Frame)) (.lv (Qig m (wrap i64 n.Frame)) λ(x1:List UInt8×Bool)=> .cn (decide ((0:Int)<=(0:Int)/\0<=n.D8/\n.D8<=(x1.1.length:Int))) (.lf (n,[{C3:=2,At:=at0,C1:=0,C9:=dC (dG n.D8-dG 0) (dD (dG 0) x1.1)}])))) T1) T1) T1) T1))))
def Qhx n m port v at0:=(Q9k n m port v at0).m
abbrev Qha n m port v at0:=(Q9k n m port v at0).p
def Zav:Q0b:=mT 267 [] true [.agg Q0n.sig, .one (.ints .u32), .one (.int .i64), .one (.int .u32), .one (.int .u64)] [] (λa r=>Q9k (Q0n.of (aC a 0)) (argL .u32 a 1) (argI a 2) (argI a 3) (argI a 4)) (λX=> .tup [.agg (Q0n.cells (X.1)), .sl 4 (.recs .apiOutput (X.2)) true]) (λX=>[])
theorem Qqr:Q04 pG Zav:=oT (.cons Qf (.cons Qxy (.nil))) Tryz.func267 Tryz.call267 [.sl (.recs .apiOutput) true] [] 2
def Qh8(b:Q07)(m:List Int)(port v:Int)(z:(Int)×(List Int)):Nat:=(32-z.1).toNat
def Q4e(b:Q07)(m:List Int)(port v:Int):Tree (Q07×(List Int)):=
let T1:Tree ((Q07×(List Int))):= .br (port==11) (.br (decide (v<32)) (.cn (decide (0<=v)) (.lf ({C6:=b.C6,C2:=Qg7 u32 b.C2 (ishl u32 1 v)},m))) (.lf (b,m))) (.lf (b,m)); .br (port==10) (.lv (Q22 m v) λ(x0:Bool)=> .br x0 (.cn (decide (0<=v)) (.br (iand u32 (ishr u32 b.C2 v) (1:Int)==(0:Int)) (.cn (decide (0<=v)) (.lp inferInstance (Qh8 b m port v (0,m)+1) ((True/\rE (v:Int)/\rZ/\rZ/\rE (0:Int)/\True)/\rE (m:List Int)/\(rE b.C6/\rE ((ior u32 b.C2 (ishl u32 1 v)):Int)/\True)/\(rE (0:Int)/\rE (0:Int)/\True)/\True) (0,m) λ(v0:Int×List Int)=> .br (decide (v0.1<32)) (let E2:=wrap i64 (wrap i64 v*32)+v0.1; .cn (bS 1 1&&bT 0 1&&decide (0<=wrap i64 E2/\wrap i64 E2<(v0.2.length:Int))) (.nx ((True/\rE (v:Int)/\rZ/\rZ/\rE ((wrap i64 (v0.1+1)):Int)/\True)/\rE ((dH v0.2 (dG (wrap i64 (wrap i64 (wrap i64 v*32)+v0.1))) 0):List Int)/\(rE b.C6/\rE ((ior u32 b.C2 (ishl u32 1 v)):Int)/\True)/\(rE (0:Int)/\rE (0:Int)/\True)/\True) (Sum.inl (wrap i64 (v0.1+1),dH v0.2 (dG (wrap i64 E2)) 0)))) (.lf (Sum.inr ({C6:=b.C6,C2:=ior u32 b.C2 (ishl u32 1 v)},v0.2))))) T1)) T1) T1
def Q6 b m port v:=(Q4e b m port v).m
abbrev Ql9 b m port v:=(Q4e b m port v).p
def Zdb:LInv:={
 α:=(Int)×(List Int)
 F:=λst a=>([(1, .all 0),(3,(lk st 3)),(4, .ptr 1 0 0),(8, .ptr 2 0 0),(9, .int i64 a.1)],[⟨false,25,1, .ints u32 a.2⟩,⟨true,40,2, .gen [[(cT st 4 0),(cT st 4 1)]]⟩,⟨true,40,2, .gen [[(cT st 8 0),(cT st 8 1)]]⟩])
 a0:=λst=>((lk st 9).toInt,(Q2f st.rows 0))
 ex0:=λst=>[0]++[(rX st 4 1),(rX st 8 2)]}
def Z61:List (Nat×LInv):=[(4,Zdb)]
def Zjj:Q0b:=mT 268 [false,true,false,false] true [.agg Q07.sig, .one (.row 0), .one (.int .i64), .one (.int .u32)] [.arr 25 1 (.ints .u32)] (λa r=>Q4e (Q07.of (aC a 0)) (rowL .u32 r 0) (argI a 2) (argI a 3)) (λX=> .agg (Q07.cells (X.1))) (λX=>[⟨false,25,1, .ints .u32 (X.2)⟩])
theorem Qy2:Q04 pG Zjj:=oT (.cons Qf (.nil)) Tryz.func268 Tryz.call268 [] Z61 3
def Q9z(m:Q00)(port v:Int):Tree ((List Q09)×Q00):=
.br (port==0) (.lf ([{C3:=1,At:=m.A4,C1:=0,C9:=[(λ(n:Int)=>fD n.toNat) (wrap u8 v)]}],m)) (.br (decide (port<=2)) (.lf ([],m)) (.br (port==3) (.lv (Qpl v) λ(x0:Q0i)=> .lf ([],{B1:=m.B1,Mem:=m.Mem,A2:=m.A2,A7:=x0,A9:=m.A9,B9:=m.B9,A1:=m.A1,A4:=m.A4,A3:=m.A3,A6:=m.A6})) (.br (decide (port<=6)) (.an (Qfq m.A9 m.Mem port v m.A4) (.lv (Qbo m.A9 m.Mem port v m.A4) λ(x1:Q0d×List Q09)=> .lf (x1.2,{B1:=m.B1,Mem:=m.Mem,A2:=m.A2,A7:=m.A7,A9:=x1.1,B9:=m.B9,A1:=m.A1,A4:=m.A4,A3:=m.A3,A6:=m.A6}))) (.br (decide (port<=9)) (.an (Qha m.B9 m.Mem port v m.A4) (.lv (Qhx m.B9 m.Mem port v m.A4) λ(x2:Q0n×List Q09)=> .lf (x2.2,{B1:=m.B1,Mem:=m.Mem,A2:=m.A2,A7:=m.A7,A9:=m.A9,B9:=x2.1,A1:=m.A1,A4:=m.A4,A3:=m.A3,A6:=m.A6}))) (.an (Ql9 m.A1 m.Mem port v) (.lv (Q6 m.A1 m.Mem port v) λ(x3:Q07×List Int)=> .lf ([],{B1:=m.B1,Mem:=x3.2,A2:=m.A2,A7:=m.A7,A9:=m.A9,B9:=m.B9,A1:=x3.1,A4:=m.A4,A3:=m.A3,A6:=m.A6})))))))
def Q8j m port v:=(Q9z m port v).m
abbrev Qwy m port v:=(Q9z m port v).p
def Zn3:Q0b:=mT 220 [true,false,false] true [.ptr 0, .one (.int .i64), .one (.int .u32)] [.box 43 49 (Q00.sigW (.row 1)), .arr 25 1 (.ints .u32)] (λa r=>Q9z (Q00.ofW (r.getD 0 default).cs (rowL .u32 r 1)) (argI a 1) (argI a 2)) (λX=> .sl 4 (.recs .apiOutput (X.1)) true) (λX=>[⟨true,43,49, .gen [(Q00.cellsW (X.2) (.all 1))]⟩,⟨false,25,1, .ints .u32 (X.2).Mem⟩])
theorem Zhd:Q04 pG Zn3:=oT (.cons Z0p (.cons Qnh (.cons Qqr (.cons Qy2 (.nil))))) Tryz.func220 Tryz.call220 [.sl (.recs .apiOutput) true, .row 25 1 (.ints .u32)] [] 2
def Q8(m:Q00)(clock:Int):Tree ((List Q09)×Q00):=
.an (Q6i m) (.lv (Q0j m) λ(x0:Q02)=> .an (Qru x0 m.Mem) (.lv (Q68 x0 m.Mem) λ(x1:Q02×Q0w×List Int)=>let E1:=({B1:=x1.1,Mem:=x1.2.2,A2:=m.A2,A7:=m.A7,A9:=m.A9,B9:=m.B9,A1:=m.A1,A4:=m.A4,A3:=false,A6:=m.A6}:Q00); .br (x1.2.1.C3==1) (.lv (Qb1 E1 x1.2.1.C7 clock) λ(x2:Int×Q00)=> .an (Q2p x2.2.B1 x1.2.1.D7 x2.1) (.lv (Q1q x2.2.B1 x1.2.1.D7 x2.1) λ(x3:Q02)=> .lf ([],{B1:=x3,Mem:=x2.2.Mem,A2:=x2.2.A2,A7:=x2.2.A7,A9:=x2.2.A9,B9:=x2.2.B9,A1:=x2.2.A1,A4:=wrap u64 (x2.2.A4+1),A3:=x2.2.A3,A6:=x2.2.A6}))) (.br (x1.2.1.C3==2) (.an (Qwy E1 x1.2.1.C7 x1.2.1.Value) (.lv (Q8j E1 x1.2.1.C7 x1.2.1.Value) λ(x4:List Q09×Q00)=> .lf (x4.1,{B1:=x4.2.B1,Mem:=x4.2.Mem,A2:=x4.2.A2,A7:=x4.2.A7,A9:=x4.2.A9,B9:=x4.2.B9,A1:=x4.2.A1,A4:=wrap u64 (x4.2.A4+1),A3:=x4.2.A3,A6:=x4.2.A6}))) (.br (x1.2.1.C3==3) (.lf ([],{B1:=x1.1,Mem:=x1.2.2,A2:=m.A2,A7:=m.A7,A9:=m.A9,B9:=m.B9,A1:=m.A1,A4:=wrap u64 (m.A4+1),A3:=true,A6:=m.A6})) (.br (x1.2.1.C3==4) (.lf ([],{B1:=x1.1,Mem:=x1.2.2,A2:=m.A2,A7:=m.A7,A9:=m.A9,B9:=m.B9,A1:=m.A1,A4:=wrap u64 (m.A4+1),A3:=false,A6:=true})) (.lf ([],{B1:=x1.1,Mem:=x1.2.2,A2:=m.A2,A7:=m.A7,A9:=m.A9,B9:=m.B9,A1:=m.A1,A4:=wrap u64 (m.A4+1),A3:=false,A6:=m.A6})))))))
def Q10 m clock:=(Q8 m clock).m
abbrev Qme m clock:=(Q8 m clock).p
def Z5q:Q0b:=mT 160 [true,false] true [.ptr 0, .one (.int .u32)] [.box 43 49 (Q00.sigW (.row 1)), .arr 25 1 (.ints .u32)] (λa r=>Q8 (Q00.ofW (r.getD 0 default).cs (rowL .u32 r 1)) (argI a 1)) (λX=> .sl 4 (.recs .apiOutput (X.1)) true) (λX=>[⟨true,43,49, .gen [(Q00.cellsW (X.2) (.all 1))]⟩,⟨false,25,1, .ints .u32 (X.2).Mem⟩])
theorem Z2e:Q04 pG Z5q:=oT (.cons Qax (.cons Z7a (.cons Zmt (.cons Qdn (.cons Zhd (.nil)))))) Tryz.func160 Tryz.call160 [.sl (.recs .apiOutput) true, .row 25 1 (.ints .u32)] [] 2
end
noncomputable section
instance sumInhZg {α β:Type} [Inhabited β]:Inhabited (α⊕β):=⟨.inr default⟩
def Qhi(m:Q01)(port clock:Int):Tree (Int×Q01):=
.br (decide (port<=1)) (.lv (Q4t m.A0.A2 port) λ(x0:Q0c×Int)=> .lf (x0.2,{A0:={B1:=m.A0.B1,Mem:=m.A0.Mem,A2:=x0.1,A7:=m.A0.A7,A9:=m.A0.A9,B9:=m.A0.B9,A1:=m.A0.A1,A4:=m.A0.A4,A3:=m.A0.A3,A6:=m.A0.A6},B3:=m.B3,C8:=m.C8,B0:=m.B0})) (.br (port==2) (.lf (clock,m)) (.br (port==3) (.lv (Qer m.A0.A7) λ(x1:Int)=> .lf (x1,m)) (.br (decide (port<=6)) (.lv (Qhf m.A0.A9 port) λ(x2:Int)=> .lf (x2,m)) (.br (decide (port<=9)) (.lv (Qgl m.A0.B9 port) λ(x3:Int)=> .lf (x3,m)) (.lv (Q4v m.A0.A1 port) λ(x4:Int)=> .lf (x4,m))))))
def Qt8 m port clock:=(Qhi m port clock).m
def Zhp:Q0b:=mS 218 [true,false,false] true [.ptr 0, .one (.int .i64), .one (.int .u32)] [.box 96 52 (Q01.sigW (.row 1) (.row 2) (.row 3)), .arr 25 1 (.ints .u32), .arr 126 4 (.recs .apiEntry), .arr 66 3 (.recs .apiEvent)] (λa r=>Qhi (Q01.ofW (r.getD 0 default).cs (rowL .u32 r 1) (rowR .apiEntry r 2) (rowR .apiEvent r 3)) (argI a 1) (argI a 2)) (λX=> .int .u32 (X.1)) (λX=>[⟨true,96,52, .gen [(Q01.cellsW (X.2) (.all 1) (.all 2) (.all 3))]⟩,⟨false,25,1, .ints .u32 (X.2).A0.Mem⟩,⟨false,126,4, .recs .apiEntry (X.2).C8⟩,⟨false,66,3, .recs .apiEvent (X.2).B0⟩])
theorem Zdw:Q04 pG Zhp:=oS (.cons Qk3 (.cons Qp6 (.cons Qr5 (.cons Qt6 (.cons Qkg (.nil)))))) Tryz.func218 Tryz.call218 [.row 25 1 (.ints .u32), .row 126 4 (.recs .apiEntry), .row 66 3 (.recs .apiEvent)] [] 2
def Qbh(m:Q01)(port v:Int):Tree ((List Q09)×Q01):=
.br (port==0) (.lf ([{C3:=1,At:=m.A0.A4,C1:=0,C9:=[(λ(n:Int)=>fD n.toNat) (wrap u8 v)]}],m)) (.br (decide (port<=2)) (.lf ([],m)) (.br (port==3) (.lv (Qpl v) λ(x0:Q0i)=> .lf ([],{A0:={B1:=m.A0.B1,Mem:=m.A0.Mem,A2:=m.A0.A2,A7:=x0,A9:=m.A0.A9,B9:=m.A0.B9,A1:=m.A0.A1,A4:=m.A0.A4,A3:=m.A0.A3,A6:=m.A0.A6},B3:=m.B3,C8:=m.C8,B0:=m.B0})) (.br (decide (port<=6)) (.an (Qfq m.A0.A9 m.A0.Mem port v m.A0.A4) (.lv (Qbo m.A0.A9 m.A0.Mem port v m.A0.A4) λ(x1:Q0d×List Q09)=> .lf (x1.2,{A0:={B1:=m.A0.B1,Mem:=m.A0.Mem,A2:=m.A0.A2,A7:=m.A0.A7,A9:=x1.1,B9:=m.A0.B9,A1:=m.A0.A1,A4:=m.A0.A4,A3:=m.A0.A3,A6:=m.A0.A6},B3:=m.B3,C8:=m.C8,B0:=m.B0}))) (.br (decide (port<=9)) (.an (Qha m.A0.B9 m.A0.Mem port v m.A0.A4) (.lv (Qhx m.A0.B9 m.A0.Mem port v m.A0.A4) λ(x2:Q0n×List Q09)=> .lf (x2.2,{A0:={B1:=m.A0.B1,Mem:=m.A0.Mem,A2:=m.A0.A2,A7:=m.A0.A7,A9:=m.A0.A9,B9:=x2.1,A1:=m.A0.A1,A4:=m.A0.A4,A3:=m.A0.A3,A6:=m.A0.A6},B3:=m.B3,C8:=m.C8,B0:=m.B0}))) (.an (Ql9 m.A0.A1 m.A0.Mem port v) (.lv (Q6 m.A0.A1 m.A0.Mem port v) λ(x3:Q07×List Int)=> .lf ([],{A0:={B1:=m.A0.B1,Mem:=x3.2,A2:=m.A0.A2,A7:=m.A0.A7,A9:=m.A0.A9,B9:=m.A0.B9,A1:=x3.1,A4:=m.A0.A4,A3:=m.A0.A3,A6:=m.A0.A6},B3:=m.B3,C8:=m.C8,B0:=m.B0})))))))
def Qpv m port v:=(Qbh m port v).m
abbrev Qr m port v:=(Qbh m port v).p
def Zfn:Q0b:=mT 220 [true,false,false] true [.ptr 0, .one (.int .i64), .one (.int .u32)] [.box 96 52 (Q01.sigW (.row 1) (.row 2) (.row 3)), .arr 25 1 (.ints .u32), .arr 126 4 (.recs .apiEntry), .arr 66 3 (.recs .apiEvent)] (λa r=>Qbh (Q01.ofW (r.getD 0 default).cs (rowL .u32 r 1) (rowR .apiEntry r 2) (rowR .apiEvent r 3)) (argI a 1) (argI a 2)) (λX=> .sl 4 (.recs .apiOutput (X.1)) true) (λX=>[⟨true,96,52, .gen [(Q01.cellsW (X.2) (.all 1) (.all 2) (.all 3))]⟩,⟨false,25,1, .ints .u32 (X.2).A0.Mem⟩,⟨false,126,4, .recs .apiEntry (X.2).C8⟩,⟨false,66,3, .recs .apiEvent (X.2).B0⟩])
theorem Za2:Q04 pG Zfn:=oT (.cons Z0p (.cons Qnh (.cons Qqr (.cons Qy2 (.nil))))) Tryz.func220 Tryz.call220 [.sl (.recs .apiOutput) true, .row 25 1 (.ints .u32), .row 126 4 (.recs .apiEntry), .row 66 3 (.recs .apiEvent)] [] 2
def Q5m(m:Q01)(clock:Int):Tree ((List Q09)×Q01):=
.an (Q6i m.A0) (.lv (Q0j m.A0) λ(x0:Q02)=> .an (Qru x0 m.A0.Mem) (.lv (Q68 x0 m.A0.Mem) λ(x1:Q02×Q0w×List Int)=>let E1:=({B1:=x1.1,Mem:=x1.2.2,A2:=m.A0.A2,A7:=m.A0.A7,A9:=m.A0.A9,B9:=m.A0.B9,A1:=m.A0.A1,A4:=m.A0.A4,A3:=false,A6:=m.A0.A6}:Q00); .br (x1.2.1.C3==1) (.lv (Qt8 {A0:=E1,B3:=m.B3,C8:=m.C8,B0:=m.B0} x1.2.1.C7 clock) λ(x2:Int×Q01)=> .an (Q2p x2.2.A0.B1 x1.2.1.D7 x2.1) (.lv (Q1q x2.2.A0.B1 x1.2.1.D7 x2.1) λ(x3:Q02)=> .lf ([],{A0:={B1:=x3,Mem:=x2.2.A0.Mem,A2:=x2.2.A0.A2,A7:=x2.2.A0.A7,A9:=x2.2.A0.A9,B9:=x2.2.A0.B9,A1:=x2.2.A0.A1,A4:=wrap u64 (x2.2.A0.A4+1),A3:=x2.2.A0.A3,A6:=x2.2.A0.A6},B3:=x2.2.B3,C8:=x2.2.C8,B0:=x2.2.B0}))) (.br (x1.2.1.C3==2) (.an (Qr {A0:=E1,B3:=m.B3,C8:=m.C8,B0:=m.B0} x1.2.1.C7 x1.2.1.Value) (.lv (Qpv {A0:=E1,B3:=m.B3,C8:=m.C8,B0:=m.B0} x1.2.1.C7 x1.2.1.Value) λ(x4:List Q09×Q01)=> .lf (x4.1,{A0:={B1:=x4.2.A0.B1,Mem:=x4.2.A0.Mem,A2:=x4.2.A0.A2,A7:=x4.2.A0.A7,A9:=x4.2.A0.A9,B9:=x4.2.A0.B9,A1:=x4.2.A0.A1,A4:=wrap u64 (x4.2.A0.A4+1),A3:=x4.2.A0.A3,A6:=x4.2.A0.A6},B3:=x4.2.B3,C8:=x4.2.C8,B0:=x4.2.B0}))) (.br (x1.2.1.C3==3) (.lf ([],{A0:={B1:=x1.1,Mem:=x1.2.2,A2:=m.A0.A2,A7:=m.A0.A7,A9:=m.A0.A9,B9:=m.A0.B9,A1:=m.A0.A1,A4:=wrap u64 (m.A0.A4+1),A3:=true,A6:=m.A0.A6},B3:=m.B3,C8:=m.C8,B0:=m.B0})) (.br (x1.2.1.C3==4) (.lf ([],{A0:={B1:=x1.1,Mem:=x1.2.2,A2:=m.A0.A2,A7:=m.A0.A7,A9:=m.A0.A9,B9:=m.A0.B9,A1:=m.A0.A1,A4:=wrap u64 (m.A0.A4+1),A3:=false,A6:=true},B3:=m.B3,C8:=m.C8,B0:=m.B0})) (.lf ([],{A0:={B1:=x1.1,Mem:=x1.2.2,A2:=m.A0.A2,A7:=m.A0.A7,A9:=m.A0.A9,B9:=m.A0.B9,A1:=m.A0.A1,A4:=wrap u64 (m.A0.A4+1),A3:=false,A6:=m.A0.A6},B3:=m.B3,C8:=m.C8,B0:=m.B0})))))))
def Q6c m clock:=(Q5m m clock).m
abbrev Q5s m clock:=(Q5m m clock).p
def Qz:Q0b:=mT 160 [true,false] true [.ptr 0, .one (.int .u32)] [.box 96 52 (Q01.sigW (.row 1) (.row 2) (.row 3)), .arr 25 1 (.ints .u32), .arr 126 4 (.recs .apiEntry), .arr 66 3 (.recs .apiEvent)] (λa r=>Q5m (Q01.ofW (r.getD 0 default).cs (rowL .u32 r 1) (rowR .apiEntry r 2) (rowR .apiEvent r 3)) (argI a 1)) (λX=> .sl 4 (.recs .apiOutput (X.1)) true) (λX=>[⟨true,96,52, .gen [(Q01.cellsW (X.2) (.all 1) (.all 2) (.all 3))]⟩,⟨false,25,1, .ints .u32 (X.2).A0.Mem⟩,⟨false,126,4, .recs .apiEntry (X.2).C8⟩,⟨false,66,3, .recs .apiEvent (X.2).B0⟩])
theorem Qvk:Q04 pG Qz:=oT (.cons Qax (.cons Z7a (.cons Zdw (.cons Qdn (.cons Za2 (.nil)))))) Tryz.func160 Tryz.call160 [.sl (.recs .apiOutput) true, .row 25 1 (.ints .u32), .row 126 4 (.recs .apiEntry), .row 66 3 (.recs .apiEvent)] [] 2
def Qb4(r:Q01)(steps clock:Int)(z:(Int)×Q01):Nat:=(z.2.B0.length-z.1).toNat
def Q5c(r:Q01)(steps clock:Int)(v0:Int×Q01)(z:(Int)×Q01×(List Q09)):Nat:=(4000-z.1).toNat
def Q52(r:Q01)(steps clock:Int):Tree (Q01×(List Q09)):=
.an (Qla r) (.lv (Qo0 r) λ(x0:Q01)=> .lv (Q8e x0.A0) λ(x1:Bool)=> .br (!x1) (.lf (x0,[])) (.lp inferInstance (Qb4 r steps clock (0,{A0:=x0.A0,B3:=if clock>x0.B3 then clock else x0.B3,C8:=x0.C8,B0:=x0.B0})+1) ((rE (steps:Int)/\rZ/\rZ/\rE (0:Int)/\True)/\(mE x0.A0 True (rE ((if clock>x0.B3 then clock else x0.B3):Int)/\True/\True/\True))/\rE x0.A0.Mem/\rE x0.C8/\rE x0.B0/\(mE zM True (rE (0:Int)/\True/\True/\True))/\True) (0,{A0:=x0.A0,B3:=if clock>x0.B3 then clock else x0.B3,C8:=x0.C8,B0:=x0.B0}) λ(v0:Int×Q01)=> .br (decide (v0.1<(v0.2.B0.length:Int))) (.cn (bS 3 3&&bT 0 3&&decide (0<=v0.1/\v0.1<(v0.2.B0.length:Int))) (let E2:=v0.2.B0.getD v0.1.toNat (RK.dflt RK.apiEvent); .an (Qh1 v0.2 E2) (.lv (Qgu v0.2 E2) λ(x2:Q01)=> .nx ((rE (steps:Int)/\rZ/\rZ/\rE ((wrap i64 (v0.1+1)):Int)/\True)/\(mE x2.A0 True (rE x2.B3/\True/\True/\True))/\rE x2.A0.Mem/\rE x2.C8/\rE x2.B0/\(mE zM True (rE (0:Int)/\True/\True/\True))/\True) (Sum.inl (wrap i64 (v0.1+1),x2))))) (.lp inferInstance (Q5c r steps clock v0 (0,{A0:=v0.2.A0,B3:=v0.2.B3,C8:=v0.2.C8,B0:=[]},[])+1) ((rE (steps:Int)/\rZ/\rZ/\True/\rE (0:Int)/\True)/\(mE v0.2.A0 True (rE v0.2.B3/\True/\True/\True))/\rE v0.2.A0.Mem/\rE v0.2.C8/\rE ([]:List (RK.T RK.apiEvent))/\(mE zM True (rE (0:Int)/\True/\True/\True))/\rE ([]:List (RK.T RK.apiOutput))/\True) (0,{A0:=v0.2.A0,B3:=v0.2.B3,C8:=v0.2.C8,B0:=[]},[]) λ(v1:Int×Q01×List Q09)=> .lv (Q1b steps) λ(x3:Int)=> .br (decide (v1.1<x3)) (.lv (Qm7 v1.2.1.A0.A7 v1.2.1.B3) λ(x4:Bool)=> .br x4 (.an (Qh1 v1.2.1 {C3:=2,N:=0,C9:=[]}) (.lv (Qgu v1.2.1 {C3:=2,N:=0,C9:=[]}) λ(x5:Q01)=> .an (Qe5 x5.A0) (.lv (Q24 x5.A0) λ(x6:Bool)=> .br x6 (.lf (Sum.inr (Sum.inr (x5,v1.2.2)))) (.an (Q59 x5.A0) (.lv (Q54 x5.A0) λ(x7:Bool)=> .br x7 (.cn (decide (40*(x5.C8.length+1)<=140737488355328)) (let E3:=({At:=x5.A0.A4,Event:={C3:=1,N:=x5.B3,C9:=[]}}:Q20); .an (Q5s {A0:=x5.A0,B3:=x5.B3,C8:=x5.C8++[E3],B0:=x5.B0} x5.B3) (.lv (Q6c {A0:=x5.A0,B3:=x5.B3,C8:=x5.C8++[E3],B0:=x5.B0} x5.B3) λ(x8:List Q09×Q01)=> .cn (decide (40*(v1.2.2.length+x8.1.length)<=140737488355328)) (.nx ((rE (steps:Int)/\rZ/\rZ/\True/\rE ((wrap i64 (v1.1+1)):Int)/\True)/\(mE x8.2.A0 True (rE ((wrap u32 (x8.2.B3+1)):Int)/\True/\True/\True))/\rE x8.2.A0.Mem/\rE x8.2.C8/\rE x8.2.B0/\(mE zM True (rE (0:Int)/\True/\True/\True))/\rE ((v1.2.2++x8.1):List (RK.T RK.apiOutput))/\True) (Sum.inl (wrap i64 (v1.1+1),{A0:=x8.2.A0,B3:=wrap u32 (x8.2.B3+1),C8:=x8.2.C8,B0:=x8.2.B0},v1.2.2++x8.1)))))) (.an (Q5s x5 x5.B3) (.lv (Q6c x5 x5.B3) λ(x9:List Q09×Q01)=> .cn (decide (40*(v1.2.2.length+x9.1.length)<=140737488355328)) (.nx ((rE (steps:Int)/\rZ/\rZ/\True/\rE ((wrap i64 (v1.1+1)):Int)/\True)/\(mE x9.2.A0 True (rE ((wrap u32 (x9.2.B3+1)):Int)/\True/\True/\True))/\rE x9.2.A0.Mem/\rE x9.2.C8/\rE x9.2.B0/\(mE zM True (rE (0:Int)/\True/\True/\True))/\rE ((v1.2.2++x9.1):List (RK.T RK.apiOutput))/\True) (Sum.inl (wrap i64 (v1.1+1),{A0:=x9.2.A0,B3:=wrap u32 (x9.2.B3+1),C8:=x9.2.C8,B0:=x9.2.B0},v1.2.2++x9.1)))))))))) (.an (Qe5 v1.2.1.A0) (.lv (Q24 v1.2.1.A0) λ(x10:Bool)=> .br x10 (.lf (Sum.inr (Sum.inr (v1.2.1,v1.2.2)))) (.an (Q59 v1.2.1.A0) (.lv (Q54 v1.2.1.A0) λ(x11:Bool)=> .br x11 (.cn (decide (40*(v1.2.1.C8.length+1)<=140737488355328)) (let E1:=({At:=v1.2.1.A0.A4,Event:={C3:=1,N:=v1.2.1.B3,C9:=[]}}:Q20); .an (Q5s {A0:=v1.2.1.A0,B3:=v1.2.1.B3,C8:=v1.2.1.C8++[E1],B0:=v1.2.1.B0} v1.2.1.B3) (.lv (Q6c {A0:=v1.2.1.A0,B3:=v1.2.1.B3,C8:=v1.2.1.C8++[E1],B0:=v1.2.1.B0} v1.2.1.B3) λ(x12:List Q09×Q01)=> .cn (decide (40*(v1.2.2.length+x12.1.length)<=140737488355328)) (.nx ((rE (steps:Int)/\rZ/\rZ/\True/\rE ((wrap i64 (v1.1+1)):Int)/\True)/\(mE x12.2.A0 True (rE ((wrap u32 (x12.2.B3+1)):Int)/\True/\True/\True))/\rE x12.2.A0.Mem/\rE x12.2.C8/\rE x12.2.B0/\(mE zM True (rE (0:Int)/\True/\True/\True))/\rE ((v1.2.2++x12.1):List (RK.T RK.apiOutput))/\True) (Sum.inl (wrap i64 (v1.1+1),{A0:=x12.2.A0,B3:=wrap u32 (x12.2.B3+1),C8:=x12.2.C8,B0:=x12.2.B0},v1.2.2++x12.1)))))) (.an (Q5s v1.2.1 v1.2.1.B3) (.lv (Q6c v1.2.1 v1.2.1.B3) λ(x13:List Q09×Q01)=> .cn (decide (40*(v1.2.2.length+x13.1.length)<=140737488355328)) (.nx ((rE (steps:Int)/\rZ/\rZ/\True/\rE ((wrap i64 (v1.1+1)):Int)/\True)/\(mE x13.2.A0 True (rE ((wrap u32 (x13.2.B3+1)):Int)/\True/\True/\True))/\rE x13.2.A0.Mem/\rE x13.2.C8/\rE x13.2.B0/\(mE zM True (rE (0:Int)/\True/\True/\True))/\rE ((v1.2.2++x13.1):List (RK.T RK.apiOutput))/\True) (Sum.inl (wrap i64 (v1.1+1),{A0:=x13.2.A0,B3:=wrap u32 (x13.2.B3+1),C8:=x13.2.C8,B0:=x13.2.B0},v1.2.2++x13.1)))))))))) (.lf (Sum.inr (Sum.inr (v1.2.1,v1.2.2)))))))
def Qbz r steps clock:=(Q52 r steps clock).m
abbrev Qka r steps clock:=(Q52 r steps clock).p
def Qz6:LInv:={
 α:=(Int)×Q01
 F:=λst a=>([(1,(lk st 1)),(3, .ptr 0 0 0),(6, .ptr 4 0 0),(8, .int i64 a.1)],[⟨true,96,52, .gen [[.int u32 a.2.A0.B1.X.a0, .int u32 a.2.A0.B1.X.a1, .int u32 a.2.A0.B1.X.a2, .int u32 a.2.A0.B1.X.a3, .int u32 a.2.A0.B1.X.a4, .int u32 a.2.A0.B1.X.a5, .int u32 a.2.A0.B1.X.a6, .int u32 a.2.A0.B1.X.a7, .int u32 a.2.A0.B1.X.a8, .int u32 a.2.A0.B1.X.a9, .int u32 a.2.A0.B1.X.a10, .int u32 a.2.A0.B1.X.a11, .int u32 a.2.A0.B1.X.a12, .int u32 a.2.A0.B1.X.a13, .int u32 a.2.A0.B1.X.a14, .int u32 a.2.A0.B1.X.a15, .int u32 a.2.A0.B1.Pc, .int u32 a.2.A0.B1.B4.a0, .int u32 a.2.A0.B1.B4.a1, .int u32 a.2.A0.B1.B4.a2, .int u32 a.2.A0.B1.B4.a3, .int u32 a.2.A0.B1.B4.a4, .int u32 a.2.A0.B1.B4.a5, .int u32 a.2.A0.B1.B4.a6, .int u32 a.2.A0.B1.B4.a7, .all 1, .str a.2.A0.A2.D0, .bool a.2.A0.A7.D2, .int u32 a.2.A0.A7.C4, .bool a.2.A0.A7.D1, .int u32 a.2.A0.A9.Blocks, .int u32 a.2.A0.A9.C1, .int u32 a.2.A0.A9.Frame, .int i64 a.2.A0.A9.B8, .int i64 a.2.A0.A9.D4, .int u32 a.2.A0.A9.B5, .int u32 a.2.A0.A9.B2, .str a.2.A0.A9.B7, .int u32 a.2.A0.B9.Frame, .int u32 a.2.A0.B9.D8, .bool a.2.A0.B9.C5, .int u32 a.2.A0.B9.C0, .bool a.2.A0.B9.B6, .int u32 a.2.A0.B9.D9, .int u32 a.2.A0.A1.C6, .int u32 a.2.A0.A1.C2, .int u64 a.2.A0.A4, .bool a.2.A0.A3, .bool a.2.A0.A6, .int u32 a.2.B3, .all 2, .all 3]]⟩,⟨false,25,1, .ints u32 a.2.A0.Mem⟩,⟨false,126,4, .recs RK.apiEntry a.2.C8⟩,⟨false,66,3, .recs RK.apiEvent a.2.B0⟩,⟨true,96,52, .gen [[(cT st 6 0),(cT st 6 1),(cT st 6 2),(cT st 6 3),(cT st 6 4),(cT st 6 5),(cT st 6 6),(cT st 6 7),(cT st 6 8),(cT st 6 9),(cT st 6 10),(cT st 6 11),(cT st 6 12),(cT st 6 13),(cT st 6 14),(cT st 6 15),(cT st 6 16),(cT st 6 17),(cT st 6 18),(cT st 6 19),(cT st 6 20),(cT st 6 21),(cT st 6 22),(cT st 6 23),(cT st 6 24),(cT st 6 25),(cT st 6 26),(cT st 6 27),(cT st 6 28),(cT st 6 29),(cT st 6 30),(cT st 6 31),(cT st 6 32),(cT st 6 33),(cT st 6 34),(cT st 6 35),(cT st 6 36),(cT st 6 37),(cT st 6 38),(cT st 6 39),(cT st 6 40),(cT st 6 41),(cT st 6 42),(cT st 6 43),(cT st 6 44),(cT st 6 45),(cT st 6 46),(cT st 6 47),(cT st 6 48),(cT st 6 49),(cT st 6 50),(cT st 6 51)]]⟩])
 a0:=λst=>((lk st 8).toInt,(⟨(mR (cT st 3) (Q2f st.rows (Q0l (cT st 3 25) 1000000))),(cT st 3 49).toInt,(Q6e RK.apiEntry st.rows (Q0l (cT st 3 50) 1000000)),(Q6e RK.apiEvent st.rows (Q0l (cT st 3 51) 1000000))⟩:Q01))
 ex0:=λst=>[]++[(rX st 3 0),(Q0l (cT st 3 25) (st.rows.length+1)),(Q0l (cT st 3 50) (st.rows.length+2)),(Q0l (cT st 3 51) (st.rows.length+3)),(rX st 6 4)]}
def Qz3:LInv:={
 α:=(Int)×Q01×(List Q09)
 F:=λst a=>([(1,(lk st 1)),(3, .ptr 0 0 0),(6, .ptr 4 0 0),(9, .all 5),(10, .int i64 a.1)],[⟨true,96,52, .gen [[.int u32 a.2.1.A0.B1.X.a0, .int u32 a.2.1.A0.B1.X.a1, .int u32 a.2.1.A0.B1.X.a2, .int u32 a.2.1.A0.B1.X.a3, .int u32 a.2.1.A0.B1.X.a4, .int u32 a.2.1.A0.B1.X.a5, .int u32 a.2.1.A0.B1.X.a6, .int u32 a.2.1.A0.B1.X.a7, .int u32 a.2.1.A0.B1.X.a8, .int u32 a.2.1.A0.B1.X.a9, .int u32 a.2.1.A0.B1.X.a10, .int u32 a.2.1.A0.B1.X.a11, .int u32 a.2.1.A0.B1.X.a12, .int u32 a.2.1.A0.B1.X.a13, .int u32 a.2.1.A0.B1.X.a14, .int u32 a.2.1.A0.B1.X.a15, .int u32 a.2.1.A0.B1.Pc, .int u32 a.2.1.A0.B1.B4.a0, .int u32 a.2.1.A0.B1.B4.a1, .int u32 a.2.1.A0.B1.B4.a2, .int u32 a.2.1.A0.B1.B4.a3, .int u32 a.2.1.A0.B1.B4.a4, .int u32 a.2.1.A0.B1.B4.a5, .int u32 a.2.1.A0.B1.B4.a6, .int u32 a.2.1.A0.B1.B4.a7, .all 1, .str a.2.1.A0.A2.D0, .bool a.2.1.A0.A7.D2, .int u32 a.2.1.A0.A7.C4, .bool a.2.1.A0.A7.D1, .int u32 a.2.1.A0.A9.Blocks, .int u32 a.2.1.A0.A9.C1, .int u32 a.2.1.A0.A9.Frame, .int i64 a.2.1.A0.A9.B8, .int i64 a.2.1.A0.A9.D4, .int u32 a.2.1.A0.A9.B5, .int u32 a.2.1.A0.A9.B2, .str a.2.1.A0.A9.B7, .int u32 a.2.1.A0.B9.Frame, .int u32 a.2.1.A0.B9.D8, .bool a.2.1.A0.B9.C5, .int u32 a.2.1.A0.B9.C0, .bool a.2.1.A0.B9.B6, .int u32 a.2.1.A0.B9.D9, .int u32 a.2.1.A0.A1.C6, .int u32 a.2.1.A0.A1.C2, .int u64 a.2.1.A0.A4, .bool a.2.1.A0.A3, .bool a.2.1.A0.A6, .int u32 a.2.1.B3, .all 2, .all 3]]⟩,⟨false,25,1, .ints u32 a.2.1.A0.Mem⟩,⟨false,126,4, .recs RK.apiEntry a.2.1.C8⟩,⟨false,66,3, .recs RK.apiEvent a.2.1.B0⟩,⟨true,96,52, .gen [[(cT st 6 0),(cT st 6 1),(cT st 6 2),(cT st 6 3),(cT st 6 4),(cT st 6 5),(cT st 6 6),(cT st 6 7),(cT st 6 8),(cT st 6 9),(cT st 6 10),(cT st 6 11),(cT st 6 12),(cT st 6 13),(cT st 6 14),(cT st 6 15),(cT st 6 16),(cT st 6 17),(cT st 6 18),(cT st 6 19),(cT st 6 20),(cT st 6 21),(cT st 6 22),(cT st 6 23),(cT st 6 24),(cT st 6 25),(cT st 6 26),(cT st 6 27),(cT st 6 28),(cT st 6 29),(cT st 6 30),(cT st 6 31),(cT st 6 32),(cT st 6 33),(cT st 6 34),(cT st 6 35),(cT st 6 36),(cT st 6 37),(cT st 6 38),(cT st 6 39),(cT st 6 40),(cT st 6 41),(cT st 6 42),(cT st 6 43),(cT st 6 44),(cT st 6 45),(cT st 6 46),(cT st 6 47),(cT st 6 48),(cT st 6 49),(cT st 6 50),(cT st 6 51)]]⟩,⟨false,71,4, .recs RK.apiOutput a.2.2⟩])
 a0:=λst=>((lk st 10).toInt,(⟨(mR (cT st 3) (Q2f st.rows (Q0l (cT st 3 25) 1000000))),(cT st 3 49).toInt,(Q6e RK.apiEntry st.rows (Q0l (cT st 3 50) 1000000)),(Q6e RK.apiEvent st.rows (Q0l (cT st 3 51) 1000000))⟩:Q01),(Q6e RK.apiOutput st.rows (rN st 9)))
 ex0:=λst=>[]++[(rX st 3 0),(Q0l (cT st 3 25) (st.rows.length+1)),(Q0l (cT st 3 50) (st.rows.length+2)),(Q0l (cT st 3 51) (st.rows.length+3)),(rX st 6 4),(rX st 9 5)]}
def Qt:List (Nat×LInv):=[(6,Qz6),(12,Qz3)]
def Z12:Q0b:=mT 147 [] true [.agg Q01.sig, .one (.int .i64), .one (.int .u32)] [] (λa r=>Q52 (Q01.of (aC a 0)) (argI a 1) (argI a 2)) (λX=> .tup [.agg (Q01.cellsW (X.1) (.all 0) (.all 1) (.all 2)), .all 3]) (λX=>[⟨false,25,1, .ints .u32 (X.1).A0.Mem⟩,⟨false,126,4, .recs .apiEntry (X.1).C8⟩,⟨false,66,3, .recs .apiEvent (X.1).B0⟩,⟨false,71,4, .recs .apiOutput (X.2)⟩])
theorem Qyo:Q04 pG Z12:=oT (.cons Qxl (.cons Qm4 (.cons Z52 (.cons Qyw (.cons Zhj (.cons Quh (.cons Qj3 (.cons Qvk (.nil))))))))) Tryz.func147 Tryz.call147 [.row 25 1 (.ints .u32), .row 126 4 (.recs .apiEntry), .row 66 3 (.recs .apiEvent), .row 71 4 (.recs .apiOutput)] Qt 3

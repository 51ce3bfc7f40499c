import Derived.Test.YtmalmklaonainaaGreatReplayBoundsYz
open Nat renaming blt->bT, beq->bS, lt_succ_self->cK
open List renaming length->dH, replicate->cN, take->cY, drop->cZ, set->dD, getD->aK
open Int renaming toNat->dC, tdiv->eS, tmod->dB
open UInt8 renaming ofNat->eV, toNat->eU
set_option maxRecDepth 100000
set_option linter.all false
namespace Go.Proofs.YtmalmklaonainaaGreat
open Go Go.GD Go.IntKind
noncomputable section
def Qeq(m:List Int):Tree (List Int):=
.cn (bT (0:Nat) (1:Nat)&&bS (1:Nat) (1:Nat)&&List.all [D.int u32 (0:Int)] D.plain&&decide ((0:Int)<=(m.length:Int)/\(m.length:Int)<=(m.length:Int)/\(m.length:Int)<=(9223372036854775807:Int)/\(↑(4:Nat):Int)*(m.length:Int)<=(140737488355328:Int))) (let E1:=dH (cN (dC (m.length:Int)) (0:Int)); .lf (cY (Min.min (m.length) E1) m++cZ (Min.min (m.length) E1) (cN (dC (m.length:Int)) (0:Int))))
def Qt0 m:=(Qeq m).m
abbrev Quq m:=(Qeq m).p
def Zir:Q0d:=mT 122 [] true [.one (.ints .u32)] [] (λa r=>Qeq (argL .u32 a 0)) (λX=> .all 0) (λX=>[⟨false,25,1, .ints .u32 X⟩])
theorem Zfp:Q06 pG Zir:=oT (.nil) Tryz.func122 Tryz.call122 [.row 25 1 (.ints .u32)] [] 2
def Qd4(m:Q00):Tree Q00:=
.an (Quq m.Mem) (.lv (Qt0 m.Mem) λ(x0:List Int)=> .lf ({B2:=m.B2,Mem:=x0,A4:=m.A4,B0:=m.B0,B1:=m.B1,C4:=m.C4,A2:=m.A2,A1:=m.A1,A7:=m.A7,A9:=m.A9}))
def Qmp m:=(Qd4 m).m
abbrev Qgb m:=(Qd4 m).p
def Zp5:Q0d:=mT 34 [] true [.agg Q00.sig] [] (λa r=>Qd4 (Q00.of (aC a 0))) (λX=> .agg (Q00.cellsW X (.all 0))) (λX=>[⟨false,25,1, .ints .u32 X.Mem⟩])
theorem Qrm:Q06 pG Zp5:=oT (.cons Zfp (.nil)) Tryz.func34 Tryz.call34 [.row 25 1 (.ints .u32)] [] 2
def Qr2(n k:Int)(z:(Int)×(List Int)):Prop:=0<=z.1/\(z.2.length:Int)=z.1/\(z.1<=k\/z.1=0)
def Qdh(n k:Int)(z:(Int)×(List Int)):Nat:=(k-z.1).toNat
def Qes(n k:Int):Tree (List UInt8):=
.lp inferInstance (Qdh n k (0,[])+1) ((rE (n:Int)/\rE (k:Int)/\True/\rE (0:Int)/\True)/\rE ([]:List Int)/\True) (0,[]) λ(v0:Int×List Int)=> .br (decide (v0.1<k)) (.lv (Q3a n (wrap i64 (eS v0.1 9))) λ(x0:Int)=> .cn (decide (1*(v0.2.length+1)<=140737488355328)) (.nx ((rE (n:Int)/\rE (k:Int)/\True/\rE ((wrap i64 (v0.1+1)):Int)/\True)/\rE ((v0.2++[wrap u8 x0]):List Int)/\True) (Sum.inl (wrap i64 (v0.1+1),v0.2++[wrap u8 x0])))) (.lf (Sum.inr (bytesOf v0.2)))
def Qtj n k:=(Qes n k).m
def Qam(n k:Int):Prop:=
k<=1000000000000
theorem Zbh(n k:Int)(hw:Qam n k):(Qes n k).p:=by
 simp only[Qam]at hw
 unfold Tree.p Qes
 repeat'(first|refine w_lp (inv:=Qr2 n k) (μ:=Qdh n k) ?_ (cK _) (λ_ _=> ?_)|exact trivial|refine w_br (λ_=> ?_) (λ_=> ?_)|refine w_cn ?_ ?_|refine w_an ?_ ?_|refine w_lv (λ_ _=> ?_)|refine w_nx ?_|refine w_lf ?_|refine And.intro ?_ ?_)
 all_goals((try simp only[Qr2,Qdh]at*);exact fin0)
def Zh7:LInv:={
 α:=(Int)×(List Int)
 F:=λst a=>([(0,(lk st 0)),(1,(lk st 1)),(5, .all 0),(6, .int i64 a.1)],[⟨false,5,1, .ints u8 a.2⟩])
 a0:=λst=>((lk st 6).toInt,(Q5e st.rows (rN st 5)))
 ex0:=λst=>[]++[(rX st 5 0)]}
def Z5u:List (Nat×LInv):=[(3,Zh7)]
def Zja:Q0d:=mkP 84 [] true [.one (.int .i64), .one (.int .i64)] [] (λa r=>Qam (argI a 0) (argI a 1)) (λa r=>Qtj (argI a 0) (argI a 1)) (λX=> .str X) (λX=>[])
theorem Zf:Q06 pG Zja:=Q0q drawn Q0m (.cons Qn (.nil)) Tryz.func84 Tryz.call84 (λa r=>Qes (argI a 0) (argI a 1)) [] Z5u 3 (hp:=λa r h=>Zbh (argI a 0) (argI a 1) h)
def Qfb(r:Q01):Tree Q01:=
.an (Qgb r.A0) (.lv (Qmp r.A0) λ(x0:Q00)=> .cn (decide (40*(0+r.B4.length)<=140737488355328)) (.cn (decide (32*(0+r.A6.length)<=140737488355328)) (.lf ({A0:=x0,A3:=r.A3,B4:=r.B4,A6:=r.A6}))))
def Qoi r:=(Qfb r).m
abbrev Qm1 r:=(Qfb r).p
def Zhk:Q0d:=mT 212 [] true [.agg Q01.sig] [] (λa r=>Qfb (Q01.of (aC a 0))) (λX=> .agg (Q01.cellsW X (.all 0) (.all 1) (.all 2))) (λX=>[⟨false,25,1, .ints .u32 X.A0.Mem⟩,⟨false,126,4, .recs .apiEntry X.B4⟩,⟨false,66,3, .recs .apiEvent X.A6⟩])
theorem Qyb:Q06 pG Zhk:=oT (.cons Qrm (.nil)) Tryz.func212 Tryz.call212 [.row 25 1 (.ints .u32), .row 126 4 (.recs .apiEntry), .row 66 3 (.recs .apiEvent)] [] 2
def Qm2(e:Q0a):Tree Bool:=
.br (e.B5==1) (.lf (decide (e.C8=[]))) (.br (e.B5==6) (.lf (decide (e.C8=[]))) (.br (e.B5==2) (.br (e.N==0) (.lf (decide (e.C8=[]))) (.lf false)) (.br (e.B5==3) (.br (decide (e.N<=255)) (.lf (decide (e.C8=[]))) (.lf false)) (.br (e.B5==4) (.br (decide (e.N<=1)) (.br (decide (e.C8=[])) (.lf true) (.br (e.N==1) (.lf ((e.C8.length:Int)==(128:Int))) (.lf false))) (.lf false)) (.br (e.B5==5) (.br (e.N==0) (.br (decide ((e.C8.length:Int)>=(1:Int))) (.lf (decide ((e.C8.length:Int)<=(128:Int)))) (.lf false)) (.lf false)) (.lf false))))))
def Q1v e:=(Qm2 e).m
def Zbc:Q0d:=mS 154 [] true [.agg Q0a.sig] [] (λa r=>Qm2 (Q0a.of (aC a 0))) (λX=> .bool X) (λX=>[])
theorem Z5b:Q06 pG Zbc:=oS (.nil) Tryz.func154 Tryz.call154 [] [] 2
def Q91(r:Q01)(e:Q0a):Tree (Q01×Bool):=
.an (Qm1 r) (.lv (Qoi r) λ(x0:Q01)=> .lv (Q1v e) λ(x1:Bool)=> .br (!x1) (.lf (x0,false)) (.br (e.B5==1) (.lf (x0,false)) (.br (decide ((x0.A6.length:Int)>=(16:Int))) (.lf (x0,false)) (.cn (decide (32*(x0.A6.length+1)<=140737488355328)) (.lf ({A0:=x0.A0,A3:=x0.A3,B4:=x0.B4,A6:=x0.A6++[e]},true))))))
def Q2s r e:=(Q91 r e).m
abbrev Qnj r e:=(Q91 r e).p
def Z6k:Q0d:=mT 146 [] true [.agg Q01.sig, .agg Q0a.sig] [] (λa r=>Q91 (Q01.of (aC a 0)) (Q0a.of (aC a 1))) (λX=> .tup [.agg (Q01.cellsW (X.1) (.all 0) (.all 1) (.all 2)), .bool (X.2)]) (λX=>[⟨false,25,1, .ints .u32 (X.1).A0.Mem⟩,⟨false,126,4, .recs .apiEntry (X.1).B4⟩,⟨false,66,3, .recs .apiEvent (X.1).A6⟩])
theorem Z46:Q06 pG Z6k:=oT (.cons Qyb (.cons Z5b (.nil))) Tryz.func146 Tryz.call146 [.row 25 1 (.ints .u32), .row 126 4 (.recs .apiEntry), .row 66 3 (.recs .apiEvent)] [] 2
def Q9f(n:Int):Tree Q0a:=
.lv (Q3a n 2) λ(x0:Int)=> .br (dB x0 (7:Int)==(0:Int)) (.lf ({B5:=2,N:=0,C8:=[]})) (.br (dB x0 (7:Int)==(1:Int)) (.lf ({B5:=3,N:=wrap u32 (iand i64 (ishr i64 x0 8) 255),C8:=[]})) (.br (dB x0 (7:Int)==(2:Int)) (.lf ({B5:=3,N:=wrap u32 (iand i64 (ishr i64 x0 8) 255),C8:=[]})) (.br (dB x0 (7:Int)==(3:Int)) (.lf ({B5:=4,N:=1,C8:=[]})) (.br (dB x0 (7:Int)==(4:Int)) (.an (Qam x0 128) (.lv (Qtj x0 128) λ(x1:List UInt8)=> .lf ({B5:=4,N:=1,C8:=x1}))) (.br (dB x0 (7:Int)==(5:Int)) (let E1:=wrap i64 (1+dB (ishr i64 x0 8) 40); .an (Qam x0 E1) (.lv (Qtj x0 E1) λ(x2:List UInt8)=> .lf ({B5:=5,N:=0,C8:=x2}))) (.br (dB (ishr i64 x0 8) (4:Int)==(0:Int)) (.lf ({B5:=4,N:=0,C8:=[]})) (.lf ({B5:=6,N:=wrap u32 (dB (ishr i64 x0 8) 3),C8:=[]}))))))))
def Q4r n:=(Q9f n).m
abbrev Qre n:=(Q9f n).p
def Zd5:Q0d:=mT 76 [] true [.one (.int .i64)] [] (λa r=>Q9f (argI a 0)) (λX=> .agg (Q0a.cells X)) (λX=>[])
theorem Z9f:Q06 pG Zd5:=oT (.cons Qn (.cons Zf (.nil))) Tryz.func76 Tryz.call76 [] [] 2
def Qop(m:List Int):Tree Int:=
.br (dB (m.length:Int) (32:Int) !=(0:Int)) (.lf 0) (.br (decide ((m.length:Int)>(1024:Int))) (.lf 0) (.lf (wrap i64 (eS (m.length:Int) 32))))
def Q3y m:=(Qop m).m
def Zf3:Q0d:=mS 93 [] true [.one (.ints .u32)] [] (λa r=>Qop (argL .u32 a 0)) (λX=> .int .i64 X) (λX=>[])
theorem Qe2:Q06 pG Zf3:=oS (.nil) Tryz.func93 Tryz.call93 [] [] 2
def Qlv(c:Q0c):Tree Bool:=
.lf (decide ((c.D3.length:Int)<=(16:Int)))
def Qj4 c:=(Qlv c).m
def Qwc:Q0d:=mS 94 [] true [.agg Q0c.sig] [] (λa r=>Qlv (Q0c.of (aC a 0))) (λX=> .bool X) (λX=>[])
theorem Qv6:Q06 pG Qwc:=oS (.nil) Tryz.func94 Tryz.call94 [] [] 2
def Qj3(t:Q0i):Tree Bool:=
.br t.D2 (.br t.D5 (.lf false) (.br t.D2 (.lf (t.C9 !=0)) (.br t.D5 (.lf true) (.lf (t.C9==0))))) (.br t.D2 (.lf (t.C9 !=0)) (.br t.D5 (.lf true) (.lf (t.C9==0))))
def Qdr t:=(Qj3 t).m
def Z3h:Q0d:=mS 95 [] true [.agg Q0i.sig] [] (λa r=>Qj3 (Q0i.of (aC a 0))) (λX=> .bool X) (λX=>[])
theorem Qzx:Q06 pG Z3h:=oS (.nil) Tryz.func95 Tryz.call95 [] [] 2
def Qkk(d0:Q0f)(pages:Int):Tree Bool:=
.br (decide (d0.Blocks>64)) (.lf false) (.br (decide (d0.C0<0)) (.lf false) (.br (decide (d0.C0>3)) (.lf false) (.br (d0.C0 !=1) (.br (d0.D8==0) (.br (d0.B7==0) (.br (d0.B3==0) (.lf (decide (d0.C3=[]))) (.lf false)) (.lf false)) (.lf false)) (.br (decide (d0.B7>=d0.Blocks)) (.lf false) (.br (decide (wrap i64 d0.B3>=pages)) (.lf false) (.br (d0.D8==1) (.br (decide (d0.C3=[])) (.lf true) (.br (d0.D8==2) (.lf ((d0.C3.length:Int)==(128:Int))) (.lf false))) (.br (d0.D8==2) (.lf ((d0.C3.length:Int)==(128:Int))) (.lf false))))))))
def Qfp d0 pages:=(Qkk d0 pages).m
def Z63:Q0d:=mS 96 [] true [.agg Q0f.sig, .one (.int .i64)] [] (λa r=>Qkk (Q0f.of (aC a 0)) (argI a 1)) (λX=> .bool X) (λX=>[])
theorem Z35:Q06 pG Z63:=oS (.nil) Tryz.func96 Tryz.call96 [] [] 2
def Qm3(n:Q0r)(pages:Int):Tree Bool:=
let T1:Tree (Bool):= .br n.B8 (.br (decide (n.F3>=1)) (.lf (decide (n.F3<=128))) (.lf false)) (.lf (n.F3==0)); .br n.C7 (.br n.B8 (.lf false) (.br (decide (wrap i64 n.B9>=pages)) (.lf false) (.br (!n.C7) (.br (n.B9 !=0) (.lf false) T1) T1))) (.br (!n.C7) (.br (n.B9 !=0) (.lf false) T1) T1)
def Qiy n pages:=(Qm3 n pages).m
def Za1:Q0d:=mS 97 [] true [.agg Q0r.sig, .one (.int .i64)] [] (λa r=>Qm3 (Q0r.of (aC a 0)) (argI a 1)) (λX=> .bool X) (λX=>[])
theorem Z51:Q06 pG Za1:=oS (.nil) Tryz.func97 Tryz.call97 [] [] 2
def Qh5(b:Q09)(pages:Int)(z:(Int)):Prop:=0<=z/\z<=32
def Q7(b:Q09)(pages:Int)(z:(Int)):Nat:=(32-z).toNat
def Q5o(b:Q09)(pages:Int):Tree Bool:=
.lp inferInstance (Q7 b pages 0+1) ((rE (pages:Int)/\rZ/\rE (0:Int)/\True)/\(rE b.D0/\rE b.C2/\True)/\True) 0 λ(v0:Int)=> .br (decide (v0<32)) (.cn (decide (0<=wrap u64 v0)) (let T1:Tree ((Int)⊕(Bool)):= .nx ((rE (pages:Int)/\rZ/\rE ((wrap i64 (v0+1)):Int)/\True)/\(rE b.D0/\rE b.C2/\True)/\True) (Sum.inl (wrap i64 (v0+1))); .br (iand u32 (ishr u32 b.C2 (wrap u64 v0)) (1:Int)==(1:Int)) (.br (decide (v0>=pages)) (.lf (Sum.inr false)) T1) T1)) (.lf (Sum.inr true))
def Qa1 b pages:=(Q5o b pages).m
theorem Qrp(b:Q09)(pages:Int):(Q5o b pages).p:=by
 unfold Tree.p Q5o
 repeat'(first|refine w_lp (inv:=Qh5 b pages) (μ:=Q7 b pages) ?_ (cK _) (λ_ _=> ?_)|exact trivial|refine w_br (λ_=> ?_) (λ_=> ?_)|refine w_cn ?_ ?_|refine w_an ?_ ?_|refine w_lv (λ_ _=> ?_)|refine w_nx ?_|refine w_lf ?_|refine And.intro ?_ ?_)
 all_goals((try simp only[Qh5,Q7]at*);exact fin0)
def Qt4:LInv:={
 α:=(Int)
 F:=λst a=>([(1,(lk st 1)),(2, .ptr 0 0 0),(5, .int i64 a)],[⟨true,40,2, .gen [[(cT st 2 0),(cT st 2 1)]]⟩])
 a0:=λst=>(lk st 5).toInt
 ex0:=λst=>[]++[(rX st 2 0)]}
def Qqo:List (Nat×LInv):=[(2,Qt4)]
def Qx8:Q0d:=mS 98 [] true [.agg Q09.sig, .one (.int .i64)] [] (λa r=>Q5o (Q09.of (aC a 0)) (argI a 1)) (λX=> .bool X) (λX=>[])
theorem Qut:Q06 pG Qx8:=oS (.nil) Tryz.func98 Tryz.call98 [] Qqo 3 (λ_ _ _=>by kernel_rfl) (λa r=>Qrp (Q09.of (aC a 0)) (argI a 1)) (λ_ X=>by kernel_rfl)
def Qx1(m:Q00):Tree Bool:=
.lv (Q3y m.Mem) λ(x0:Int)=> .br (decide (x0<1)) (.lf false) (.br (m.B2.X.a0 !=0) (.lf false) (.br (decide (m.B2.B6.a0>31)) (.lf false) (.br (decide (m.B2.B6.a7>31)) (.lf false) (.br (decide (m.B2.B6.a6>255)) (.lf false) (.br (dB m.B2.B6.a1 (4:Int) !=(0:Int)) (.lf false) (.lv (Qj4 m.A4) λ(x1:Bool)=> .br (!x1) (.lf false) (.lv (Qdr m.B0) λ(x2:Bool)=> .br (!x2) (.lf false) (.lv (Qfp m.B1 x0) λ(x3:Bool)=> .br (!x3) (.lf false) (.lv (Qiy m.C4 x0) λ(x4:Bool)=> .br (!x4) (.lf false) (.lv (Qa1 m.A2 x0) λ(x5:Bool)=> .br (!x5) (.lf false) (.br (decide (m.A1<=1152921504606846976)) (.br m.A7 (.lf (!m.A9)) (.lf true)) (.lf false))))))))))))
def Q6o m:=(Qx1 m).m
def Zmt:Q0d:=mS 25 [] true [.agg Q00.sig] [] (λa r=>Qx1 (Q00.of (aC a 0))) (λX=> .bool X) (λX=>[])
theorem Qsf:Q06 pG Zmt:=oS (.cons Qe2 (.cons Qv6 (.cons Qzx (.cons Z35 (.cons Z51 (.cons Qut (.nil))))))) Tryz.func25 Tryz.call25 [] [] 2
def Q9q(t:Q0i):Tree (Q0i×Bool):=
.br (!t.D2) (.lf (t,false)) (.lf ({D2:=false,C9:=t.C9,D5:=true},true))
def Q6m t:=(Q9q t).m
def Zk8:Q0d:=mS 221 [] true [.agg Q0i.sig] [] (λa r=>Q9q (Q0i.of (aC a 0))) (λX=> .tup [.agg (Q0i.cells (X.1)), .bool (X.2)]) (λX=>[])
theorem Qxw:Q06 pG Zk8:=oS (.nil) Tryz.func221 Tryz.call221 [] [] 2
def Qca(c:Q0c)(b:Int):Tree (Q0c×Bool):=
.br (decide ((c.D3.length:Int)>=(16:Int))) (.lf (c,false)) (.cn (decide (c.D3.length+1<=maxLen)) (.lf ({D3:=c.D3++[(λ(n:Int)=>eV n.toNat) b]},true)))
def Qlm c b:=(Qca c b).m
abbrev Qms c b:=(Qca c b).p
def Zim:Q0d:=mT 222 [] true [.agg Q0c.sig, .one (.int .u8)] [] (λa r=>Qca (Q0c.of (aC a 0)) (argI a 1)) (λX=> .tup [.agg (Q0c.cells (X.1)), .bool (X.2)]) (λX=>[])
theorem Qz5:Q06 pG Zim:=oT (.nil) Tryz.func222 Tryz.call222 [] [] 2
def Qj5(m:List Int)(frame:Int):Tree Bool:=
.lv (Q3y m) λ(x0:Int)=> .lf (decide (wrap u64 frame<wrap u64 x0))
def Q27 m frame:=(Qj5 m frame).m
def Zhl:Q0d:=mS 269 [] true [.one (.ints .u32), .one (.int .u32)] [] (λa r=>Qj5 (argL .u32 a 0) (argI a 1)) (λX=> .bool X) (λX=>[])
theorem Qgg:Q06 pG Zhl:=oS (.cons Qe2 (.nil)) Tryz.func269 Tryz.call269 [] [] 2
def Qev(m:List Int)(addr size v:Int):Tree (List Int):=
let E1:=bS 1 1&&bT 0 1&&decide (0<=wrap u32 (eS addr 4)/\wrap u32 (eS addr 4)<(m.length:Int));let E2:=dC (wrap u32 (eS addr 4)); .br (size==4) (.cn E1 (.lf (dD m E2 v))) (.cn E1 (let E3:=decide (0<=wrap u32 (8*dB addr 4)); .cn E3 (.cn E3 (.cn E1 (.lf (dD m E2 (ior u32 (Qhm u32 (m.getD E2 0) (ishl u32 255 (wrap u32 (8*dB addr 4)))) (ishl u32 (iand u32 v 255) (wrap u32 (8*dB addr 4))))))))))
def Qa8 m addr size v:=(Qev m addr size v).m
abbrev Qg9 m addr size v:=(Qev m addr size v).p
def Zo2:Q0d:=mT 300 [true,false,false,false] true [.one (.row 0), .one (.int .u32), .one (.int .i64), .one (.int .u32)] [.arr 25 1 (.ints .u32)] (λa r=>Qev (rowL .u32 r 0) (argI a 1) (argI a 2) (argI a 3)) (λX=> .tup []) (λX=>[⟨false,25,1, .ints .u32 X⟩])
theorem Z3u:Q06 pG Zo2:=oT (.nil) Tryz.func300 Tryz.call300 [] [] 2
def Qjl(m:List Int)(frame:Int)(s:List UInt8)(z:(Int)×(List Int)):Nat:=(128-z.1).toNat
def Q9g(m:List Int)(frame:Int)(s:List UInt8):Tree (List Int):=
.lp inferInstance (Qjl m frame s (0,m)+1) ((True/\rE (frame:Int)/\rE (s:List UInt8)/\rE (0:Int)/\True)/\rE (m:List Int)/\True) (0,m) λ(v0:Int×List Int)=> .br (decide (v0.1<(s.length:Int))) (.br (decide (v0.1<128)) (.cn (decide (0<=v0.1/\v0.1<(s.length:Int))) (let E1:=wrap u32 (↑(eU (s.getD v0.1.toNat (0:UInt8))):Int);let E2:=wrap u32 (wrap i64 (wrap i64 (frame*128)+v0.1)); .an (Qg9 v0.2 E2 1 E1) (.lv (Qa8 v0.2 E2 1 E1) λ(x0:List Int)=> .nx ((True/\rE (frame:Int)/\rE (s:List UInt8)/\rE ((wrap i64 (v0.1+1)):Int)/\True)/\rE (x0:List Int)/\True) (Sum.inl (wrap i64 (v0.1+1),x0))))) (.lf (Sum.inr v0.2))) (.lf (Sum.inr v0.2))
def Qly m frame s:=(Q9g m frame s).m
abbrev Qmk m frame s:=(Q9g m frame s).p
def Ze1:LInv:={
 α:=(Int)×(List Int)
 F:=λst a=>([(0, .all 0),(1,(lk st 1)),(2,(lk st 2)),(6, .int i64 a.1)],[⟨false,25,1, .ints u32 a.2⟩])
 a0:=λst=>((lk st 6).toInt,(Q5e st.rows 0))
 ex0:=λst=>[0]++[]}
def Z69:List (Nat×LInv):=[(1,Ze1)]
def Zjs:Q0d:=mT 270 [true,false,false] true [.one (.row 0), .one (.int .i64), .one (.str)] [.arr 25 1 (.ints .u32)] (λa r=>Q9g (rowL .u32 r 0) (argI a 1) (argS a 2)) (λX=> .tup []) (λX=>[⟨false,25,1, .ints .u32 X⟩])
theorem Qy7:Q06 pG Zjs:=oT (.cons Z3u (.nil)) Tryz.func270 Tryz.call270 [] Z69 3
def Q6i(d0:Q0f)(m:List Int)(e:Q0a):Tree (Q0f×Bool×(List Int)):=
.br (d0.C0 !=1) (.lf (d0,false,m)) (.br (e.B5 !=4) (.lf (d0,false,m)) (.br (decide (e.N>1)) (.lf (d0,false,m)) (let E4:=({Blocks:=d0.Blocks,C1:=d0.C1,Frame:=d0.Frame,C0:=2,D8:=0,B7:=0,B3:=0,C3:=[]}:Q0f);let E5:=({Blocks:=d0.Blocks,C1:=d0.C1,Frame:=d0.Frame,C0:=3,D8:=0,B7:=0,B3:=0,C3:=[]}:Q0f);let T2:Tree ((Q0f×Bool×(List Int))):= .br (e.N==1) (.lf (E4,true,m)) (.lf (E5,true,m));let E6:=decide ((e.C8.length:Int)>(0:Int)); .br (e.N==1) (let T1:Tree ((Q0f×Bool×(List Int))):= .br (d0.D8==1) (.an (Qmk m (wrap i64 d0.B3) e.C8) (.lv (Qly m (wrap i64 d0.B3) e.C8) λ(x1:List Int)=> .br (e.N==1) (.lf (E4,true,x1)) (.lf (E5,true,x1)))) T2;let T3:Tree ((Q0f×Bool×(List Int))):= .br (!d0.D8==1) (.br E6 (.lf (d0,false,m)) T1) T1; .br (d0.D8==1) (.br ((e.C8.length:Int) !=(128:Int)) (.lf (d0,false,m)) (.lv (Q27 m d0.B3) λ(x0:Bool)=> .br (!x0) (.lf (d0,false,m)) T3)) T3) (.br E6 (.lf (d0,false,m)) T2))))
def Q8b d0 m e:=(Q6i d0 m e).m
abbrev Qic d0 m e:=(Q6i d0 m e).p
def Zaf:Q0d:=mT 223 [false,true,false] true [.agg Q0f.sig, .one (.row 0), .agg Q0a.sig] [.arr 25 1 (.ints .u32)] (λa r=>Q6i (Q0f.of (aC a 0)) (rowL .u32 r 0) (Q0a.of (aC a 2))) (λX=> .tup [.agg (Q0f.cells (X.1)), .bool (X.2.1)]) (λX=>[⟨false,25,1, .ints .u32 (X.2.2)⟩])
theorem Qrg:Q06 pG Zaf:=oT (.cons Qgg (.cons Qy7 (.nil))) Tryz.func223 Tryz.call223 [] [] 2
def Q6p(n:Q0r)(m:List Int)(frame:List UInt8):Tree (Q0r×Bool×(List Int)):=
.br (!n.C7) (.lf (n,false,m)) (.br (decide ((frame.length:Int)<(1:Int))) (.lf (n,false,m)) (.br (decide ((frame.length:Int)>(128:Int))) (.lf (n,false,m)) (.lv (Q27 m n.B9) λ(x0:Bool)=> .br (!x0) (.lf (n,false,m)) (.an (Qmk m (wrap i64 n.B9) frame) (.lv (Qly m (wrap i64 n.B9) frame) λ(x1:List Int)=> .lf ({Frame:=n.Frame,E0:=n.E0,C7:=false,B9:=0,B8:=true,F3:=wrap u32 (frame.length:Int)},true,x1))))))
def Q82 n m frame:=(Q6p n m frame).m
abbrev Qjj n m frame:=(Q6p n m frame).p
def Zb0:Q0d:=mT 224 [false,true,false] true [.agg Q0r.sig, .one (.row 0), .one (.str)] [.arr 25 1 (.ints .u32)] (λa r=>Q6p (Q0r.of (aC a 0)) (rowL .u32 r 0) (argS a 2)) (λX=> .tup [.agg (Q0r.cells (X.1)), .bool (X.2.1)]) (λX=>[⟨false,25,1, .ints .u32 (X.2.2)⟩])
theorem Qr0:Q06 pG Zb0:=oT (.cons Qgg (.cons Qy7 (.nil))) Tryz.func224 Tryz.call224 [] [] 2
def Q49(m:Q00)(e:Q0a):Tree (Bool×Q00):=
.br m.A9 (.lf (false,m)) (let T1:Tree ((Bool×Q00)):= .br (e.B5==4) (.an (Qic m.B1 m.Mem e) (.lv (Q8b m.B1 m.Mem e) λ(x2:Q0f×Bool×List Int)=> .lf (x2.2.1,{B2:=m.B2,Mem:=x2.2.2,A4:=m.A4,B0:=m.B0,B1:=x2.1,C4:=m.C4,A2:=m.A2,A1:=m.A1,A7:=m.A7,A9:=m.A9}))) (let T3:Tree ((Bool×Q00)):= .br (e.B5==6) (.br (decide (e.C8=[])) (.lf (true,{B2:=m.B2,Mem:=m.Mem,A4:=m.A4,B0:=m.B0,B1:=m.B1,C4:=m.C4,A2:={D0:=e.N,C2:=m.A2.C2},A1:=m.A1,A7:=m.A7,A9:=m.A9})) (.lf (false,m))) (.lf (false,m)); .br (e.B5==5) (.br (e.N==0) (.an (Qjj m.C4 m.Mem e.C8) (.lv (Q82 m.C4 m.Mem e.C8) λ(x3:Q0r×Bool×List Int)=> .lf (x3.2.1,{B2:=m.B2,Mem:=x3.2.2,A4:=m.A4,B0:=m.B0,B1:=m.B1,C4:=x3.1,A2:=m.A2,A1:=m.A1,A7:=m.A7,A9:=m.A9}))) T3) T3);let T2:Tree ((Bool×Q00)):= .br (e.B5==3) (.br (decide (e.N<=255)) (.br (decide (e.C8=[])) (.an (Qms m.A4 (wrap u8 e.N)) (.lv (Qlm m.A4 (wrap u8 e.N)) λ(x1:Q0c×Bool)=> .lf (x1.2,{B2:=m.B2,Mem:=m.Mem,A4:=x1.1,B0:=m.B0,B1:=m.B1,C4:=m.C4,A2:=m.A2,A1:=m.A1,A7:=m.A7,A9:=m.A9}))) T1) T1) T1; .br (e.B5==2) (.br (e.N==0) (.br (decide (e.C8=[])) (.lv (Q6m m.B0) λ(x0:Q0i×Bool)=> .lf (x0.2,{B2:=m.B2,Mem:=m.Mem,A4:=m.A4,B0:=x0.1,B1:=m.B1,C4:=m.C4,A2:=m.A2,A1:=m.A1,A7:=m.A7,A9:=m.A9})) T2) T2) T2)
def Q0p m e:=(Q49 m e).m
abbrev Qr6 m e:=(Q49 m e).p
def Zdv:Q0d:=mT 161 [true,false] true [.ptr 0, .agg Q0a.sig] [.box 43 49 (Q00.sigW (.row 1)), .arr 25 1 (.ints .u32)] (λa r=>Q49 (Q00.ofW (r.getD 0 default).cs (rowL .u32 r 1)) (Q0a.of (aC a 1))) (λX=> .bool (X.1)) (λX=>[⟨true,43,49, .gen [(Q00.cellsW (X.2) (.all 1))]⟩,⟨false,25,1, .ints .u32 (X.2).Mem⟩])
theorem Zae:Q06 pG Zdv:=oT (.cons Qxw (.cons Qz5 (.cons Qrg (.cons Qr0 (.nil))))) Tryz.func161 Tryz.call161 [.row 25 1 (.ints .u32)] [] 2
def Q8z(m:Q01)(e:Q0a):Tree (Bool×Q01):=
.br m.A0.A9 (.lf (false,m)) (let T1:Tree ((Bool×Q01)):= .br (e.B5==4) (.an (Qic m.A0.B1 m.A0.Mem e) (.lv (Q8b m.A0.B1 m.A0.Mem e) λ(x2:Q0f×Bool×List Int)=> .lf (x2.2.1,{A0:={B2:=m.A0.B2,Mem:=x2.2.2,A4:=m.A0.A4,B0:=m.A0.B0,B1:=x2.1,C4:=m.A0.C4,A2:=m.A0.A2,A1:=m.A0.A1,A7:=m.A0.A7,A9:=m.A0.A9},A3:=m.A3,B4:=m.B4,A6:=m.A6}))) (let T3:Tree ((Bool×Q01)):= .br (e.B5==6) (.br (decide (e.C8=[])) (.lf (true,{A0:={B2:=m.A0.B2,Mem:=m.A0.Mem,A4:=m.A0.A4,B0:=m.A0.B0,B1:=m.A0.B1,C4:=m.A0.C4,A2:={D0:=e.N,C2:=m.A0.A2.C2},A1:=m.A0.A1,A7:=m.A0.A7,A9:=m.A0.A9},A3:=m.A3,B4:=m.B4,A6:=m.A6})) (.lf (false,m))) (.lf (false,m)); .br (e.B5==5) (.br (e.N==0) (.an (Qjj m.A0.C4 m.A0.Mem e.C8) (.lv (Q82 m.A0.C4 m.A0.Mem e.C8) λ(x3:Q0r×Bool×List Int)=> .lf (x3.2.1,{A0:={B2:=m.A0.B2,Mem:=x3.2.2,A4:=m.A0.A4,B0:=m.A0.B0,B1:=m.A0.B1,C4:=x3.1,A2:=m.A0.A2,A1:=m.A0.A1,A7:=m.A0.A7,A9:=m.A0.A9},A3:=m.A3,B4:=m.B4,A6:=m.A6}))) T3) T3);let T2:Tree ((Bool×Q01)):= .br (e.B5==3) (.br (decide (e.N<=255)) (.br (decide (e.C8=[])) (.an (Qms m.A0.A4 (wrap u8 e.N)) (.lv (Qlm m.A0.A4 (wrap u8 e.N)) λ(x1:Q0c×Bool)=> .lf (x1.2,{A0:={B2:=m.A0.B2,Mem:=m.A0.Mem,A4:=x1.1,B0:=m.A0.B0,B1:=m.A0.B1,C4:=m.A0.C4,A2:=m.A0.A2,A1:=m.A0.A1,A7:=m.A0.A7,A9:=m.A0.A9},A3:=m.A3,B4:=m.B4,A6:=m.A6}))) T1) T1) T1; .br (e.B5==2) (.br (e.N==0) (.br (decide (e.C8=[])) (.lv (Q6m m.A0.B0) λ(x0:Q0i×Bool)=> .lf (x0.2,{A0:={B2:=m.A0.B2,Mem:=m.A0.Mem,A4:=m.A0.A4,B0:=x0.1,B1:=m.A0.B1,C4:=m.A0.C4,A2:=m.A0.A2,A1:=m.A0.A1,A7:=m.A0.A7,A9:=m.A0.A9},A3:=m.A3,B4:=m.B4,A6:=m.A6})) T2) T2) T2)
def Qjv m e:=(Q8z m e).m
abbrev Qnc m e:=(Q8z m e).p
def Z5k:Q0d:=mT 161 [true,false] true [.ptr 0, .agg Q0a.sig] [.box 96 52 (Q01.sigW (.row 1) (.row 2) (.row 3)), .arr 25 1 (.ints .u32), .arr 126 4 (.recs .apiEntry), .arr 66 3 (.recs .apiEvent)] (λa r=>Q8z (Q01.ofW (r.getD 0 default).cs (rowL .u32 r 1) (rowR .apiEntry r 2) (rowR .apiEvent r 3)) (Q0a.of (aC a 1))) (λX=> .bool (X.1)) (λX=>[⟨true,96,52, .gen [(Q01.cellsW (X.2) (.all 1) (.all 2) (.all 3))]⟩,⟨false,25,1, .ints .u32 (X.2).A0.Mem⟩,⟨false,126,4, .recs .apiEntry (X.2).B4⟩,⟨false,66,3, .recs .apiEvent (X.2).A6⟩])
theorem Z2d:Q06 pG Z5k:=oT (.cons Qxw (.cons Qz5 (.cons Qrg (.cons Qr0 (.nil))))) Tryz.func161 Tryz.call161 [.row 25 1 (.ints .u32), .row 126 4 (.recs .apiEntry), .row 66 3 (.recs .apiEvent)] [] 2
def Q7i(m:Q01)(e:Q0a):Tree (Bool×Q01):=
.an (Qnc m e) (.lv (Qjv m e) λ(x0:Bool×Q01)=> .lf (x0.1,x0.2))
def Qhb m e:=(Q7i m e).m
abbrev Qku m e:=(Q7i m e).p
def Z2m:Q0d:=mT 159 [true,false] true [.ptr 0, .agg Q0a.sig] [.box 96 52 (Q01.sigW (.row 1) (.row 2) (.row 3)), .arr 25 1 (.ints .u32), .arr 126 4 (.recs .apiEntry), .arr 66 3 (.recs .apiEvent)] (λa r=>Q7i (Q01.ofW (r.getD 0 default).cs (rowL .u32 r 1) (rowR .apiEntry r 2) (rowR .apiEvent r 3)) (Q0a.of (aC a 1))) (λX=> .bool (X.1)) (λX=>[⟨true,96,52, .gen [(Q01.cellsW (X.2) (.all 1) (.all 2) (.all 3))]⟩,⟨false,25,1, .ints .u32 (X.2).A0.Mem⟩,⟨false,126,4, .recs .apiEntry (X.2).B4⟩,⟨false,66,3, .recs .apiEvent (X.2).A6⟩])
theorem Z01:Q06 pG Z2m:=oT (.cons Z2d (.nil)) Tryz.func159 Tryz.call159 [.row 25 1 (.ints .u32), .row 126 4 (.recs .apiEntry), .row 66 3 (.recs .apiEvent)] [] 2
def Qac(r:Q01)(e:Q0a):Tree Q01:=
.an (Qku r e) (.lv (Qhb r e) λ(x0:Bool×Q01)=> .br x0.1 (.cn (decide (40*(x0.2.B4.length+1)<=140737488355328)) (.lf ({A0:=x0.2.A0,A3:=x0.2.A3,B4:=x0.2.B4++[{At:=x0.2.A0.A1,C5:=e}],A6:=x0.2.A6}))) (.lf x0.2))
def Qjf r e:=(Qac r e).m
abbrev Qi3 r e:=(Qac r e).p
def Zc0:Q0d:=mkKP 1 213 [true,false] [.ptr 0, .agg Q0a.sig] [.box 96 52 (Q01.sigW (.row 1) (.row 2) (.row 3)), .arr 25 1 (.ints .u32), .arr 126 4 (.recs .apiEntry), .arr 66 3 (.recs .apiEvent)] (λa r=>Qi3 (Q01.ofW (r.getD 0 default).cs (rowL .u32 r 1) (rowR .apiEntry r 2) (rowR .apiEvent r 3)) (Q0a.of (aC a 1))) (λa r=>Qjf (Q01.ofW (r.getD 0 default).cs (rowL .u32 r 1) (rowR .apiEntry r 2) (rowR .apiEvent r 3)) (Q0a.of (aC a 1))) (λX=> .tup []) (λX=>[⟨true,96,52, .gen [(Q01.cellsW X (.all 1) (.all 2) (.all 3))]⟩,⟨false,25,1, .ints .u32 X.A0.Mem⟩,⟨false,126,4, .recs .apiEntry X.B4⟩,⟨false,66,3, .recs .apiEvent X.A6⟩])
theorem Z57:Q06 pG Zc0:=qz drawn Q0m (.cons Z01 (.nil)) Tryz.func213 Tryz.call213 (λa r=>Qac (Q01.ofW (r.getD 0 default).cs (rowL .u32 r 1) (rowR .apiEntry r 2) (rowR .apiEvent r 3)) (Q0a.of (aC a 1))) [.row 25 1 (.ints .u32), .row 126 4 (.recs .apiEntry), .row 66 3 (.recs .apiEvent)] [] 2 (λ_ _ _=>by kernel_rfl) (λ_ _=>rfl) (λ_ _ h=>h)
def Qje(is:Bool)(n:Int):Tree Int:=
.br is (.cn (decide (0<=wrap u64 n)) (.lf (ishl u32 1 (wrap u64 n)))) (.lf 0)
def Q9y is n:=(Qje is n).m
abbrev Qan is n:=(Qje is n).p
def Zjo:Q0d:=mT 104 [] true [.one (.bool), .one (.int .i64)] [] (λa r=>Qje (argB a 0) (argI a 1)) (λX=> .int .u32 X) (λX=>[])
theorem Zfb:Q06 pG Zjo:=oT (.nil) Tryz.func104 Tryz.call104 [] [] 2
def Qjk(t:Q0i):Tree Bool:=
.lf t.D5
def Qab t:=(Qjk t).m
def Qsg:Q0d:=mS 105 [] true [.agg Q0i.sig] [] (λa r=>Qjk (Q0i.of (aC a 0))) (λX=> .bool X) (λX=>[])
theorem Qql:Q06 pG Qsg:=oS (.nil) Tryz.func105 Tryz.call105 [] [] 2
def Qfy(c:Q0c):Tree Bool:=
.lf (decide ((c.D3.length:Int)>(0:Int)))
def Q6 c:=(Qfy c).m
def Qpd:Q0d:=mS 106 [] true [.agg Q0c.sig] [] (λa r=>Qfy (Q0c.of (aC a 0))) (λX=> .bool X) (λX=>[])
theorem Qnt:Q06 pG Qpd:=oS (.nil) Tryz.func106 Tryz.call106 [] [] 2
def Qk7(d0:Q0f):Tree Bool:=
.br (d0.C0==2) (.lf true) (.lf (d0.C0==3))
def Qc2 d0:=(Qk7 d0).m
def Qv2:Q0d:=mS 107 [] true [.agg Q0f.sig] [] (λa r=>Qk7 (Q0f.of (aC a 0))) (λX=> .bool X) (λX=>[])
theorem Qsc:Q06 pG Qv2:=oS (.nil) Tryz.func107 Tryz.call107 [] [] 2
def Ql1(n:Q0r):Tree Bool:=
.lf n.B8
def Qdg n:=(Ql1 n).m
def Qwz:Q0d:=mS 108 [] true [.agg Q0r.sig] [] (λa r=>Ql1 (Q0r.of (aC a 0))) (λX=> .bool X) (λX=>[])
theorem Qup:Q06 pG Qwz:=oS (.nil) Tryz.func108 Tryz.call108 [] [] 2
def Qo1(b:Q09)(z:(Int)×(Int)):Prop:=0<=z.2/\z.2<=32
def Qgz(b:Q09)(z:(Int)×(Int)):Nat:=(32-z.2).toNat
def Qkd(b:Q09):Tree Int:=
.lp inferInstance (Qgz b (0,0)+1) ((rZ/\rE (0:Int)/\rE (0:Int)/\True)/\(rE b.D0/\rE b.C2/\True)/\True) (0,0) λ(v0:Int×Int)=> .br (decide (v0.2<32)) (.cn (decide (0<=wrap u64 v0.2)) (.nx ((rZ/\rE ((wrap i64 (v0.1+wrap i64 (iand u32 (ishr u32 b.C2 (wrap u64 v0.2)) 1))):Int)/\rE ((wrap i64 (v0.2+1)):Int)/\True)/\(rE b.D0/\rE b.C2/\True)/\True) (Sum.inl (wrap i64 (v0.1+wrap i64 (iand u32 (ishr u32 b.C2 (wrap u64 v0.2)) 1)),wrap i64 (v0.2+1))))) (.lf (Sum.inr v0.1))
def Qew b:=(Qkd b).m
theorem Z5d(b:Q09):(Qkd b).p:=by
 unfold Tree.p Qkd
 repeat'(first|refine w_lp (inv:=Qo1 b) (μ:=Qgz b) ?_ (cK _) (λ_ _=> ?_)|exact trivial|refine w_br (λ_=> ?_) (λ_=> ?_)|refine w_cn ?_ ?_|refine w_an ?_ ?_|refine w_lv (λ_ _=> ?_)|refine w_nx ?_|refine w_lf ?_|refine And.intro ?_ ?_)
 all_goals((try simp only[Qo1,Qgz]at*);exact fin0)
def Z9y:LInv:={
 α:=(Int)×(Int)
 F:=λst a=>([(1, .ptr 0 0 0),(3, .int i64 a.1),(4, .int i64 a.2)],[⟨true,40,2, .gen [[(cT st 1 0),(cT st 1 1)]]⟩])
 a0:=λst=>((lk st 3).toInt,(lk st 4).toInt)
 ex0:=λst=>[]++[(rX st 1 0)]}
def Z38:List (Nat×LInv):=[(3,Z9y)]
def Zgk:Q0d:=mS 177 [] true [.agg Q09.sig] [] (λa r=>Qkd (Q09.of (aC a 0))) (λX=> .int .i64 X) (λX=>[])
theorem Qtb:Q06 pG Zgk:=oS (.nil) Tryz.func177 Tryz.call177 [] Z38 3 (λ_ _ _=>by kernel_rfl) (λa r=>Z5d (Q09.of (aC a 0))) (λ_ X=>by kernel_rfl)
def Q9z(b:Q09):Tree Bool:=
.lv (Qew b) λ(x0:Int)=> .lf (wrap u64 x0 !=wrap u64 b.D0)
def Q3u b:=(Q9z b).m
def Qp0:Q0d:=mS 109 [] true [.agg Q09.sig] [] (λa r=>Q9z (Q09.of (aC a 0))) (λX=> .bool X) (λX=>[])
theorem Qnp:Q06 pG Qp0:=oS (.cons Qtb (.nil)) Tryz.func109 Tryz.call109 [] [] 2
def Qgl(m:Q00):Tree Int:=
.lv (Qab m.B0) λ(x0:Bool)=> .an (Qan x0 0) (.lv (Q9y x0 0) λ(x1:Int)=> .lv (Q6 m.A4) λ(x2:Bool)=> .an (Qan x2 1) (.lv (Q9y x2 1) λ(x3:Int)=> .lv (Qc2 m.B1) λ(x4:Bool)=> .an (Qan x4 2) (.lv (Q9y x4 2) λ(x5:Int)=> .lv (Qdg m.C4) λ(x6:Bool)=> .an (Qan x6 3) (.lv (Q9y x6 3) λ(x7:Int)=> .lv (Q3u m.A2) λ(x8:Bool)=> .an (Qan x8 4) (.lv (Q9y x8 4) λ(x9:Int)=> .lf (ior u32 (ior u32 (ior u32 (ior u32 x1 x3) x5) x7) x9))))))
def Qhs m:=(Qgl m).m
abbrev Qr1 m:=(Qgl m).p
def Zd:Q0d:=mT 27 [] true [.agg Q00.sig] [] (λa r=>Qgl (Q00.of (aC a 0))) (λX=> .int .u32 X) (λX=>[])
theorem Zce:Q06 pG Zd:=oT (.cons Zfb (.cons Qql (.cons Qnt (.cons Qsc (.cons Qup (.cons Qnp (.nil))))))) Tryz.func27 Tryz.call27 [] [] 2
def Q8r(m:Q00):Tree Int:=
.an (Qr1 m) (.lv (Qhs m) λ(x0:Int)=> .lf (iand u32 x0 m.B2.B6.a7))
def Q32 m:=(Q8r m).m
abbrev Qh1 m:=(Q8r m).p
def Z5m:Q0d:=mT 111 [] true [.agg Q00.sig] [] (λa r=>Q8r (Q00.of (aC a 0))) (λX=> .int .u32 X) (λX=>[])
theorem Qo0:Q06 pG Z5m:=oT (.cons Zce (.nil)) Tryz.func111 Tryz.call111 [] [] 2
def Qf2(m:Q00):Tree Bool:=
.br m.A7 (.an (Qh1 m) (.lv (Q32 m) λ(x0:Int)=> .lf (x0==0))) (.lf false)
def Qdd m:=(Qf2 m).m
abbrev Qmq m:=(Qf2 m).p
def Zi5:Q0d:=mT 29 [] true [.agg Q00.sig] [] (λa r=>Qf2 (Q00.of (aC a 0))) (λX=> .bool X) (λX=>[])
theorem Qxq:Q06 pG Zi5:=oT (.cons Qo0 (.nil)) Tryz.func29 Tryz.call29 [] [] 2
def Q8(m:Q00):Tree Bool:=
.lv (Q6o m) λ(x0:Bool)=> .br (!x0) (.lf true) (.br m.A9 (.lf true) (.an (Qmq m) (.lv (Qdd m) λ(x1:Bool)=> .br x1 (.lf true) (.lf (decide (m.A1>=1152921504606846976))))))
def Q0v m:=(Q8 m).m
abbrev Qfn m:=(Q8 m).p
def Zfj:Q0d:=mT 115 [] true [.agg Q00.sig] [] (λa r=>Q8 (Q00.of (aC a 0))) (λX=> .bool X) (λX=>[])
theorem Qtw:Q06 pG Zfj:=oT (.cons Qsf (.cons Qxq (.nil))) Tryz.func115 Tryz.call115 [] [] 2
end
noncomputable section
def Z87(b:Bool):Tree Int:=
.br b (.lf 1) (.lf 0)
def Qc0 b:=(Z87 b).m
def Zmo:Q0d:=mS 281 [] true [.one (.bool)] [] (λa r=>Z87 (argB a 0)) (λX=> .int .u32 X) (λX=>[])
theorem Qse:Q06 pG Zmo:=oS (.nil) Tryz.func281 Tryz.call281 [] [] 2
def Qi4(c:Q05)(cause bad:Int):Tree Q05:=
.lv (Qc0 (iand u32 c.B6.a0 (1:Int) !=(0:Int))) λ(x0:Int)=> .lv (Qc0 (iand u32 c.B6.a0 (2:Int) !=(0:Int))) λ(x1:Int)=> .lf ({X:=c.X,Pc:=c.B6.a1,B6:={a0:=ior u32 (Qhm u32 (ior u32 (ior u32 (Qhm u32 c.B6.a0 24) (wrap u32 (8*x0))) (wrap u32 (16*x1))) 2) 1,a1:=c.B6.a1,a2:=c.Pc,a3:=wrap u32 cause,a4:=bad,a5:=c.B6.a5,a6:=c.B6.a6,a7:=c.B6.a7}})
def Q2z c cause bad:=(Qi4 c cause bad).m
def Zkf:Q0d:=mS 244 [] true [.agg Q05.sig, .one (.int .i64), .one (.int .u32)] [] (λa r=>Qi4 (Q05.of (aC a 0)) (argI a 1) (argI a 2)) (λX=> .agg (Q05.cells X)) (λX=>[])
theorem Qk2:Q06 pG Zkf:=oS (.cons Qse (.nil)) Tryz.func244 Tryz.call244 [] [] 2
def Q87(m:List Int)(addr size:Int):Tree Bool:=
let T1:Tree (Bool):= .cn (decide (wrap u32 size≠0)) (.br (dB addr (wrap u32 size)==0) (.lv (Q3y m) λ(x0:Int)=> .lf (decide (addr<wrap u32 (wrap i64 (128*x0))))) (.lf false)); .br (size !=1) (.br (size !=4) (.lf false) T1) T1
def Q24 m addr size:=(Q87 m addr size).m
abbrev Qec m addr size:=(Q87 m addr size).p
def Zco:Q0d:=mT 245 [] true [.one (.ints .u32), .one (.int .u32), .one (.int .i64)] [] (λa r=>Q87 (argL .u32 a 0) (argI a 1) (argI a 2)) (λX=> .bool X) (λX=>[])
theorem Qkl:Q06 pG Zco:=oT (.cons Qe2 (.nil)) Tryz.func245 Tryz.call245 [] [] 2
def Q41(m:List Int)(addr size:Int):Tree (Int×Bool):=
.an (Qec m addr size) (.lv (Q24 m addr size) λ(x0:Bool)=> .br (!x0) (.lf (0,false)) (.cn (bS 1 1&&bT 0 1&&decide (0<=wrap u32 (eS addr 4)/\wrap u32 (eS addr 4)<(m.length:Int))) (.br (size==1) (.cn (decide (0<=wrap u32 (8*dB addr 4))) (.lf (iand u32 (ishr u32 (m.getD (dC (wrap u32 (eS addr 4))) 0) (wrap u32 (8*dB addr 4))) 255,true))) (.lf (m.getD (dC (wrap u32 (eS addr 4))) 0,true)))))
def Q1f m addr size:=(Q41 m addr size).m
abbrev Qdq m addr size:=(Q41 m addr size).p
def Zi6:Q0d:=mT 187 [] true [.one (.ints .u32), .one (.int .u32), .one (.int .i64)] [] (λa r=>Q41 (argL .u32 a 0) (argI a 1) (argI a 2)) (λX=> .tup [.int .u32 (X.1), .bool (X.2)]) (λX=>[])
theorem Qow:Q06 pG Zi6:=oT (.cons Qkl (.nil)) Tryz.func187 Tryz.call187 [] [] 2
def Q6x(w:Int):Tree (Q0n×Bool):=
.lv (Q2h (wrap i64 (ishr u32 w 24))) λ(x0:Int)=>let E5:=({Op:=0,A:=0,B:=0,C:=0,Imm:=0}:Q0n); .br (x0==0) (.lf (E5,false)) (.br (x0==2) (let E3:=({Op:=wrap i64 (ishr u32 w 24),A:=wrap i64 (iand u32 (ishr u32 w 20) 15),B:=wrap i64 (iand u32 (ishr u32 w 16) 15),C:=wrap i64 (iand u32 w 65535),Imm:=0}:Q0n); .lv (Q7s E3) λ(x1:Bool)=> .br (!x1) (.lf (E5,false)) (.lf (E3,true))) (let T1:Tree ((Q0n×Bool)):=let E2:=({Op:=wrap i64 (ishr u32 w 24),A:=wrap i64 (iand u32 (ishr u32 w 20) 15),B:=wrap i64 (iand u32 (ishr u32 w 16) 15),C:=0,Imm:=wrap i32 (wrap i16 (iand u32 w 65535))}:Q0n); .lv (Q7s E2) λ(x2:Bool)=> .br (!x2) (.lf (E5,false)) (.lf (E2,true)); .br (x0==3) T1 (.br (x0==7) T1 (let E4:=({Op:=wrap i64 (ishr u32 w 24),A:=wrap i64 (iand u32 (ishr u32 w 20) 15),B:=wrap i64 (iand u32 (ishr u32 w 16) 15),C:=0,Imm:=wrap i32 (iand u32 w 65535)}:Q0n); .lv (Q7s E4) λ(x4:Bool)=> .br (!x4) (.lf (E5,false)) (.lf (E4,true))))))
def Q21 w:=(Q6x w).m
def Zbj:Q0d:=mS 188 [] true [.one (.int .u32)] [] (λa r=>Q6x (argI a 0)) (λX=> .tup [.agg (Q0n.cells (X.1)), .bool (X.2)]) (λX=>[])
theorem Qr7:Q06 pG Zbj:=oS (.cons Qfv (.cons Qu7 (.nil))) Tryz.func188 Tryz.call188 [] [] 2
def Qyl(access:Int):Tree Bool:=
.br (decide (access>=1)) (.lf (decide (access<=3))) (.lf false)
def Qek access:=(Qyl access).m
def Zek:Q0d:=mS 292 [] true [.one (.int .i64)] [] (λa r=>Qyl (argI a 0)) (λX=> .bool X) (λX=>[])
theorem Qsy:Q06 pG Zek:=oS (.nil) Tryz.func292 Tryz.call292 [] [] 2
def Qyn(c:Q05):Tree Bool:=
.lf (iand u32 c.B6.a0 (5:Int)==(4:Int))
def Qlx c:=(Qyn c).m
def Zcw:Q0d:=mS 293 [] true [.agg Q05.sig] [] (λa r=>Qyn (Q05.of (aC a 0))) (λX=> .bool X) (λX=>[])
theorem Zaj:Q06 pG Zcw:=oS (.nil) Tryz.func293 Tryz.call293 [] [] 2
def Q8s(access:Int):Tree Int:=
.br (access==1) (.lf 4) (.br (access==3) (.lf 6) (.lf 5))
def Q22 access:=(Q8s access).m
def Z65:Q0d:=mS 294 [] true [.one (.int .i64)] [] (λa r=>Q8s (argI a 0)) (λX=> .int .i64 X) (λX=>[])
theorem Qo4:Q06 pG Z65:=oS (.nil) Tryz.func294 Tryz.call294 [] [] 2
def Q9a(m:List Int)(root va access:Int):Tree Q1a:=
.lv (Q22 access) λ(x0:Int)=> .lv (Q3y m) λ(x1:Int)=> .lv (Qek access) λ(x2:Bool)=>let E4:=({Addr:=0,F4:=0,F0:=x0}:Q1a); .br (!x2) (.lf (E4)) (.br (decide (va>=4096)) (.lf (E4)) (.br (decide (root>=wrap u32 x1)) (.lf (E4)) (let E6:=wrap u32 (root*128)+wrap u32 (4*wrap u32 (eS va 128));let E3:=eS (wrap u32 E6) 4; .cn (bS 1 1&&bT 0 1&&decide (0<=wrap u32 E3/\wrap u32 E3<(m.length:Int))) (let E5:=m.getD (dC (wrap u32 E3)) 0; .br (iand u32 E5 (1:Int)==(0:Int)) (.lf (E4)) (let T1:Tree (Q1a):= .br (decide (iand u32 (ishr u32 E5 8) 255>=wrap u32 x1)) (.lf (E4)) (.lf ({Addr:=wrap u32 (wrap u32 (iand u32 (ishr u32 E5 8) (255:Int)*(128:Int))+dB va 128),F4:=wrap u32 E6,F0:=0}));let T2:Tree (Q1a):= .br (access==1) (.br (iand u32 E5 (4:Int)==(0:Int)) (.lf (E4)) T1) T1; .br (access==3) (.br (iand u32 E5 (2:Int)==(0:Int)) (.lf (E4)) T2) T2)))))
def Q6l m root va access:=(Q9a m root va access).m
abbrev Qu2 m root va access:=(Q9a m root va access).p
def Zj1:Q0d:=mT 295 [] true [.one (.ints .u32), .one (.int .u32), .one (.int .u32), .one (.int .i64)] [] (λa r=>Q9a (argL .u32 a 0) (argI a 1) (argI a 2) (argI a 3)) (λX=> .agg (Q1a.cells X)) (λX=>[])
theorem Zda:Q06 pG Zj1:=oT (.cons Qo4 (.cons Qe2 (.cons Qsy (.nil)))) Tryz.func295 Tryz.call295 [] [] 2
def Qeo(m:List Int)(entry access:Int):Tree (List Int):=
.an (Qec m entry 4) (.lv (Q24 m entry 4) λ(x0:Bool)=> .br (!x0) (.lf m) (let E3:=bS 1 1&&bT 0 1&&decide (0<=wrap u32 (eS entry 4)/\wrap u32 (eS entry 4)<(m.length:Int)); .cn E3 (.cn E3 (let E4:=dC (wrap u32 (eS entry 4));let E1:=dD m E4 (ior u32 (m.getD E4 0) 8); .br (access==3) (let E2:=bS 1 1&&bT 0 1&&decide (0<=wrap u32 (eS entry 4)/\wrap u32 (eS entry 4)<(↑(dH E1):Int)); .cn E2 (.cn E2 (.lf (dD E1 E4 (ior u32 (aK E1 E4 0) 16))))) (.lf E1)))))
def Qoa m entry access:=(Qeo m entry access).m
abbrev Quy m entry access:=(Qeo m entry access).p
def Zj2:Q0d:=mT 296 [true,false,false] true [.one (.row 0), .one (.int .u32), .one (.int .i64)] [.arr 25 1 (.ints .u32)] (λa r=>Qeo (rowL .u32 r 0) (argI a 1) (argI a 2)) (λX=> .tup []) (λX=>[⟨false,25,1, .ints .u32 X⟩])
theorem Zhb:Q06 pG Zj2:=oT (.cons Qkl (.nil)) Tryz.func296 Tryz.call296 [] [] 2
def Q7y(c:Q05)(m:List Int)(va size access:Int):Tree (Int×Int×(List Int)):=
.lv (Qek access) λ(x0:Bool)=> .br (!x0) (.lf (0,5,m)) (let T1:Tree ((Int×Int×(List Int))):= .cn (decide (wrap u32 size≠0)) (.br (dB va (wrap u32 size) !=0) (.lf (0,3,m)) (.lv (Qlx c) λ(x1:Bool)=> .br (!x1) (.an (Qec m va size) (.lv (Q24 m va size) λ(x2:Bool)=> .br (!x2) (.lv (Q22 access) λ(x3:Int)=> .lf (0,x3,m)) (.lf (va,0,m)))) (.an (Qu2 m c.B6.a6 va access) (.lv (Q6l m c.B6.a6 va access) λ(x4:Q1a)=> .br (x4.F0 !=0) (.lf (0,x4.F0,m)) (.an (Quy m x4.F4 access) (.lv (Qoa m x4.F4 access) λ(x5:List Int)=> .lf (x4.Addr,0,x5))))))); .br (size !=1) (.br (size !=4) (.lf (0,5,m)) T1) T1)
def Q18 c m va size access:=(Q7y c m va size access).m
abbrev Q8u c m va size access:=(Q7y c m va size access).p
def Zds:Q0d:=mT 254 [false,true,false,false,false] true [.agg Q05.sig, .one (.row 0), .one (.int .u32), .one (.int .i64), .one (.int .i64)] [.arr 25 1 (.ints .u32)] (λa r=>Q7y (Q05.of (aC a 0)) (rowL .u32 r 0) (argI a 2) (argI a 3) (argI a 4)) (λX=> .tup [.int .u32 (X.1), .int .i64 (X.2.1)]) (λX=>[⟨false,25,1, .ints .u32 (X.2.2)⟩])
theorem Qsk:Q06 pG Zds:=oT (.cons Qsy (.cons Zaj (.cons Qkl (.cons Qo4 (.cons Zda (.cons Zhb (.nil))))))) Tryz.func254 Tryz.call254 [] [] 2
def Ql7(op:Int):Tree Bool:=
.br (decide (op>=57)) (.lf (decide (op<=64))) (.lf false)
def Q3f op:=(Ql7 op).m
def Qx5:Q0d:=mS 255 [] true [.one (.int .i64)] [] (λa r=>Ql7 (argI a 0)) (λX=> .bool X) (λX=>[])
theorem Qsz:Q06 pG Qx5:=oS (.nil) Tryz.func255 Tryz.call255 [] [] 2
def Qdn(c:Q05):Tree Q05:=
.lv (Qc0 (iand u32 c.B6.a0 (8:Int) !=(0:Int))) λ(x0:Int)=> .lv (Qc0 (iand u32 c.B6.a0 (16:Int) !=(0:Int))) λ(x1:Int)=> .lf ({X:=c.X,Pc:=c.B6.a2,B6:={a0:=ior u32 (ior u32 (Qhm u32 c.B6.a0 3) (wrap u32 (1*x0))) (wrap u32 (2*x1)),a1:=c.B6.a1,a2:=c.B6.a2,a3:=c.B6.a3,a4:=c.B6.a4,a5:=c.B6.a5,a6:=c.B6.a6,a7:=c.B6.a7}})
def Qjp c:=(Qdn c).m
def Z9m:Q0d:=mS 297 [] true [.agg Q05.sig] [] (λa r=>Qdn (Q05.of (aC a 0))) (λX=> .agg (Q05.cells X)) (λX=>[])
theorem Z6i:Q06 pG Z9m:=oS (.cons Qse (.nil)) Tryz.func297 Tryz.call297 [] [] 2
def Qer(c:Q05)(r v:Int):Tree Q05:=
.br (decide (r>0)) (.br (decide (r<16)) (.cn (bT 0 1&&decide (0<=r/\r<(↑16:Int))) (.lf ({X:=A16.of 0 (dD (A16.l c.X) r.toNat v),Pc:=c.Pc,B6:=c.B6}))) (.lf c)) (.lf c)
def Q1y c r v:=(Qer c r v).m
abbrev Q35 c r v:=(Qer c r v).p
def Znj:Q0d:=mT 219 [] true [.agg Q05.sig, .one (.int .i64), .one (.int .u32)] [] (λa r=>Qer (Q05.of (aC a 0)) (argI a 1) (argI a 2)) (λX=> .agg (Q05.cells X)) (λX=>[])
theorem Qep:Q06 pG Znj:=oT (.nil) Tryz.func219 Tryz.call219 [] [] 2
def Qd1(c:Q05)(csr v:Int):Tree Q05:=
let E4:=bT 0 1&&decide (0<=csr/\csr<(↑8:Int));let T2:Tree (Q05):= .cn E4 (.lf ({X:=c.X,Pc:=c.Pc,B6:=A8.of 0 (dD (A8.l c.B6) csr.toNat (iand u32 v 31))})); .br (csr==0) T2 (.br (csr==7) T2 (.br (csr==6) (.cn E4 (.lf ({X:=c.X,Pc:=c.Pc,B6:=A8.of 0 (dD (A8.l c.B6) csr.toNat (iand u32 v 255))}))) (let T3:Tree (Q05):= .cn E4 (.lf ({X:=c.X,Pc:=c.Pc,B6:=A8.of 0 (dD (A8.l c.B6) csr.toNat (Qhm u32 v 3))})); .br (csr==1) T3 (.br (csr==2) T3 (let T1:Tree (Q05):= .cn E4 (.lf ({X:=c.X,Pc:=c.Pc,B6:=A8.of 0 (dD (A8.l c.B6) csr.toNat v)})); .br (csr==3) T1 (.br (csr==4) T1 (.br (csr==5) T1 (.lf c))))))))
def Qhv c csr v:=(Qd1 c csr v).m
abbrev Qri c csr v:=(Qd1 c csr v).p
def Zfg:Q0d:=mT 298 [] true [.agg Q05.sig, .one (.int .i64), .one (.int .u32)] [] (λa r=>Qd1 (Q05.of (aC a 0)) (argI a 1) (argI a 2)) (λX=> .agg (Q05.cells X)) (λX=>[])
theorem Zc:Q06 pG Zfg:=oT (.nil) Tryz.func298 Tryz.call298 [] [] 2
def Q8c(c:Q05)(i:Q0n):Tree (Q05×Q17):=
.br (i.Op==56) (.lv (Q2z c 7 0) λ(x0:Q05)=> .lf (x0,{B5:=0,D1:=0,D9:=0,Value:=0})) (.br (i.Op==57) (.lv (Qjp c) λ(x1:Q05)=> .lf (x1,{B5:=0,D1:=0,D9:=0,Value:=0})) (.br (i.Op==58) (.cn (bT 0 1&&decide (0<=i.Imm/\i.Imm<(↑8:Int))) (let E3:=aK (A8.l c.B6) i.Imm.toNat 0; .an (Q35 c i.A E3) (.lv (Q1y c i.A E3) λ(x2:Q05)=> .lf ({X:=x2.X,Pc:=wrap u32 (x2.Pc+4),B6:=x2.B6},{B5:=0,D1:=0,D9:=0,Value:=0})))) (let E2:=bT 0 1&&decide (0<=i.A/\i.A<(↑16:Int)); .br (i.Op==59) (.cn E2 (let E4:=aK (A16.l c.X) i.A.toNat 0; .an (Qri c (wrap i64 i.Imm) E4) (.lv (Qhv c (wrap i64 i.Imm) E4) λ(x3:Q05)=> .lf ({X:=x3.X,Pc:=wrap u32 (x3.Pc+4),B6:=x3.B6},{B5:=0,D1:=0,D9:=0,Value:=0})))) (let E1:=({X:=c.X,Pc:=wrap u32 (c.Pc+4),B6:=c.B6}:Q05); .br (i.Op==60) (.lf (E1,{B5:=1,D1:=wrap i64 i.Imm,D9:=i.A,Value:=0})) (.br (i.Op==61) (.cn E2 (.lf (E1,{B5:=2,D1:=wrap i64 i.Imm,D9:=0,Value:=aK (A16.l c.X) i.A.toNat 0}))) (.br (i.Op==62) (.lf (E1,{B5:=3,D1:=0,D9:=0,Value:=0})) (.br (i.Op==63) (.lf (E1,{B5:=5,D1:=0,D9:=0,Value:=0})) (.br (i.Op==64) (.lf (E1,{B5:=4,D1:=0,D9:=0,Value:=0})) (.lf (E1,{B5:=0,D1:=0,D9:=0,Value:=0}))))))))))
def Qjn c i:=(Q8c c i).m
abbrev Qnz c i:=(Q8c c i).p
def Zam:Q0d:=mT 256 [] true [.agg Q05.sig, .agg Q0n.sig] [] (λa r=>Q8c (Q05.of (aC a 0)) (Q0n.of (aC a 1))) (λX=> .tup [.agg (Q05.cells (X.1)), .agg (Q17.cells (X.2))]) (λX=>[])
theorem Z5y:Q06 pG Zam:=oT (.cons Qk2 (.cons Z6i (.cons Qep (.cons Zc (.nil))))) Tryz.func256 Tryz.call256 [] [] 2
def Qz(op a b:Int):Tree Bool:=
.br (op==40) (.lf (a==b)) (.br (op==41) (.lf (a !=b)) (.br (op==42) (.lf (decide (wrap i32 a<wrap i32 b))) (.br (op==43) (.lf (decide (wrap i32 a>=wrap i32 b))) (.br (op==44) (.lf (decide (a<b))) (.lf (decide (a>=b)))))))
def Q2b op a b:=(Qz op a b).m
def Zd6:Q0d:=mS 299 [] true [.one (.int .i64), .one (.int .u32), .one (.int .u32)] [] (λa r=>Qz (argI a 0) (argI a 1) (argI a 2)) (λX=> .bool X) (λX=>[])
theorem Zbd:Q06 pG Zd6:=oS (.nil) Tryz.func299 Tryz.call299 [] [] 2
def Qiq(c:Q05)(i:Q0n):Tree Q05:=
.br (i.Op==48) (.an (Q35 c i.A (wrap u32 (c.Pc+4))) (.lv (Q1y c i.A (wrap u32 (c.Pc+4))) λ(x0:Q05)=> .lf ({X:=x0.X,Pc:=wrap u32 (c.Pc+wrap u32 (4*wrap u32 i.Imm)),B6:=x0.B6}))) (let E1:=bT 0 1&&decide (0<=i.B/\i.B<(↑16:Int)); .br (i.Op==49) (.cn E1 (.an (Q35 c i.A (wrap u32 (c.Pc+4))) (.lv (Q1y c i.A (wrap u32 (c.Pc+4))) λ(x1:Q05)=> .lf ({X:=x1.X,Pc:=wrap u32 (aK (A16.l c.X) i.B.toNat 0+wrap u32 i.Imm),B6:=x1.B6})))) (.cn (bT 0 1&&decide (0<=i.A/\i.A<(↑16:Int))) (.cn E1 (.lv (Q2b i.Op (aK (A16.l c.X) i.A.toNat 0) (aK (A16.l c.X) i.B.toNat 0)) λ(x2:Bool)=> .br x2 (.lf ({X:=c.X,Pc:=wrap u32 (c.Pc+wrap u32 (4*wrap u32 i.Imm)),B6:=c.B6})) (.lf ({X:=c.X,Pc:=wrap u32 (c.Pc+4),B6:=c.B6}))))))
def Z1j c i:=(Qiq c i).m
abbrev Qsn c i:=(Qiq c i).p
def Zhr:Q0d:=mT 257 [] true [.agg Q05.sig, .agg Q0n.sig] [] (λa r=>Qiq (Q05.of (aC a 0)) (Q0n.of (aC a 1))) (λX=> .agg (Q05.cells X)) (λX=>[])
theorem Zf1:Q06 pG Zhr:=oT (.cons Qep (.cons Zbd (.nil))) Tryz.func257 Tryz.call257 [] [] 2
def Q7r(x n:Int):Tree Int:=
.br (decide (n<1)) (.lf 0) (.br (decide (n>=32)) (.lf x) (.cn (decide (0<=wrap u64 n)) (.cn (decide (0<=wrap u64 (wrap i64 (n-1)))) (let E1:=iand u32 x (wrap u32 (ishl u32 1 (wrap u64 n)-1)); .br (ishr u32 E1 (wrap u64 (wrap i64 (n-1)))==1) (.cn (decide (0<=wrap u64 n)) (.lf (ior u32 E1 (ishl u32 4294967295 (wrap u64 n))))) (.lf E1)))))
def Q3g x n:=(Q7r x n).m
abbrev Qci x n:=(Q7r x n).p
def Qvu:Q0d:=mT 301 [] true [.one (.int .u32), .one (.int .i64)] [] (λa r=>Q7r (argI a 0) (argI a 1)) (λX=> .int .u32 X) (λX=>[])
theorem Qu4:Q06 pG Qvu:=oT (.nil) Tryz.func301 Tryz.call301 [] [] 2
def Q9x(c:Q05)(m:List Int)(i:Q0n):Tree (Q05×(List Int)):=
.cn (bT 0 1&&decide (0<=i.B/\i.B<(↑16:Int))) (let E4:=wrap u32 (aK (A16.l c.X) i.B.toNat 0+wrap u32 i.Imm);let E5:=aK (A16.l c.X) i.A.toNat 0;let E6:=bT 0 1&&decide (0<=i.A/\i.A<(↑16:Int));let E7:=({X:=c.X,Pc:=wrap u32 (c.Pc+4),B6:=c.B6}:Q05);let T1:Tree ((Q05×(List Int))):=let T3:Tree ((Q05×(List Int))):= .an (Q8u c m E4 4 3) (.lv (Q18 c m E4 4 3) λ(x0:Int×Int×List Int)=> .br (x0.2.1 !=0) (.lv (Q2z c x0.2.1 E4) λ(x1:Q05)=> .lf (x1,x0.2.2)) (.cn E6 (.an (Qg9 x0.2.2 x0.1 4 E5) (.lv (Qa8 x0.2.2 x0.1 4 E5) λ(x2:List Int)=> .lf (E7,x2))))); .br (i.Op==35) T3 (.br (i.Op==36) T3 (.an (Q8u c m E4 4 2) (.lv (Q18 c m E4 4 2) λ(x6:Int×Int×List Int)=> .br (x6.2.1 !=0) (.lv (Q2z c x6.2.1 E4) λ(x7:Q05)=> .lf (x7,x6.2.2)) (.an (Qdq x6.2.2 x6.1 4) (.lv (Q1f x6.2.2 x6.1 4) λ(x8:Int×Bool)=> .br (i.Op==33) (.an (Qci x8.1 8) (.lv (Q3g x8.1 8) λ(x9:Int)=> .an (Q35 c i.A x9) (.lv (Q1y c i.A x9) λ(x10:Q05)=> .lf ({X:=x10.X,Pc:=wrap u32 (x10.Pc+4),B6:=x10.B6},x6.2.2)))) (.an (Q35 c i.A x8.1) (.lv (Q1y c i.A x8.1) λ(x11:Q05)=> .lf ({X:=x11.X,Pc:=wrap u32 (x11.Pc+4),B6:=x11.B6},x6.2.2)))))))); .br (i.Op==32) T1 (.br (i.Op==35) T1 (let T2:Tree ((Q05×(List Int))):= .an (Q8u c m E4 1 3) (.lv (Q18 c m E4 1 3) λ(x24:Int×Int×List Int)=> .br (x24.2.1 !=0) (.lv (Q2z c x24.2.1 E4) λ(x25:Q05)=> .lf (x25,x24.2.2)) (.cn E6 (.an (Qg9 x24.2.2 x24.1 1 E5) (.lv (Qa8 x24.2.2 x24.1 1 E5) λ(x26:List Int)=> .lf (E7,x26))))); .br (i.Op==35) T2 (.br (i.Op==36) T2 (.an (Q8u c m E4 1 2) (.lv (Q18 c m E4 1 2) λ(x30:Int×Int×List Int)=> .br (x30.2.1 !=0) (.lv (Q2z c x30.2.1 E4) λ(x31:Q05)=> .lf (x31,x30.2.2)) (.an (Qdq x30.2.2 x30.1 1) (.lv (Q1f x30.2.2 x30.1 1) λ(x32:Int×Bool)=> .br (i.Op==33) (.an (Qci x32.1 8) (.lv (Q3g x32.1 8) λ(x33:Int)=> .an (Q35 c i.A x33) (.lv (Q1y c i.A x33) λ(x34:Q05)=> .lf ({X:=x34.X,Pc:=wrap u32 (x34.Pc+4),B6:=x34.B6},x30.2.2)))) (.an (Q35 c i.A x32.1) (.lv (Q1y c i.A x32.1) λ(x35:Q05)=> .lf ({X:=x35.X,Pc:=wrap u32 (x35.Pc+4),B6:=x35.B6},x30.2.2)))))))))))
def Q57 c m i:=(Q9x c m i).m
abbrev Qlk c m i:=(Q9x c m i).p
def Z3g:Q0d:=mT 258 [false,true,false] true [.agg Q05.sig, .one (.row 0), .agg Q0n.sig] [.arr 25 1 (.ints .u32)] (λa r=>Q9x (Q05.of (aC a 0)) (rowL .u32 r 0) (Q0n.of (aC a 2))) (λX=> .agg (Q05.cells (X.1))) (λX=>[⟨false,25,1, .ints .u32 (X.2)⟩])
theorem Z00:Q06 pG Z3g:=oT (.cons Qsk (.cons Qk2 (.cons Z3u (.cons Qow (.cons Qu4 (.cons Qep (.nil))))))) Tryz.func258 Tryz.call258 [] [] 2
def Qyw(op:Int):Tree Int:=
.br (op==16) (.lf 1) (.br (op==17) (.lf 3) (.br (op==18) (.lf 4) (.br (op==19) (.lf 5) (.br (op==20) (.lf 6) (.br (op==21) (.lf 7) (.br (op==22) (.lf 8) (.br (op==23) (.lf 12) (.lf op))))))))
def Z9a op:=(Qyw op).m
def Zh0:Q0d:=mS 302 [] true [.one (.int .i64)] [] (λa r=>Qyw (argI a 0)) (λX=> .int .i64 X) (λX=>[])
theorem Z9o:Q06 pG Zh0:=oS (.nil) Tryz.func302 Tryz.call302 [] [] 2
def Qak(a b:Int):Tree (Int×Int):=
.br (b==0) (.lf (4294967295,a)) (.cn (decide (wrap i64 (wrap i32 b)≠0)) (.cn (decide (wrap i64 (wrap i32 b)≠0)) (.lf (wrap u32 (wrap i64 (eS (wrap i64 (wrap i32 a)) (wrap i64 (wrap i32 b)))),wrap u32 (dB (wrap i64 (wrap i32 a)) (wrap i64 (wrap i32 b)))))))
def Qc5 a b:=(Qak a b).m
abbrev Qjm a b:=(Qak a b).p
def Zap:Q0d:=mT 303 [] true [.one (.int .u32), .one (.int .u32)] [] (λa r=>Qak (argI a 0) (argI a 1)) (λX=> .tup [.int .u32 (X.1), .int .u32 (X.2)]) (λX=>[])
theorem Z5g:Q06 pG Zap:=oT (.nil) Tryz.func303 Tryz.call303 [] [] 2
def Qll(op a b:Int):Tree (Int×Bool):=
.lv (Z9a op) λ(x0:Int)=> .br (x0==1) (.lf (wrap u32 (a+b),true)) (.br (x0==2) (.lf (wrap u32 (a-b),true)) (.br (x0==3) (.lf (iand u32 a b,true)) (.br (x0==4) (.lf (ior u32 a b,true)) (.br (x0==5) (.lf (ixor u32 a b,true)) (.br (x0==6) (.lf (ishl u32 a (iand u32 b 31),true)) (.br (x0==7) (.lf (ishr u32 a (iand u32 b 31),true)) (.br (x0==8) (.lf (wrap u32 (ishr i32 (wrap i32 a) (iand u32 b 31)),true)) (.br (x0==9) (.lf (wrap u32 (a*b),true)) (.br (x0==10) (.an (Qjm a b) (.lv (Qc5 a b) λ(x1:Int×Int)=> .lf (x1.1,true))) (.br (x0==11) (.an (Qjm a b) (.lv (Qc5 a b) λ(x2:Int×Int)=> .lf (x2.2,true))) (.br (x0==12) (.lv (Qc0 (decide (wrap i32 a<wrap i32 b))) λ(x3:Int)=> .lf (x3,true)) (.br (x0==13) (.lv (Qc0 (decide (a<b))) λ(x4:Int)=> .lf (x4,true)) (.lf (0,false))))))))))))))
def Qe7 op a b:=(Qll op a b).m
abbrev Qo8 op a b:=(Qll op a b).p
def Zof:Q0d:=mT 259 [] true [.one (.int .i64), .one (.int .u32), .one (.int .u32)] [] (λa r=>Qll (argI a 0) (argI a 1) (argI a 2)) (λX=> .tup [.int .u32 (X.1), .bool (X.2)]) (λX=>[])
theorem Zin:Q06 pG Zof:=oT (.cons Z9o (.cons Z5g (.cons Qse (.nil)))) Tryz.func259 Tryz.call259 [] [] 2
def Qpl(c:Q05)(m:List Int):Tree (Q05×Q17×(List Int)):=
.an (Q8u c m c.Pc 4 1) (.lv (Q18 c m c.Pc 4 1) λ(x0:Int×Int×List Int)=> .br (x0.2.1 !=0) (.lv (Q2z c x0.2.1 c.Pc) λ(x1:Q05)=> .lf (x1,{B5:=0,D1:=0,D9:=0,Value:=0},x0.2.2)) (.an (Qdq x0.2.2 x0.1 4) (.lv (Q1f x0.2.2 x0.1 4) λ(x2:Int×Bool)=> .lv (Q21 x2.1) λ(x3:Q0n×Bool)=> .br (!x3.2) (.lv (Q2z c 1 x2.1) λ(x4:Q05)=> .lf (x4,{B5:=0,D1:=0,D9:=0,Value:=0},x0.2.2)) (.lv (Q3f x3.1.Op) λ(x5:Bool)=>let T1:Tree ((Q05×Q17×(List Int))):= .br (decide (x3.1.Op>=56)) (.an (Qnz c x3.1) (.lv (Qjn c x3.1) λ(x7:Q05×Q17)=> .lf (x7.1,x7.2,x0.2.2))) (.br (decide (x3.1.Op>=40)) (.an (Qsn c x3.1) (.lv (Z1j c x3.1) λ(x8:Q05)=> .lf (x8,{B5:=0,D1:=0,D9:=0,Value:=0},x0.2.2))) (.br (decide (x3.1.Op>=32)) (.an (Qlk c x0.2.2 x3.1) (.lv (Q57 c x0.2.2 x3.1) λ(x9:Q05×List Int)=> .lf (x9.1,{B5:=0,D1:=0,D9:=0,Value:=0},x9.2))) (.br (x3.1.Op==24) (.an (Q35 c x3.1.A (ishl u32 (wrap u32 x3.1.Imm) 16)) (.lv (Q1y c x3.1.A (ishl u32 (wrap u32 x3.1.Imm) 16)) λ(x10:Q05)=> .lf ({X:=x10.X,Pc:=wrap u32 (x10.Pc+4),B6:=x10.B6},{B5:=0,D1:=0,D9:=0,Value:=0},x0.2.2))) (let E2:=aK (A16.l c.X) x3.1.B.toNat 0;let E3:=bT 0 1&&decide (0<=x3.1.B/\x3.1.B<(↑16:Int)); .br (decide (x3.1.Op<=13)) (.cn (bT 0 1&&decide (0<=x3.1.C/\x3.1.C<(↑16:Int))) (.cn E3 (let E4:=aK (A16.l c.X) x3.1.C.toNat 0; .an (Qo8 x3.1.Op E2 E4) (.lv (Qe7 x3.1.Op E2 E4) λ(x11:Int×Bool)=> .an (Q35 c x3.1.A x11.1) (.lv (Q1y c x3.1.A x11.1) λ(x12:Q05)=> .lf ({X:=x12.X,Pc:=wrap u32 (x12.Pc+4),B6:=x12.B6},{B5:=0,D1:=0,D9:=0,Value:=0},x0.2.2)))))) (.cn E3 (.an (Qo8 x3.1.Op E2 (wrap u32 x3.1.Imm)) (.lv (Qe7 x3.1.Op E2 (wrap u32 x3.1.Imm)) λ(x13:Int×Bool)=> .an (Q35 c x3.1.A x13.1) (.lv (Q1y c x3.1.A x13.1) λ(x14:Q05)=> .lf ({X:=x14.X,Pc:=wrap u32 (x14.Pc+4),B6:=x14.B6},{B5:=0,D1:=0,D9:=0,Value:=0},x0.2.2))))))))); .br x5 (.br (iand u32 c.B6.a0 (1:Int)==(0:Int)) (.lv (Q2z c 2 x2.1) λ(x6:Q05)=> .lf (x6,{B5:=0,D1:=0,D9:=0,Value:=0},x0.2.2)) T1) T1))))
def Q7t c m:=(Qpl c m).m
abbrev Qru c m:=(Qpl c m).p
def xB:Q0d:=mT 217 [false,true] true [.agg Q05.sig, .one (.row 0)] [.arr 25 1 (.ints .u32)] (λa r=>Qpl (Q05.of (aC a 0)) (rowL .u32 r 0)) (λX=> .tup [.agg (Q05.cells (X.1)), .agg (Q17.cells (X.2.1))]) (λX=>[⟨false,25,1, .ints .u32 (X.2.2)⟩])
theorem Z7o:Q06 pG xB:=oT (.cons Qsk (.cons Qk2 (.cons Qow (.cons Qr7 (.cons Qsz (.cons Z5y (.cons Zf1 (.cons Z00 (.cons Qep (.cons Zin (.nil))))))))))) Tryz.func217 Tryz.call217 [] [] 2
end
noncomputable section
def Qds(steps:Int):Tree Int:=
.lf (if 4000<if 0>steps then 0 else steps then 4000 else if 0>steps then 0 else steps)
def Q0j steps:=(Qds steps).m
def Z1d:Q0d:=mS 158 [] true [.one (.int .i64)] [] (λa r=>Qds (argI a 0)) (λX=> .int .i64 X) (λX=>[])
theorem Qzv:Q06 pG Z1d:=oS (.nil) Tryz.func158 Tryz.call158 [] [] 2
def Qw4(t:Q0i)(now:Int):Tree Bool:=
.br t.D2 (.lf (decide (now>=t.C9))) (.lf false)
def Q86 t now:=(Qw4 t now).m
def Zod:Q0d:=mS 214 [] true [.agg Q0i.sig, .one (.int .u32)] [] (λa r=>Qw4 (Q0i.of (aC a 0)) (argI a 1)) (λX=> .bool X) (λX=>[])
theorem Zk4:Q06 pG Zod:=oS (.nil) Tryz.func214 Tryz.call214 [] [] 2
def Qei(m:Q00)(z:(Int)):Nat:=(32-z).toNat
def Q4o(m:Q00):Tree Q05:=
.an (Qh1 m) (.lv (Q32 m) λ(x0:Int)=> .br (iand u32 m.B2.B6.a0 (2:Int)==(0:Int)) (.lf m.B2) (.br (x0==0) (.lf m.B2) (.lp inferInstance (Qei m 0+1) ((rZ/\rZ/\rE (x0:Int)/\rE (0:Int)/\True)/\(mE m (((Els.Nil (Els.ints u32 m.Mem)\/rE (1:Nat))/\rE m.Mem)) True)/\(rE (0:Int)/\rE (0:Int)/\rE (0:Int)/\rE (0:Int)/\rE (0:Int)/\rE (0:Int)/\rE (0:Int)/\rE (0:Int)/\rE (0:Int)/\rE (0:Int)/\rE (0:Int)/\rE (0:Int)/\rE (0:Int)/\rE (0:Int)/\rE (0:Int)/\rE (0:Int)/\rE (0:Int)/\rE (0:Int)/\rE (0:Int)/\rE (0:Int)/\rE (0:Int)/\rE (0:Int)/\rE (0:Int)/\rE (0:Int)/\rE (0:Int)/\True)/\True) 0 λ(v0:Int)=> .cn (decide (0<=wrap u64 v0)) (.br (iand u32 (ishr u32 x0 (wrap u64 v0)) (1:Int)==(0:Int)) (.nx ((rZ/\rZ/\rE (x0:Int)/\rE ((wrap i64 (v0+1)):Int)/\True)/\(mE m (((Els.Nil (Els.ints u32 m.Mem)\/rE (1:Nat))/\rE m.Mem)) True)/\(rE (0:Int)/\rE (0:Int)/\rE (0:Int)/\rE (0:Int)/\rE (0:Int)/\rE (0:Int)/\rE (0:Int)/\rE (0:Int)/\rE (0:Int)/\rE (0:Int)/\rE (0:Int)/\rE (0:Int)/\rE (0:Int)/\rE (0:Int)/\rE (0:Int)/\rE (0:Int)/\rE (0:Int)/\rE (0:Int)/\rE (0:Int)/\rE (0:Int)/\rE (0:Int)/\rE (0:Int)/\rE (0:Int)/\rE (0:Int)/\rE (0:Int)/\True)/\True) (Sum.inl (wrap i64 (v0+1)))) (.lv (Q2z m.B2 (wrap i64 (16+v0)) 0) λ(x1:Q05)=> .lf (Sum.inr x1))))))
def Q0o m:=(Q4o m).m
abbrev Q7c m:=(Q4o m).p
def Qs6:LInv:={
 α:=(Int)
 F:=λst a=>([(1, .ptr 0 0 0),(2, .ptr 1 0 0),(3,(lk st 3)),(4, .int i64 a)],[⟨true,43,49, .gen [mB (cT st 1)]⟩,⟨true,29,25, .gen [[(cT st 2 0),(cT st 2 1),(cT st 2 2),(cT st 2 3),(cT st 2 4),(cT st 2 5),(cT st 2 6),(cT st 2 7),(cT st 2 8),(cT st 2 9),(cT st 2 10),(cT st 2 11),(cT st 2 12),(cT st 2 13),(cT st 2 14),(cT st 2 15),(cT st 2 16),(cT st 2 17),(cT st 2 18),(cT st 2 19),(cT st 2 20),(cT st 2 21),(cT st 2 22),(cT st 2 23),(cT st 2 24)]]⟩])
 a0:=λst=>(lk st 4).toInt
 ex0:=λst=>[]++[(rX st 1 0),(rX st 2 1)]}
def Qp9:List (Nat×LInv):=[(5,Qs6)]
def Qu6:Q0d:=mT 186 [] true [.agg Q00.sig] [] (λa r=>Q4o (Q00.of (aC a 0))) (λX=> .agg (Q05.cells X)) (λX=>[])
theorem Qct:Q06 pG Qu6:=oT (.cons Qo0 (.cons Qk2 (.nil))) Tryz.func186 Tryz.call186 [] Qp9 3
def Qg1(m:Q00):Tree Bool:=
.an (Q7c m) (.lv (Q0o m) λ(x0:Q05)=> .br (iand u32 x0.B6.a0 (1:Int)==(0:Int)) (.lf false) (.an (Qdq m.Mem x0.Pc 4) (.lv (Q1f m.Mem x0.Pc 4) λ(x1:Int×Bool)=> .lv (Q21 x1.1) λ(x2:Q0n×Bool)=> .br x1.2 (.br x2.2 (.br (x2.1.Op==60) (.lf (x2.1.Imm==2)) (.lf false)) (.lf false)) (.lf false))))
def Qfa m:=(Qg1 m).m
abbrev Qko m:=(Qg1 m).p
def Ze2:Q0d:=mT 116 [] true [.agg Q00.sig] [] (λa r=>Qg1 (Q00.of (aC a 0))) (λX=> .bool X) (λX=>[])
theorem Qsx:Q06 pG Ze2:=oT (.cons Qct (.cons Qow (.cons Qr7 (.nil)))) Tryz.func116 Tryz.call116 [] [] 2
def Q7v(m:Q00):Tree Bool:=
.an (Qfn m) (.lv (Q0v m) λ(x0:Bool)=> .br x0 (.lf false) (.an (Qko m) (.lv (Qfa m) λ(x1:Bool)=> .lf x1)))
def Q0h m:=(Q7v m).m
abbrev Qco m:=(Q7v m).p
def Qvn:Q0d:=mT 31 [] true [.agg Q00.sig] [] (λa r=>Q7v (Q00.of (aC a 0))) (λX=> .bool X) (λX=>[])
theorem Qtk:Q06 pG Qvn:=oT (.cons Qtw (.cons Qsx (.nil))) Tryz.func31 Tryz.call31 [] [] 2
def Q3l(c:Q0c)(port:Int):Tree (Q0c×Int):=
let T1:Tree ((Q0c×Int)):= .br (port==0) (.cn (decide ((0:Int)<=(1:Int)/\1<=(c.D3.length:Int)/\(c.D3.length:Int)<=(c.D3.length:Int))) (.cn (decide ((0:Int)<=(0:Int)/\0<(c.D3.length:Int))) (.lf ({D3:=cY (dC (c.D3.length:Int)-dC 1) (cZ (dC 1) c.D3)},wrap u32 (↑(eU (c.D3.getD (dC 0) (0:UInt8))):Int))))) (.br (port==1) (.lf (c,wrap u32 (c.D3.length:Int))) (.lf (c,0))); .br (port==0) (.br ((c.D3.length:Int)==(0:Int)) (.lf (c,4294967295)) T1) T1
def Q5g c port:=(Q3l c port).m
theorem Qu9(c:Q0c)(port:Int):(Q3l c port).p:=by
 unfold Tree.p Q3l
 repeat'(first|exact trivial|refine w_br (λ_=> ?_) (λ_=> ?_)|refine w_cn ?_ ?_|refine w_an ?_ ?_|refine w_lv (λ_ _=> ?_)|refine w_nx ?_|refine w_lf ?_|refine And.intro ?_ ?_)
 all_goals(exact fin0)
def Qzy:Q0d:=mS 260 [] true [.agg Q0c.sig, .one (.int .i64)] [] (λa r=>Q3l (Q0c.of (aC a 0)) (argI a 1)) (λX=> .tup [.agg (Q0c.cells (X.1)), .int .u32 (X.2)]) (λX=>[])
theorem Qlf:Q06 pG Qzy:=oS (.nil) Tryz.func260 Tryz.call260 [] [] 2 (λ_ _ _=>by kernel_rfl) (λa r=>Qu9 (Q0c.of (aC a 0)) (argI a 1)) (λ_ X=>by kernel_rfl)
def Qfe(t:Q0i):Tree Int:=
.br t.D5 (.lf 1) (.lf 0)
def Qgk t:=(Qfe t).m
def Z6e:Q0d:=mS 261 [] true [.agg Q0i.sig] [] (λa r=>Qfe (Q0i.of (aC a 0))) (λX=> .int .u32 X) (λX=>[])
theorem Qp2:Q06 pG Z6e:=oS (.nil) Tryz.func261 Tryz.call261 [] [] 2
def Qh7(d0:Q0f)(port:Int):Tree Int:=
.br (port==4) (.lf d0.C1) (.br (port==5) (.lf d0.Frame) (.br (port==6) (.lf (wrap u32 d0.C0)) (.lf 0)))
def Qi9 d0 port:=(Qh7 d0 port).m
def Zc9:Q0d:=mS 262 [] true [.agg Q0f.sig, .one (.int .i64)] [] (λa r=>Qh7 (Q0f.of (aC a 0)) (argI a 1)) (λX=> .int .u32 X) (λX=>[])
theorem Qr9:Q06 pG Zc9:=oS (.nil) Tryz.func262 Tryz.call262 [] [] 2
def Qfu(n:Q0r)(port:Int):Tree Int:=
.br (port==7) (.lf n.Frame) (.br (port==8) (.lf n.F3) (.br (port==9) (.br n.C7 (.br n.B8 (.lf (wrap u32 ((1:Int)+(2:Int)))) (.lf 1)) (.br n.B8 (.lf (wrap u32 ((0:Int)+(2:Int)))) (.lf 0))) (.lf 0)))
def Qht n port:=(Qfu n port).m
def Ze7:Q0d:=mS 263 [] true [.agg Q0r.sig, .one (.int .i64)] [] (λa r=>Qfu (Q0r.of (aC a 0)) (argI a 1)) (λX=> .int .u32 X) (λX=>[])
theorem Qtr:Q06 pG Ze7:=oS (.nil) Tryz.func263 Tryz.call263 [] [] 2
def Q6c(b:Q09)(port:Int):Tree Int:=
.br (port==10) (.lf b.D0) (.br (port==11) (.lv (Qew b) λ(x0:Int)=> .lf (wrap u32 x0)) (.lf 0))
def Q5j b port:=(Q6c b port).m
def Z0b:Q0d:=mS 264 [] true [.agg Q09.sig, .one (.int .i64)] [] (λa r=>Q6c (Q09.of (aC a 0)) (argI a 1)) (λX=> .int .u32 X) (λX=>[])
theorem Qkv:Q06 pG Z0b:=oS (.cons Qtb (.nil)) Tryz.func264 Tryz.call264 [] [] 2
def Qkz(m:Q00)(port clock:Int):Tree (Int×Q00):=
.br (decide (port<=1)) (.lv (Q5g m.A4 port) λ(x0:Q0c×Int)=> .lf (x0.2,{B2:=m.B2,Mem:=m.Mem,A4:=x0.1,B0:=m.B0,B1:=m.B1,C4:=m.C4,A2:=m.A2,A1:=m.A1,A7:=m.A7,A9:=m.A9})) (.br (port==2) (.lf (clock,m)) (.br (port==3) (.lv (Qgk m.B0) λ(x1:Int)=> .lf (x1,m)) (.br (decide (port<=6)) (.lv (Qi9 m.B1 port) λ(x2:Int)=> .lf (x2,m)) (.br (decide (port<=9)) (.lv (Qht m.C4 port) λ(x3:Int)=> .lf (x3,m)) (.lv (Q5j m.A2 port) λ(x4:Int)=> .lf (x4,m))))))
def Qdi m port clock:=(Qkz m port clock).m
def zB:Q0d:=mS 218 [true,false,false] true [.ptr 0, .one (.int .i64), .one (.int .u32)] [.box 43 49 (Q00.sigW (.row 1)), .arr 25 1 (.ints .u32)] (λa r=>Qkz (Q00.ofW (r.getD 0 default).cs (rowL .u32 r 1)) (argI a 1) (argI a 2)) (λX=> .int .u32 (X.1)) (λX=>[⟨true,43,49, .gen [(Q00.cellsW (X.2) (.all 1))]⟩,⟨false,25,1, .ints .u32 (X.2).Mem⟩])
theorem Znd:Q06 pG zB:=oS (.cons Qlf (.cons Qp2 (.cons Qr9 (.cons Qtr (.cons Qkv (.nil)))))) Tryz.func218 Tryz.call218 [.row 25 1 (.ints .u32)] [] 2
def Qx4(deadline:Int):Tree Q0i:=
.br (deadline==0) (.lf ({D2:=false,C9:=0,D5:=false})) (.lf ({D2:=true,C9:=deadline,D5:=false}))
def Quo deadline:=(Qx4 deadline).m
def Zn7:Q0d:=mS 265 [] true [.one (.int .u32)] [] (λa r=>Qx4 (argI a 0)) (λX=> .agg (Q0i.cells X)) (λX=>[])
theorem Z1i:Q06 pG Zn7:=oS (.nil) Tryz.func265 Tryz.call265 [] [] 2
def Qto(x n:Int)(z:(Int)×(List Int)):Prop:=0<=z.1/\(z.2.length:Int)=z.1/\(z.1<=n\/z.1=0)
def Qfo(x n:Int)(z:(Int)×(List Int)):Nat:=(n-z.1).toNat
def Qhu(x n:Int):Tree (List UInt8):=
.lp inferInstance (Qfo x n (0,[])+1) ((rE (x:Int)/\rE (n:Int)/\True/\rE (0:Int)/\True)/\rE ([]:List Int)/\True) (0,[]) λ(v0:Int×List Int)=> .br (decide (v0.1<n)) (.cn (decide (0<=wrap u64 (wrap i64 (8*v0.1)))) (.cn (decide (1*(v0.2.length+1)<=140737488355328)) (.nx ((rE (x:Int)/\rE (n:Int)/\True/\rE ((wrap i64 (v0.1+1)):Int)/\True)/\rE ((v0.2++[wrap u8 (ishr u32 x (wrap u64 (wrap i64 (8*v0.1))))]):List Int)/\True) (Sum.inl (wrap i64 (v0.1+1),v0.2++[wrap u8 (ishr u32 x (wrap u64 (wrap i64 (8*v0.1))))]))))) (.lf (Sum.inr (bytesOf v0.2)))
def Zc7 x n:=(Qhu x n).m
def Qk1(x n:Int):Prop:=
n<=1000000000000
theorem Zel(x n:Int)(hw:Qk1 x n):(Qhu x n).p:=by
 simp only[Qk1]at hw
 unfold Tree.p Qhu
 repeat'(first|refine w_lp (inv:=Qto x n) (μ:=Qfo x n) ?_ (cK _) (λ_ _=> ?_)|exact trivial|refine w_br (λ_=> ?_) (λ_=> ?_)|refine w_cn ?_ ?_|refine w_an ?_ ?_|refine w_lv (λ_ _=> ?_)|refine w_nx ?_|refine w_lf ?_|refine And.intro ?_ ?_)
 all_goals((try simp only[Qto,Qfo]at*);exact fin0)
def Zi4:LInv:={
 α:=(Int)×(List Int)
 F:=λst a=>([(0,(lk st 0)),(1,(lk st 1)),(5, .all 0),(6, .int i64 a.1)],[⟨false,5,1, .ints u8 a.2⟩])
 a0:=λst=>((lk st 6).toInt,(Q5e st.rows (rN st 5)))
 ex0:=λst=>[]++[(rX st 5 0)]}
def Za8:List (Nat×LInv):=[(3,Zi4)]
def Znv:Q0d:=mkP 315 [] true [.one (.int .u32), .one (.int .i64)] [] (λa r=>Qk1 (argI a 0) (argI a 1)) (λa r=>Zc7 (argI a 0) (argI a 1)) (λX=> .str X) (λX=>[])
theorem Zjb:Q06 pG Znv:=Q0q drawn Q0m (.nil) Tryz.func315 Tryz.call315 (λa r=>Qhu (argI a 0) (argI a 1)) [] Za8 3 (hp:=λa r h=>Zel (argI a 0) (argI a 1) h)
def Qi5(m:List Int)(frame:Int)(z:(Int)×(List Int)):Nat:=(32-z.1).toNat
def Qa3(m:List Int)(frame:Int):Tree ((List UInt8)×Bool):=
.br (decide (frame<0)) (.lf ([],false)) (.lv (Q3y m) λ(x0:Int)=> .br (decide (frame>=x0)) (.lf ([],false)) (.lp inferInstance (Qi5 m frame (0,[])+1) ((((Els.Nil (Els.ints u32 m)\/rE (1:Nat))/\rE (m:List Int))/\rE (frame:Int)/\True/\rE (0:Int)/\True)/\rE ([]:List Int)/\True) (0,[]) λ(v0:Int×List Int)=> .br (decide (v0.1<32)) (.cn (bS 1 1&&bT 0 1&&decide (0<=wrap i64 (wrap i64 (frame*32)+v0.1)/\wrap i64 (wrap i64 (frame*32)+v0.1)<(m.length:Int))) (let E1:=m.getD (dC (wrap i64 (wrap i64 (frame*32)+v0.1))) 0; .an (Qk1 E1 4) (.lv (Zc7 E1 4) λ(x1:List UInt8)=> .cn (decide (1*(v0.2.length+dH (Qbh x1))<=140737488355328)) (.nx ((((Els.Nil (Els.ints u32 m)\/rE (1:Nat))/\rE (m:List Int))/\rE (frame:Int)/\True/\rE ((wrap i64 (v0.1+1)):Int)/\True)/\rE ((v0.2++Qbh x1):List Int)/\True) (Sum.inl (wrap i64 (v0.1+1),v0.2++Qbh x1)))))) (.lf (Sum.inr (bytesOf v0.2,true)))))
def Qj8 m frame:=(Qa3 m frame).m
abbrev Qh9 m frame:=(Qa3 m frame).p
def Zfr:LInv:={
 α:=(Int)×(List Int)
 F:=λst a=>([(0,(lk st 0)),(1,(lk st 1)),(6, .all 0),(7, .int i64 a.1)],[⟨false,5,1, .ints u8 a.2⟩])
 a0:=λst=>((lk st 7).toInt,(Q5e st.rows (rN st 6)))
 ex0:=λst=>[]++[(rX st 6 0)]}
def Z5o:List (Nat×LInv):=[(5,Zfr)]
def Zj:Q0d:=mT 304 [] true [.one (.ints .u32), .one (.int .i64)] [] (λa r=>Qa3 (argL .u32 a 0) (argI a 1)) (λX=> .tup [.str (X.1), .bool (X.2)]) (λX=>[])
theorem Qyx:Q06 pG Zj:=oT (.cons Qe2 (.cons Zjb (.nil))) Tryz.func304 Tryz.call304 [] Z5o 3
def Qra(d0:Q0f)(at0:Int):Tree (Q04×Bool):=
.br (d0.C0 !=1) (.lf ({B5:=0,At:=0,C1:=0,C8:=[]},false)) (.br (d0.D8==1) (.lf ({B5:=3,At:=at0,C1:=d0.B7,C8:=[]},true)) (.br (d0.D8==2) (.lf ({B5:=4,At:=at0,C1:=d0.B7,C8:=d0.C3},true)) (.lf ({B5:=0,At:=0,C1:=0,C8:=[]},false))))
def Qk0 d0 at0:=(Qra d0 at0).m
def Z5a:Q0d:=mS 305 [] true [.agg Q0f.sig, .one (.int .u64)] [] (λa r=>Qra (Q0f.of (aC a 0)) (argI a 1)) (λX=> .tup [.agg (Q04.cells (X.1)), .bool (X.2)]) (λX=>[])
theorem Z4b:Q06 pG Z5a:=oS (.nil) Tryz.func305 Tryz.call305 [] [] 2
def Q90(d0:Q0f)(m:List Int)(port v at0:Int):Tree (Q0f×(List Q04)):=
.br (port==4) (.lf ({Blocks:=d0.Blocks,C1:=v,Frame:=d0.Frame,C0:=d0.C0,D8:=d0.D8,B7:=d0.B7,B3:=d0.B3,C3:=d0.C3},[])) (.br (port==5) (.lf ({Blocks:=d0.Blocks,C1:=d0.C1,Frame:=v,C0:=d0.C0,D8:=d0.D8,B7:=d0.B7,B3:=d0.B3,C3:=d0.C3},[])) (.br (port !=6) (.lf (d0,[])) (let T1:Tree ((Q0f×(List Q04))):= .br (d0.C0==0) (let T2:Tree ((Q0f×(List Q04))):= .lf ({Blocks:=d0.Blocks,C1:=d0.C1,Frame:=d0.Frame,C0:=3,D8:=d0.D8,B7:=d0.B7,B3:=d0.B3,C3:=d0.C3},[]); .br (decide (d0.C1>=d0.Blocks)) T2 (.lv (Q27 m d0.Frame) λ(x0:Bool)=> .br (!x0) T2 (.br (v==2) (.an (Qh9 m (wrap i64 d0.Frame)) (.lv (Qj8 m (wrap i64 d0.Frame)) λ(x1:List UInt8×Bool)=>let E4:=({Blocks:=d0.Blocks,C1:=d0.C1,Frame:=d0.Frame,C0:=1,D8:=wrap i64 v,B7:=d0.C1,B3:=d0.Frame,C3:=x1.1}:Q0f); .lv (Qk0 E4 at0) λ(x2:Q04×Bool)=> .lf (E4,[x2.1]))) (let E5:=({Blocks:=d0.Blocks,C1:=d0.C1,Frame:=d0.Frame,C0:=1,D8:=wrap i64 v,B7:=d0.C1,B3:=d0.Frame,C3:=[]}:Q0f); .lv (Qk0 E5 at0) λ(x3:Q04×Bool)=> .lf (E5,[x3.1]))))) (.lf (d0,[])); .br (v==0) (let T3:Tree ((Q0f×(List Q04))):= .lf ({Blocks:=d0.Blocks,C1:=d0.C1,Frame:=d0.Frame,C0:=0,D8:=d0.D8,B7:=d0.B7,B3:=d0.B3,C3:=d0.C3},[]); .br (d0.C0==2) T3 (.br (d0.C0==3) T3 (.br (v==1) T1 (.br (v==2) T1 (.lf (d0,[])))))) (.br (v==1) T1 (.br (v==2) T1 (.lf (d0,[])))))))
def Qfx d0 m port v at0:=(Q90 d0 m port v at0).m
abbrev Qgy d0 m port v at0:=(Q90 d0 m port v at0).p
def Z53:Q0d:=mT 266 [] true [.agg Q0f.sig, .one (.ints .u32), .one (.int .i64), .one (.int .u32), .one (.int .u64)] [] (λa r=>Q90 (Q0f.of (aC a 0)) (argL .u32 a 1) (argI a 2) (argI a 3) (argI a 4)) (λX=> .tup [.agg (Q0f.cells (X.1)), .sl 4 (.recs .apiOutput (X.2)) true]) (λX=>[])
theorem Qo3:Q06 pG Z53:=oT (.cons Qgg (.cons Qyx (.cons Z4b (.nil)))) Tryz.func266 Tryz.call266 [.sl (.recs .apiOutput) true] [] 2
def Qah(n:Q0r)(m:List Int)(port v at0:Int):Tree (Q0r×(List Q04)):=
.br (port==7) (.lf ({Frame:=v,E0:=n.E0,C7:=n.C7,B9:=n.B9,B8:=n.B8,F3:=n.F3},[])) (.br (port==8) (.lf ({Frame:=n.Frame,E0:=v,C7:=n.C7,B9:=n.B9,B8:=n.B8,F3:=n.F3},[])) (.br (port !=9) (.lf (n,[])) (.br (v==0) (.lf ({Frame:=n.Frame,E0:=n.E0,C7:=n.C7,B9:=n.B9,B8:=false,F3:=0},[])) (let T1:Tree ((Q0r×(List Q04))):= .br (v==2) (.lv (Q27 m n.Frame) λ(x2:Bool)=> .br x2 (.br (!n.C7) (.br (!n.B8) (.lf ({Frame:=n.Frame,E0:=n.E0,C7:=true,B9:=n.Frame,B8:=n.B8,F3:=n.F3},[])) (.lf (n,[]))) (.lf (n,[]))) (.lf (n,[]))) (.lf (n,[])); .br (v==1) (.br (decide (n.E0>=1)) (.br (decide (n.E0<=128)) (.lv (Q27 m n.Frame) λ(x0:Bool)=> .br x0 (.an (Qh9 m (wrap i64 n.Frame)) (.lv (Qj8 m (wrap i64 n.Frame)) λ(x1:List UInt8×Bool)=> .cn (decide ((0:Int)<=(0:Int)/\0<=n.E0/\n.E0<=(x1.1.length:Int))) (.lf (n,[{B5:=2,At:=at0,C1:=0,C8:=cY (dC n.E0-dC 0) (cZ (dC 0) x1.1)}])))) T1) T1) T1) T1))))
def Qi7 n m port v at0:=(Qah n m port v at0).m
abbrev Qiu n m port v at0:=(Qah n m port v at0).p
def Z9v:Q0d:=mT 267 [] true [.agg Q0r.sig, .one (.ints .u32), .one (.int .i64), .one (.int .u32), .one (.int .u64)] [] (λa r=>Qah (Q0r.of (aC a 0)) (argL .u32 a 1) (argI a 2) (argI a 3) (argI a 4)) (λX=> .tup [.agg (Q0r.cells (X.1)), .sl 4 (.recs .apiOutput (X.2)) true]) (λX=>[])
theorem Qqz:Q06 pG Z9v:=oT (.cons Qgg (.cons Qyx (.nil))) Tryz.func267 Tryz.call267 [.sl (.recs .apiOutput) true] [] 2
def Qjg(b:Q09)(m:List Int)(port v:Int)(z:(Int)×(List Int)):Nat:=(32-z.1).toNat
def Q5(b:Q09)(m:List Int)(port v:Int):Tree (Q09×(List Int)):=
let T1:Tree ((Q09×(List Int))):= .br (port==11) (.br (decide (v<32)) (.cn (decide (0<=v)) (.lf ({D0:=b.D0,C2:=Qhm u32 b.C2 (ishl u32 1 v)},m))) (.lf (b,m))) (.lf (b,m)); .br (port==10) (.lv (Q27 m v) λ(x0:Bool)=> .br x0 (.cn (decide (0<=v)) (.br (iand u32 (ishr u32 b.C2 v) (1:Int)==(0:Int)) (.cn (decide (0<=v)) (.lp inferInstance (Qjg b m port v (0,m)+1) ((True/\rE (v:Int)/\rZ/\rZ/\rE (0:Int)/\True)/\rE (m:List Int)/\(rE b.D0/\rE ((ior u32 b.C2 (ishl u32 1 v)):Int)/\True)/\(rE (0:Int)/\rE (0:Int)/\True)/\True) (0,m) λ(v0:Int×List Int)=> .br (decide (v0.1<32)) (let E2:=wrap i64 (wrap i64 v*32)+v0.1; .cn (bS 1 1&&bT 0 1&&decide (0<=wrap i64 E2/\wrap i64 E2<(v0.2.length:Int))) (.nx ((True/\rE (v:Int)/\rZ/\rZ/\rE ((wrap i64 (v0.1+1)):Int)/\True)/\rE ((dD v0.2 (dC (wrap i64 (wrap i64 (wrap i64 v*32)+v0.1))) 0):List Int)/\(rE b.D0/\rE ((ior u32 b.C2 (ishl u32 1 v)):Int)/\True)/\(rE (0:Int)/\rE (0:Int)/\True)/\True) (Sum.inl (wrap i64 (v0.1+1),dD v0.2 (dC (wrap i64 E2)) 0)))) (.lf (Sum.inr ({D0:=b.D0,C2:=ior u32 b.C2 (ishl u32 1 v)},v0.2))))) T1)) T1) T1
def Q6r b m port v:=(Q5 b m port v).m
abbrev Qmb b m port v:=(Q5 b m port v).p
def Zg:LInv:={
 α:=(Int)×(List Int)
 F:=λst a=>([(1, .all 0),(3,(lk st 3)),(4, .ptr 1 0 0),(8, .ptr 2 0 0),(9, .int i64 a.1)],[⟨false,25,1, .ints u32 a.2⟩,⟨true,40,2, .gen [[(cT st 4 0),(cT st 4 1)]]⟩,⟨true,40,2, .gen [[(cT st 8 0),(cT st 8 1)]]⟩])
 a0:=λst=>((lk st 9).toInt,(Q5e st.rows 0))
 ex0:=λst=>[0]++[(rX st 4 1),(rX st 8 2)]}
def Z56:List (Nat×LInv):=[(4,Zg)]
def Zic:Q0d:=mT 268 [false,true,false,false] true [.agg Q09.sig, .one (.row 0), .one (.int .i64), .one (.int .u32)] [.arr 25 1 (.ints .u32)] (λa r=>Q5 (Q09.of (aC a 0)) (rowL .u32 r 0) (argI a 2) (argI a 3)) (λX=> .agg (Q09.cells (X.1))) (λX=>[⟨false,25,1, .ints .u32 (X.2)⟩])
theorem Qz2:Q06 pG Zic:=oT (.cons Qgg (.nil)) Tryz.func268 Tryz.call268 [] Z56 3
def Qey(m:Q00)(port v:Int):Tree ((List Q04)×Q00):=
.br (port==0) (.lf ([{B5:=1,At:=m.A1,C1:=0,C8:=[(λ(n:Int)=>eV n.toNat) (wrap u8 v)]}],m)) (.br (decide (port<=2)) (.lf ([],m)) (.br (port==3) (.lv (Quo v) λ(x0:Q0i)=> .lf ([],{B2:=m.B2,Mem:=m.Mem,A4:=m.A4,B0:=x0,B1:=m.B1,C4:=m.C4,A2:=m.A2,A1:=m.A1,A7:=m.A7,A9:=m.A9})) (.br (decide (port<=6)) (.an (Qgy m.B1 m.Mem port v m.A1) (.lv (Qfx m.B1 m.Mem port v m.A1) λ(x1:Q0f×List Q04)=> .lf (x1.2,{B2:=m.B2,Mem:=m.Mem,A4:=m.A4,B0:=m.B0,B1:=x1.1,C4:=m.C4,A2:=m.A2,A1:=m.A1,A7:=m.A7,A9:=m.A9}))) (.br (decide (port<=9)) (.an (Qiu m.C4 m.Mem port v m.A1) (.lv (Qi7 m.C4 m.Mem port v m.A1) λ(x2:Q0r×List Q04)=> .lf (x2.2,{B2:=m.B2,Mem:=m.Mem,A4:=m.A4,B0:=m.B0,B1:=m.B1,C4:=x2.1,A2:=m.A2,A1:=m.A1,A7:=m.A7,A9:=m.A9}))) (.an (Qmb m.A2 m.Mem port v) (.lv (Q6r m.A2 m.Mem port v) λ(x3:Q09×List Int)=> .lf ([],{B2:=m.B2,Mem:=x3.2,A4:=m.A4,B0:=m.B0,B1:=m.B1,C4:=m.C4,A2:=x3.1,A1:=m.A1,A7:=m.A7,A9:=m.A9})))))))
def Qai m port v:=(Qey m port v).m
abbrev Qy0 m port v:=(Qey m port v).p
def Zo:Q0d:=mT 220 [true,false,false] true [.ptr 0, .one (.int .i64), .one (.int .u32)] [.box 43 49 (Q00.sigW (.row 1)), .arr 25 1 (.ints .u32)] (λa r=>Qey (Q00.ofW (r.getD 0 default).cs (rowL .u32 r 1)) (argI a 1) (argI a 2)) (λX=> .sl 4 (.recs .apiOutput (X.1)) true) (λX=>[⟨true,43,49, .gen [(Q00.cellsW (X.2) (.all 1))]⟩,⟨false,25,1, .ints .u32 (X.2).Mem⟩])
theorem Zk3:Q06 pG Zo:=oT (.cons Z1i (.cons Qo3 (.cons Qqz (.cons Qz2 (.nil))))) Tryz.func220 Tryz.call220 [.sl (.recs .apiOutput) true, .row 25 1 (.ints .u32)] [] 2
def Q9(m:Q00)(clock:Int):Tree ((List Q04)×Q00):=
.an (Q7c m) (.lv (Q0o m) λ(x0:Q05)=> .an (Qru x0 m.Mem) (.lv (Q7t x0 m.Mem) λ(x1:Q05×Q17×List Int)=>let E1:=({B2:=x1.1,Mem:=x1.2.2,A4:=m.A4,B0:=m.B0,B1:=m.B1,C4:=m.C4,A2:=m.A2,A1:=m.A1,A7:=false,A9:=m.A9}:Q00); .br (x1.2.1.B5==1) (.lv (Qdi E1 x1.2.1.D1 clock) λ(x2:Int×Q00)=> .an (Q35 x2.2.B2 x1.2.1.D9 x2.1) (.lv (Q1y x2.2.B2 x1.2.1.D9 x2.1) λ(x3:Q05)=> .lf ([],{B2:=x3,Mem:=x2.2.Mem,A4:=x2.2.A4,B0:=x2.2.B0,B1:=x2.2.B1,C4:=x2.2.C4,A2:=x2.2.A2,A1:=wrap u64 (x2.2.A1+1),A7:=x2.2.A7,A9:=x2.2.A9}))) (.br (x1.2.1.B5==2) (.an (Qy0 E1 x1.2.1.D1 x1.2.1.Value) (.lv (Qai E1 x1.2.1.D1 x1.2.1.Value) λ(x4:List Q04×Q00)=> .lf (x4.1,{B2:=x4.2.B2,Mem:=x4.2.Mem,A4:=x4.2.A4,B0:=x4.2.B0,B1:=x4.2.B1,C4:=x4.2.C4,A2:=x4.2.A2,A1:=wrap u64 (x4.2.A1+1),A7:=x4.2.A7,A9:=x4.2.A9}))) (.br (x1.2.1.B5==3) (.lf ([],{B2:=x1.1,Mem:=x1.2.2,A4:=m.A4,B0:=m.B0,B1:=m.B1,C4:=m.C4,A2:=m.A2,A1:=wrap u64 (m.A1+1),A7:=true,A9:=m.A9})) (.br (x1.2.1.B5==4) (.lf ([],{B2:=x1.1,Mem:=x1.2.2,A4:=m.A4,B0:=m.B0,B1:=m.B1,C4:=m.C4,A2:=m.A2,A1:=wrap u64 (m.A1+1),A7:=false,A9:=true})) (.lf ([],{B2:=x1.1,Mem:=x1.2.2,A4:=m.A4,B0:=m.B0,B1:=m.B1,C4:=m.C4,A2:=m.A2,A1:=wrap u64 (m.A1+1),A7:=false,A9:=m.A9})))))))
def Q0l m clock:=(Q9 m clock).m
abbrev Qni m clock:=(Q9 m clock).p
def Z66:Q0d:=mT 160 [true,false] true [.ptr 0, .one (.int .u32)] [.box 43 49 (Q00.sigW (.row 1)), .arr 25 1 (.ints .u32)] (λa r=>Q9 (Q00.ofW (r.getD 0 default).cs (rowL .u32 r 1)) (argI a 1)) (λX=> .sl 4 (.recs .apiOutput (X.1)) true) (λX=>[⟨true,43,49, .gen [(Q00.cellsW (X.2) (.all 1))]⟩,⟨false,25,1, .ints .u32 (X.2).Mem⟩])
theorem Z1a:Q06 pG Z66:=oT (.cons Qct (.cons Z7o (.cons Znd (.cons Qep (.cons Zk3 (.nil)))))) Tryz.func160 Tryz.call160 [.sl (.recs .apiOutput) true, .row 25 1 (.ints .u32)] [] 2
end
noncomputable section
instance sumInhZg {α β:Type} [Inhabited β]:Inhabited (α⊕β):=⟨.inr default⟩
def Qj2(m:Q01)(port clock:Int):Tree (Int×Q01):=
.br (decide (port<=1)) (.lv (Q5g m.A0.A4 port) λ(x0:Q0c×Int)=> .lf (x0.2,{A0:={B2:=m.A0.B2,Mem:=m.A0.Mem,A4:=x0.1,B0:=m.A0.B0,B1:=m.A0.B1,C4:=m.A0.C4,A2:=m.A0.A2,A1:=m.A0.A1,A7:=m.A0.A7,A9:=m.A0.A9},A3:=m.A3,B4:=m.B4,A6:=m.A6})) (.br (port==2) (.lf (clock,m)) (.br (port==3) (.lv (Qgk m.A0.B0) λ(x1:Int)=> .lf (x1,m)) (.br (decide (port<=6)) (.lv (Qi9 m.A0.B1 port) λ(x2:Int)=> .lf (x2,m)) (.br (decide (port<=9)) (.lv (Qht m.A0.C4 port) λ(x3:Int)=> .lf (x3,m)) (.lv (Q5j m.A0.A2 port) λ(x4:Int)=> .lf (x4,m))))))
def Que m port clock:=(Qj2 m port clock).m
def Ziz:Q0d:=mS 218 [true,false,false] true [.ptr 0, .one (.int .i64), .one (.int .u32)] [.box 96 52 (Q01.sigW (.row 1) (.row 2) (.row 3)), .arr 25 1 (.ints .u32), .arr 126 4 (.recs .apiEntry), .arr 66 3 (.recs .apiEvent)] (λa r=>Qj2 (Q01.ofW (r.getD 0 default).cs (rowL .u32 r 1) (rowR .apiEntry r 2) (rowR .apiEvent r 3)) (argI a 1) (argI a 2)) (λX=> .int .u32 (X.1)) (λX=>[⟨true,96,52, .gen [(Q01.cellsW (X.2) (.all 1) (.all 2) (.all 3))]⟩,⟨false,25,1, .ints .u32 (X.2).A0.Mem⟩,⟨false,126,4, .recs .apiEntry (X.2).B4⟩,⟨false,66,3, .recs .apiEvent (X.2).A6⟩])
theorem Zez:Q06 pG Ziz:=oS (.cons Qlf (.cons Qp2 (.cons Qr9 (.cons Qtr (.cons Qkv (.nil)))))) Tryz.func218 Tryz.call218 [.row 25 1 (.ints .u32), .row 126 4 (.recs .apiEntry), .row 66 3 (.recs .apiEvent)] [] 2
def Qd2(m:Q01)(port v:Int):Tree ((List Q04)×Q01):=
.br (port==0) (.lf ([{B5:=1,At:=m.A0.A1,C1:=0,C8:=[(λ(n:Int)=>eV n.toNat) (wrap u8 v)]}],m)) (.br (decide (port<=2)) (.lf ([],m)) (.br (port==3) (.lv (Quo v) λ(x0:Q0i)=> .lf ([],{A0:={B2:=m.A0.B2,Mem:=m.A0.Mem,A4:=m.A0.A4,B0:=x0,B1:=m.A0.B1,C4:=m.A0.C4,A2:=m.A0.A2,A1:=m.A0.A1,A7:=m.A0.A7,A9:=m.A0.A9},A3:=m.A3,B4:=m.B4,A6:=m.A6})) (.br (decide (port<=6)) (.an (Qgy m.A0.B1 m.A0.Mem port v m.A0.A1) (.lv (Qfx m.A0.B1 m.A0.Mem port v m.A0.A1) λ(x1:Q0f×List Q04)=> .lf (x1.2,{A0:={B2:=m.A0.B2,Mem:=m.A0.Mem,A4:=m.A0.A4,B0:=m.A0.B0,B1:=x1.1,C4:=m.A0.C4,A2:=m.A0.A2,A1:=m.A0.A1,A7:=m.A0.A7,A9:=m.A0.A9},A3:=m.A3,B4:=m.B4,A6:=m.A6}))) (.br (decide (port<=9)) (.an (Qiu m.A0.C4 m.A0.Mem port v m.A0.A1) (.lv (Qi7 m.A0.C4 m.A0.Mem port v m.A0.A1) λ(x2:Q0r×List Q04)=> .lf (x2.2,{A0:={B2:=m.A0.B2,Mem:=m.A0.Mem,A4:=m.A0.A4,B0:=m.A0.B0,B1:=m.A0.B1,C4:=x2.1,A2:=m.A0.A2,A1:=m.A0.A1,A7:=m.A0.A7,A9:=m.A0.A9},A3:=m.A3,B4:=m.B4,A6:=m.A6}))) (.an (Qmb m.A0.A2 m.A0.Mem port v) (.lv (Q6r m.A0.A2 m.A0.Mem port v) λ(x3:Q09×List Int)=> .lf ([],{A0:={B2:=m.A0.B2,Mem:=x3.2,A4:=m.A0.A4,B0:=m.A0.B0,B1:=m.A0.B1,C4:=m.A0.C4,A2:=x3.1,A1:=m.A0.A1,A7:=m.A0.A7,A9:=m.A0.A9},A3:=m.A3,B4:=m.B4,A6:=m.A6})))))))
def Qqc m port v:=(Qd2 m port v).m
abbrev Qqv m port v:=(Qd2 m port v).p
def Zdc:Q0d:=mT 220 [true,false,false] true [.ptr 0, .one (.int .i64), .one (.int .u32)] [.box 96 52 (Q01.sigW (.row 1) (.row 2) (.row 3)), .arr 25 1 (.ints .u32), .arr 126 4 (.recs .apiEntry), .arr 66 3 (.recs .apiEvent)] (λa r=>Qd2 (Q01.ofW (r.getD 0 default).cs (rowL .u32 r 1) (rowR .apiEntry r 2) (rowR .apiEvent r 3)) (argI a 1) (argI a 2)) (λX=> .sl 4 (.recs .apiOutput (X.1)) true) (λX=>[⟨true,96,52, .gen [(Q01.cellsW (X.2) (.all 1) (.all 2) (.all 3))]⟩,⟨false,25,1, .ints .u32 (X.2).A0.Mem⟩,⟨false,126,4, .recs .apiEntry (X.2).B4⟩,⟨false,66,3, .recs .apiEvent (X.2).A6⟩])
theorem Za6:Q06 pG Zdc:=oT (.cons Z1i (.cons Qo3 (.cons Qqz (.cons Qz2 (.nil))))) Tryz.func220 Tryz.call220 [.sl (.recs .apiOutput) true, .row 25 1 (.ints .u32), .row 126 4 (.recs .apiEntry), .row 66 3 (.recs .apiEvent)] [] 2
def Q6d(m:Q01)(clock:Int):Tree ((List Q04)×Q01):=
.an (Q7c m.A0) (.lv (Q0o m.A0) λ(x0:Q05)=> .an (Qru x0 m.A0.Mem) (.lv (Q7t x0 m.A0.Mem) λ(x1:Q05×Q17×List Int)=>let E1:=({B2:=x1.1,Mem:=x1.2.2,A4:=m.A0.A4,B0:=m.A0.B0,B1:=m.A0.B1,C4:=m.A0.C4,A2:=m.A0.A2,A1:=m.A0.A1,A7:=false,A9:=m.A0.A9}:Q00); .br (x1.2.1.B5==1) (.lv (Que {A0:=E1,A3:=m.A3,B4:=m.B4,A6:=m.A6} x1.2.1.D1 clock) λ(x2:Int×Q01)=> .an (Q35 x2.2.A0.B2 x1.2.1.D9 x2.1) (.lv (Q1y x2.2.A0.B2 x1.2.1.D9 x2.1) λ(x3:Q05)=> .lf ([],{A0:={B2:=x3,Mem:=x2.2.A0.Mem,A4:=x2.2.A0.A4,B0:=x2.2.A0.B0,B1:=x2.2.A0.B1,C4:=x2.2.A0.C4,A2:=x2.2.A0.A2,A1:=wrap u64 (x2.2.A0.A1+1),A7:=x2.2.A0.A7,A9:=x2.2.A0.A9},A3:=x2.2.A3,B4:=x2.2.B4,A6:=x2.2.A6}))) (.br (x1.2.1.B5==2) (.an (Qqv {A0:=E1,A3:=m.A3,B4:=m.B4,A6:=m.A6} x1.2.1.D1 x1.2.1.Value) (.lv (Qqc {A0:=E1,A3:=m.A3,B4:=m.B4,A6:=m.A6} x1.2.1.D1 x1.2.1.Value) λ(x4:List Q04×Q01)=> .lf (x4.1,{A0:={B2:=x4.2.A0.B2,Mem:=x4.2.A0.Mem,A4:=x4.2.A0.A4,B0:=x4.2.A0.B0,B1:=x4.2.A0.B1,C4:=x4.2.A0.C4,A2:=x4.2.A0.A2,A1:=wrap u64 (x4.2.A0.A1+1),A7:=x4.2.A0.A7,A9:=x4.2.A0.A9},A3:=x4.2.A3,B4:=x4.2.B4,A6:=x4.2.A6}))) (.br (x1.2.1.B5==3) (.lf ([],{A0:={B2:=x1.1,Mem:=x1.2.2,A4:=m.A0.A4,B0:=m.A0.B0,B1:=m.A0.B1,C4:=m.A0.C4,A2:=m.A0.A2,A1:=wrap u64 (m.A0.A1+1),A7:=true,A9:=m.A0.A9},A3:=m.A3,B4:=m.B4,A6:=m.A6})) (.br (x1.2.1.B5==4) (.lf ([],{A0:={B2:=x1.1,Mem:=x1.2.2,A4:=m.A0.A4,B0:=m.A0.B0,B1:=m.A0.B1,C4:=m.A0.C4,A2:=m.A0.A2,A1:=wrap u64 (m.A0.A1+1),A7:=false,A9:=true},A3:=m.A3,B4:=m.B4,A6:=m.A6})) (.lf ([],{A0:={B2:=x1.1,Mem:=x1.2.2,A4:=m.A0.A4,B0:=m.A0.B0,B1:=m.A0.B1,C4:=m.A0.C4,A2:=m.A0.A2,A1:=wrap u64 (m.A0.A1+1),A7:=false,A9:=m.A0.A9},A3:=m.A3,B4:=m.B4,A6:=m.A6})))))))
def Q71 m clock:=(Q6d m clock).m
abbrev Q6g m clock:=(Q6d m clock).p
def Qzz:Q0d:=mT 160 [true,false] true [.ptr 0, .one (.int .u32)] [.box 96 52 (Q01.sigW (.row 1) (.row 2) (.row 3)), .arr 25 1 (.ints .u32), .arr 126 4 (.recs .apiEntry), .arr 66 3 (.recs .apiEvent)] (λa r=>Q6d (Q01.ofW (r.getD 0 default).cs (rowL .u32 r 1) (rowR .apiEntry r 2) (rowR .apiEvent r 3)) (argI a 1)) (λX=> .sl 4 (.recs .apiOutput (X.1)) true) (λX=>[⟨true,96,52, .gen [(Q01.cellsW (X.2) (.all 1) (.all 2) (.all 3))]⟩,⟨false,25,1, .ints .u32 (X.2).A0.Mem⟩,⟨false,126,4, .recs .apiEntry (X.2).B4⟩,⟨false,66,3, .recs .apiEvent (X.2).A6⟩])
theorem Qw2:Q06 pG Qzz:=oT (.cons Qct (.cons Z7o (.cons Zez (.cons Qep (.cons Za6 (.nil)))))) Tryz.func160 Tryz.call160 [.sl (.recs .apiOutput) true, .row 25 1 (.ints .u32), .row 126 4 (.recs .apiEntry), .row 66 3 (.recs .apiEvent)] [] 2
def Qc9(r:Q01)(steps clock:Int)(z:(Int)×Q01):Nat:=(z.2.A6.length-z.1).toNat
def Q5z(r:Q01)(steps clock:Int)(v0:Int×Q01)(z:(Int)×Q01×(List Q04)):Nat:=(4000-z.1).toNat
def Q61(r:Q01)(steps clock:Int):Tree (Q01×(List Q04)):=
.an (Qm1 r) (.lv (Qoi r) λ(x0:Q01)=> .lv (Q6o x0.A0) λ(x1:Bool)=> .br (!x1) (.lf (x0,[])) (.lp inferInstance (Qc9 r steps clock (0,{A0:=x0.A0,A3:=if clock>x0.A3 then clock else x0.A3,B4:=x0.B4,A6:=x0.A6})+1) ((rE (steps:Int)/\rZ/\rZ/\rE (0:Int)/\True)/\(mE x0.A0 True (rE ((if clock>x0.A3 then clock else x0.A3):Int)/\True/\True/\True))/\rE x0.A0.Mem/\rE x0.B4/\rE x0.A6/\(mE zM True (rE (0:Int)/\True/\True/\True))/\True) (0,{A0:=x0.A0,A3:=if clock>x0.A3 then clock else x0.A3,B4:=x0.B4,A6:=x0.A6}) λ(v0:Int×Q01)=> .br (decide (v0.1<(v0.2.A6.length:Int))) (.cn (bS 3 3&&bT 0 3&&decide (0<=v0.1/\v0.1<(v0.2.A6.length:Int))) (let E2:=v0.2.A6.getD v0.1.toNat (RK.dflt RK.apiEvent); .an (Qi3 v0.2 E2) (.lv (Qjf v0.2 E2) λ(x2:Q01)=> .nx ((rE (steps:Int)/\rZ/\rZ/\rE ((wrap i64 (v0.1+1)):Int)/\True)/\(mE x2.A0 True (rE x2.A3/\True/\True/\True))/\rE x2.A0.Mem/\rE x2.B4/\rE x2.A6/\(mE zM True (rE (0:Int)/\True/\True/\True))/\True) (Sum.inl (wrap i64 (v0.1+1),x2))))) (.lp inferInstance (Q5z r steps clock v0 (0,{A0:=v0.2.A0,A3:=v0.2.A3,B4:=v0.2.B4,A6:=[]},[])+1) ((rE (steps:Int)/\rZ/\rZ/\True/\rE (0:Int)/\True)/\(mE v0.2.A0 True (rE v0.2.A3/\True/\True/\True))/\rE v0.2.A0.Mem/\rE v0.2.B4/\rE ([]:List (RK.T RK.apiEvent))/\(mE zM True (rE (0:Int)/\True/\True/\True))/\rE ([]:List (RK.T RK.apiOutput))/\True) (0,{A0:=v0.2.A0,A3:=v0.2.A3,B4:=v0.2.B4,A6:=[]},[]) λ(v1:Int×Q01×List Q04)=> .lv (Q0j steps) λ(x3:Int)=> .br (decide (v1.1<x3)) (.lv (Q86 v1.2.1.A0.B0 v1.2.1.A3) λ(x4:Bool)=> .br x4 (.an (Qi3 v1.2.1 {B5:=2,N:=0,C8:=[]}) (.lv (Qjf v1.2.1 {B5:=2,N:=0,C8:=[]}) λ(x5:Q01)=> .an (Qfn x5.A0) (.lv (Q0v x5.A0) λ(x6:Bool)=> .br x6 (.lf (Sum.inr (Sum.inr (x5,v1.2.2)))) (.an (Qco x5.A0) (.lv (Q0h x5.A0) λ(x7:Bool)=> .br x7 (.cn (decide (40*(x5.B4.length+1)<=140737488355328)) (let E3:=({At:=x5.A0.A1,C5:={B5:=1,N:=x5.A3,C8:=[]}}:Q0g); .an (Q6g {A0:=x5.A0,A3:=x5.A3,B4:=x5.B4++[E3],A6:=x5.A6} x5.A3) (.lv (Q71 {A0:=x5.A0,A3:=x5.A3,B4:=x5.B4++[E3],A6:=x5.A6} x5.A3) λ(x8:List Q04×Q01)=> .cn (decide (40*(v1.2.2.length+x8.1.length)<=140737488355328)) (.nx ((rE (steps:Int)/\rZ/\rZ/\True/\rE ((wrap i64 (v1.1+1)):Int)/\True)/\(mE x8.2.A0 True (rE ((wrap u32 (x8.2.A3+1)):Int)/\True/\True/\True))/\rE x8.2.A0.Mem/\rE x8.2.B4/\rE x8.2.A6/\(mE zM True (rE (0:Int)/\True/\True/\True))/\rE ((v1.2.2++x8.1):List (RK.T RK.apiOutput))/\True) (Sum.inl (wrap i64 (v1.1+1),{A0:=x8.2.A0,A3:=wrap u32 (x8.2.A3+1),B4:=x8.2.B4,A6:=x8.2.A6},v1.2.2++x8.1)))))) (.an (Q6g x5 x5.A3) (.lv (Q71 x5 x5.A3) λ(x9:List Q04×Q01)=> .cn (decide (40*(v1.2.2.length+x9.1.length)<=140737488355328)) (.nx ((rE (steps:Int)/\rZ/\rZ/\True/\rE ((wrap i64 (v1.1+1)):Int)/\True)/\(mE x9.2.A0 True (rE ((wrap u32 (x9.2.A3+1)):Int)/\True/\True/\True))/\rE x9.2.A0.Mem/\rE x9.2.B4/\rE x9.2.A6/\(mE zM True (rE (0:Int)/\True/\True/\True))/\rE ((v1.2.2++x9.1):List (RK.T RK.apiOutput))/\True) (Sum.inl (wrap i64 (v1.1+1),{A0:=x9.2.A0,A3:=wrap u32 (x9.2.A3+1),B4:=x9.2.B4,A6:=x9.2.A6},v1.2.2++x9.1)))))))))) (.an (Qfn v1.2.1.A0) (.lv (Q0v v1.2.1.A0) λ(x10:Bool)=> .br x10 (.lf (Sum.inr (Sum.inr (v1.2.1,v1.2.2)))) (.an (Qco v1.2.1.A0) (.lv (Q0h v1.2.1.A0) λ(x11:Bool)=> .br x11 (.cn (decide (40*(v1.2.1.B4.length+1)<=140737488355328)) (let E1:=({At:=v1.2.1.A0.A1,C5:={B5:=1,N:=v1.2.1.A3,C8:=[]}}:Q0g); .an (Q6g {A0:=v1.2.1.A0,A3:=v1.2.1.A3,B4:=v1.2.1.B4++[E1],A6:=v1.2.1.A6} v1.2.1.A3) (.lv (Q71 {A0:=v1.2.1.A0,A3:=v1.2.1.A3,B4:=v1.2.1.B4++[E1],A6:=v1.2.1.A6} v1.2.1.A3) λ(x12:List Q04×Q01)=> .cn (decide (40*(v1.2.2.length+x12.1.length)<=140737488355328)) (.nx ((rE (steps:Int)/\rZ/\rZ/\True/\rE ((wrap i64 (v1.1+1)):Int)/\True)/\(mE x12.2.A0 True (rE ((wrap u32 (x12.2.A3+1)):Int)/\True/\True/\True))/\rE x12.2.A0.Mem/\rE x12.2.B4/\rE x12.2.A6/\(mE zM True (rE (0:Int)/\True/\True/\True))/\rE ((v1.2.2++x12.1):List (RK.T RK.apiOutput))/\True) (Sum.inl (wrap i64 (v1.1+1),{A0:=x12.2.A0,A3:=wrap u32 (x12.2.A3+1),B4:=x12.2.B4,A6:=x12.2.A6},v1.2.2++x12.1)))))) (.an (Q6g v1.2.1 v1.2.1.A3) (.lv (Q71 v1.2.1 v1.2.1.A3) λ(x13:List Q04×Q01)=> .cn (decide (40*(v1.2.2.length+x13.1.length)<=140737488355328)) (.nx ((rE (steps:Int)/\rZ/\rZ/\True/\rE ((wrap i64 (v1.1+1)):Int)/\True)/\(mE x13.2.A0 True (rE ((wrap u32 (x13.2.A3+1)):Int)/\True/\True/\True))/\rE x13.2.A0.Mem/\rE x13.2.B4/\rE x13.2.A6/\(mE zM True (rE (0:Int)/\True/\True/\True))/\rE ((v1.2.2++x13.1):List (RK.T RK.apiOutput))/\True) (Sum.inl (wrap i64 (v1.1+1),{A0:=x13.2.A0,A3:=wrap u32 (x13.2.A3+1),B4:=x13.2.B4,A6:=x13.2.A6},v1.2.2++x13.1)))))))))) (.lf (Sum.inr (Sum.inr (v1.2.1,v1.2.2)))))))
def Qe8 r steps clock:=(Q61 r steps clock).m
abbrev Qky r steps clock:=(Q61 r steps clock).p
def Z07:LInv:={
 α:=(Int)×Q01
 F:=λst a=>([(1,(lk st 1)),(3, .ptr 0 0 0),(6, .ptr 4 0 0),(8, .int i64 a.1)],[⟨true,96,52, .gen [[.int u32 a.2.A0.B2.X.a0, .int u32 a.2.A0.B2.X.a1, .int u32 a.2.A0.B2.X.a2, .int u32 a.2.A0.B2.X.a3, .int u32 a.2.A0.B2.X.a4, .int u32 a.2.A0.B2.X.a5, .int u32 a.2.A0.B2.X.a6, .int u32 a.2.A0.B2.X.a7, .int u32 a.2.A0.B2.X.a8, .int u32 a.2.A0.B2.X.a9, .int u32 a.2.A0.B2.X.a10, .int u32 a.2.A0.B2.X.a11, .int u32 a.2.A0.B2.X.a12, .int u32 a.2.A0.B2.X.a13, .int u32 a.2.A0.B2.X.a14, .int u32 a.2.A0.B2.X.a15, .int u32 a.2.A0.B2.Pc, .int u32 a.2.A0.B2.B6.a0, .int u32 a.2.A0.B2.B6.a1, .int u32 a.2.A0.B2.B6.a2, .int u32 a.2.A0.B2.B6.a3, .int u32 a.2.A0.B2.B6.a4, .int u32 a.2.A0.B2.B6.a5, .int u32 a.2.A0.B2.B6.a6, .int u32 a.2.A0.B2.B6.a7, .all 1, .str a.2.A0.A4.D3, .bool a.2.A0.B0.D2, .int u32 a.2.A0.B0.C9, .bool a.2.A0.B0.D5, .int u32 a.2.A0.B1.Blocks, .int u32 a.2.A0.B1.C1, .int u32 a.2.A0.B1.Frame, .int i64 a.2.A0.B1.C0, .int i64 a.2.A0.B1.D8, .int u32 a.2.A0.B1.B7, .int u32 a.2.A0.B1.B3, .str a.2.A0.B1.C3, .int u32 a.2.A0.C4.Frame, .int u32 a.2.A0.C4.E0, .bool a.2.A0.C4.C7, .int u32 a.2.A0.C4.B9, .bool a.2.A0.C4.B8, .int u32 a.2.A0.C4.F3, .int u32 a.2.A0.A2.D0, .int u32 a.2.A0.A2.C2, .int u64 a.2.A0.A1, .bool a.2.A0.A7, .bool a.2.A0.A9, .int u32 a.2.A3, .all 2, .all 3]]⟩,⟨false,25,1, .ints u32 a.2.A0.Mem⟩,⟨false,126,4, .recs RK.apiEntry a.2.B4⟩,⟨false,66,3, .recs RK.apiEvent a.2.A6⟩,⟨true,96,52, .gen [[(cT st 6 0),(cT st 6 1),(cT st 6 2),(cT st 6 3),(cT st 6 4),(cT st 6 5),(cT st 6 6),(cT st 6 7),(cT st 6 8),(cT st 6 9),(cT st 6 10),(cT st 6 11),(cT st 6 12),(cT st 6 13),(cT st 6 14),(cT st 6 15),(cT st 6 16),(cT st 6 17),(cT st 6 18),(cT st 6 19),(cT st 6 20),(cT st 6 21),(cT st 6 22),(cT st 6 23),(cT st 6 24),(cT st 6 25),(cT st 6 26),(cT st 6 27),(cT st 6 28),(cT st 6 29),(cT st 6 30),(cT st 6 31),(cT st 6 32),(cT st 6 33),(cT st 6 34),(cT st 6 35),(cT st 6 36),(cT st 6 37),(cT st 6 38),(cT st 6 39),(cT st 6 40),(cT st 6 41),(cT st 6 42),(cT st 6 43),(cT st 6 44),(cT st 6 45),(cT st 6 46),(cT st 6 47),(cT st 6 48),(cT st 6 49),(cT st 6 50),(cT st 6 51)]]⟩])
 a0:=λst=>((lk st 8).toInt,(⟨(mR (cT st 3) (Q5e st.rows (Q0t (cT st 3 25) 1000000))),(cT st 3 49).toInt,(Q5f RK.apiEntry st.rows (Q0t (cT st 3 50) 1000000)),(Q5f RK.apiEvent st.rows (Q0t (cT st 3 51) 1000000))⟩:Q01))
 ex0:=λst=>[]++[(rX st 3 0),(Q0t (cT st 3 25) (st.rows.length+1)),(Q0t (cT st 3 50) (st.rows.length+2)),(Q0t (cT st 3 51) (st.rows.length+3)),(rX st 6 4)]}
def Qzi:LInv:={
 α:=(Int)×Q01×(List Q04)
 F:=λst a=>([(1,(lk st 1)),(3, .ptr 0 0 0),(6, .ptr 4 0 0),(9, .all 5),(10, .int i64 a.1)],[⟨true,96,52, .gen [[.int u32 a.2.1.A0.B2.X.a0, .int u32 a.2.1.A0.B2.X.a1, .int u32 a.2.1.A0.B2.X.a2, .int u32 a.2.1.A0.B2.X.a3, .int u32 a.2.1.A0.B2.X.a4, .int u32 a.2.1.A0.B2.X.a5, .int u32 a.2.1.A0.B2.X.a6, .int u32 a.2.1.A0.B2.X.a7, .int u32 a.2.1.A0.B2.X.a8, .int u32 a.2.1.A0.B2.X.a9, .int u32 a.2.1.A0.B2.X.a10, .int u32 a.2.1.A0.B2.X.a11, .int u32 a.2.1.A0.B2.X.a12, .int u32 a.2.1.A0.B2.X.a13, .int u32 a.2.1.A0.B2.X.a14, .int u32 a.2.1.A0.B2.X.a15, .int u32 a.2.1.A0.B2.Pc, .int u32 a.2.1.A0.B2.B6.a0, .int u32 a.2.1.A0.B2.B6.a1, .int u32 a.2.1.A0.B2.B6.a2, .int u32 a.2.1.A0.B2.B6.a3, .int u32 a.2.1.A0.B2.B6.a4, .int u32 a.2.1.A0.B2.B6.a5, .int u32 a.2.1.A0.B2.B6.a6, .int u32 a.2.1.A0.B2.B6.a7, .all 1, .str a.2.1.A0.A4.D3, .bool a.2.1.A0.B0.D2, .int u32 a.2.1.A0.B0.C9, .bool a.2.1.A0.B0.D5, .int u32 a.2.1.A0.B1.Blocks, .int u32 a.2.1.A0.B1.C1, .int u32 a.2.1.A0.B1.Frame, .int i64 a.2.1.A0.B1.C0, .int i64 a.2.1.A0.B1.D8, .int u32 a.2.1.A0.B1.B7, .int u32 a.2.1.A0.B1.B3, .str a.2.1.A0.B1.C3, .int u32 a.2.1.A0.C4.Frame, .int u32 a.2.1.A0.C4.E0, .bool a.2.1.A0.C4.C7, .int u32 a.2.1.A0.C4.B9, .bool a.2.1.A0.C4.B8, .int u32 a.2.1.A0.C4.F3, .int u32 a.2.1.A0.A2.D0, .int u32 a.2.1.A0.A2.C2, .int u64 a.2.1.A0.A1, .bool a.2.1.A0.A7, .bool a.2.1.A0.A9, .int u32 a.2.1.A3, .all 2, .all 3]]⟩,⟨false,25,1, .ints u32 a.2.1.A0.Mem⟩,⟨false,126,4, .recs RK.apiEntry a.2.1.B4⟩,⟨false,66,3, .recs RK.apiEvent a.2.1.A6⟩,⟨true,96,52, .gen [[(cT st 6 0),(cT st 6 1),(cT st 6 2),(cT st 6 3),(cT st 6 4),(cT st 6 5),(cT st 6 6),(cT st 6 7),(cT st 6 8),(cT st 6 9),(cT st 6 10),(cT st 6 11),(cT st 6 12),(cT st 6 13),(cT st 6 14),(cT st 6 15),(cT st 6 16),(cT st 6 17),(cT st 6 18),(cT st 6 19),(cT st 6 20),(cT st 6 21),(cT st 6 22),(cT st 6 23),(cT st 6 24),(cT st 6 25),(cT st 6 26),(cT st 6 27),(cT st 6 28),(cT st 6 29),(cT st 6 30),(cT st 6 31),(cT st 6 32),(cT st 6 33),(cT st 6 34),(cT st 6 35),(cT st 6 36),(cT st 6 37),(cT st 6 38),(cT st 6 39),(cT st 6 40),(cT st 6 41),(cT st 6 42),(cT st 6 43),(cT st 6 44),(cT st 6 45),(cT st 6 46),(cT st 6 47),(cT st 6 48),(cT st 6 49),(cT st 6 50),(cT st 6 51)]]⟩,⟨false,71,4, .recs RK.apiOutput a.2.2⟩])
 a0:=λst=>((lk st 10).toInt,(⟨(mR (cT st 3) (Q5e st.rows (Q0t (cT st 3 25) 1000000))),(cT st 3 49).toInt,(Q5f RK.apiEntry st.rows (Q0t (cT st 3 50) 1000000)),(Q5f RK.apiEvent st.rows (Q0t (cT st 3 51) 1000000))⟩:Q01),(Q5f RK.apiOutput st.rows (rN st 9)))
 ex0:=λst=>[]++[(rX st 3 0),(Q0t (cT st 3 25) (st.rows.length+1)),(Q0t (cT st 3 50) (st.rows.length+2)),(Q0t (cT st 3 51) (st.rows.length+3)),(rX st 6 4),(rX st 9 5)]}
def Qtf:List (Nat×LInv):=[(6,Z07),(12,Qzi)]
def Z19:Q0d:=mT 147 [] true [.agg Q01.sig, .one (.int .i64), .one (.int .u32)] [] (λa r=>Q61 (Q01.of (aC a 0)) (argI a 1) (argI a 2)) (λX=> .tup [.agg (Q01.cellsW (X.1) (.all 0) (.all 1) (.all 2)), .all 3]) (λX=>[⟨false,25,1, .ints .u32 (X.1).A0.Mem⟩,⟨false,126,4, .recs .apiEntry (X.1).B4⟩,⟨false,66,3, .recs .apiEvent (X.1).A6⟩,⟨false,71,4, .recs .apiOutput (X.2)⟩])
theorem Qzg:Q06 pG Z19:=oT (.cons Qyb (.cons Qsf (.cons Z57 (.cons Qzv (.cons Zk4 (.cons Qtw (.cons Qtk (.cons Qw2 (.nil))))))))) Tryz.func147 Tryz.call147 [.row 25 1 (.ints .u32), .row 126 4 (.recs .apiEntry), .row 66 3 (.recs .apiEvent), .row 71 4 (.recs .apiOutput)] Qtf 3

import Derived.Test.YtmalmklaonainaaGreatReplayTellsYz
open Nat renaming blt->bT, beq->bS, lt_succ_self->cK
open List renaming length->dF, replicate->cN, take->cY, drop->dA, set->dB, getD->aK
open Int renaming toNat->cZ, tdiv->eO, tmod->cX
open UInt8 renaming ofNat->eS, toNat->eR
set_option maxRecDepth 100000
set_option linter.all false
namespace Go.Proofs.YtmalmklaonainaaGreat
open Go Go.GD Go.IntKind
noncomputable section
def Qa0(m:List Int):Tree (List Int):=
.cn (bT (0:Nat) (1:Nat)&&bS (1:Nat) (1:Nat)&&List.all [D.int u32 (0:Int)] D.plain&&decide ((0:Int)<=(m.length:Int)/\(m.length:Int)<=(m.length:Int)/\(m.length:Int)<=(9223372036854775807:Int)/\(↑(4:Nat):Int)*(m.length:Int)<=(140737488355328:Int))) (let E1:=dF (cN (cZ (m.length:Int)) (0:Int)); .lf (cY (Min.min (m.length) E1) m++dA (Min.min (m.length) E1) (cN (cZ (m.length:Int)) (0:Int))))
def Qpr m:=(Qa0 m).m
abbrev Qwt m:=(Qa0 m).p
def Zki:Q0f:=mT 122 [] true [.one (.ints .u32)] [] (λa r=>Qa0 (argL .u32 a 0)) (λX=> .all 0) (λX=>[⟨false,25,1, .ints .u32 X⟩])
theorem Zk6:Q06 pG Zki:=oT (.nil) Tryz.func122 Tryz.call122 [.row 25 1 (.ints .u32)] [] 2
def Q9e(m:Q00):Tree Q00:=
.an (Qwt m.Mem) (.lv (Qpr m.Mem) λ(x0:List Int)=> .lf ({B2:=m.B2,Mem:=x0,A3:=m.A3,B0:=m.B0,B1:=m.B1,C2:=m.C2,A1:=m.A1,A2:=m.A2,A4:=m.A4,A6:=m.A6}))
def Qio m:=(Q9e m).m
abbrev Qaj m:=(Q9e m).p
def Zpp:Q0f:=mT 34 [] true [.agg Q00.sig] [] (λa r=>Q9e (Q00.of (aC a 0))) (λX=> .agg (Q00.cellsW X (.all 0))) (λX=>[⟨false,25,1, .ints .u32 X.Mem⟩])
theorem Qky:Q06 pG Zpp:=oT (.cons Zk6 (.nil)) Tryz.func34 Tryz.call34 [.row 25 1 (.ints .u32)] [] 2
def Qt4(n k:Int)(z:(Int)×(List Int)):Prop:=0<=z.1/\(z.2.length:Int)=z.1/\(z.1<=k\/z.1=0)
def Qj7(n k:Int)(z:(Int)×(List Int)):Nat:=(k-z.1).toNat
def Qo2(n k:Int):Tree (List UInt8):=
.lp inferInstance (Qj7 n k (0,[])+1) ((rE (n:Int)/\rE (k:Int)/\True/\rE (0:Int)/\True)/\rE ([]:List Int)/\True) (0,[]) λ(v0:Int×List Int)=> .br (decide (v0.1<k)) (.lv (Q9q n (wrap i64 (eO v0.1 9))) λ(x0:Int)=> .cn (decide (1*(v0.2.length+1)<=140737488355328)) (.nx ((rE (n:Int)/\rE (k:Int)/\True/\rE ((wrap i64 (v0.1+1)):Int)/\True)/\rE ((v0.2++[wrap u8 x0]):List Int)/\True) (Sum.inl (wrap i64 (v0.1+1),v0.2++[wrap u8 x0])))) (.lf (Sum.inr (bytesOf v0.2)))
def Z60 n k:=(Qo2 n k).m
def Qb3(n k:Int):Prop:=
k<=1000000000000
theorem Zce(n k:Int)(hw:Qb3 n k):(Qo2 n k).p:=by
 simp only[Qb3]at hw
 unfold Tree.p Qo2
 repeat'(first|refine w_lp (inv:=Qt4 n k) (μ:=Qj7 n k) ?_ (cK _) (λ_ _=> ?_)|exact trivial|refine w_br (λ_=> ?_) (λ_=> ?_)|refine w_cn ?_ ?_|refine w_an ?_ ?_|refine w_lv (λ_ _=> ?_)|refine w_nx ?_|refine w_lf ?_|refine And.intro ?_ ?_)
 all_goals((try simp only[Qt4,Qj7]at*);exact fin0)
def Ziy:LInv:={
 α:=(Int)×(List Int)
 F:=λst a=>([(0,(lk st 0)),(1,(lk st 1)),(5, .all 0),(6, .int i64 a.1)],[⟨false,5,1, .ints u8 a.2⟩])
 a0:=λst=>((lk st 6).toInt,(Q3u st.rows (rN st 5)))
 ex0:=λst=>[]++[(rX st 5 0)]}
def Z8w:List (Nat×LInv):=[(3,Ziy)]
def Zm7:Q0f:=mkP 84 [] true [.one (.int .i64), .one (.int .i64)] [] (λa r=>Qb3 (argI a 0) (argI a 1)) (λa r=>Z60 (argI a 0) (argI a 1)) (λX=> .str X) (λX=>[])
theorem Zjy:Q06 pG Zm7:=Q0m drawn Q0k (.cons Qo3 (.nil)) Tryz.func84 Tryz.call84 (λa r=>Qo2 (argI a 0) (argI a 1)) [] Z8w 3 (hp:=λa r h=>Zce (argI a 0) (argI a 1) h)
def Qfy(r:Q02):Tree Q02:=
.an (Qaj r.A0) (.lv (Qio r.A0) λ(x0:Q00)=> .cn (decide (40*(0+r.B3.length)<=140737488355328)) (.cn (decide (32*(0+r.A9.length)<=140737488355328)) (.lf ({A0:=x0,A7:=r.A7,B3:=r.B3,A9:=r.A9}))))
def Qq9 r:=(Qfy r).m
abbrev Qoa r:=(Qfy r).p
def Zme:Q0f:=mT 212 [] true [.agg Q02.sig] [] (λa r=>Qfy (Q02.of (aC a 0))) (λX=> .agg (Q02.cellsW X (.all 0) (.all 1) (.all 2))) (λX=>[⟨false,25,1, .ints .u32 X.A0.Mem⟩,⟨false,126,4, .recs .apiEntry X.B3⟩,⟨false,66,3, .recs .apiEvent X.A9⟩])
theorem Z03:Q06 pG Zme:=oT (.cons Qky (.nil)) Tryz.func212 Tryz.call212 [.row 25 1 (.ints .u32), .row 126 4 (.recs .apiEntry), .row 66 3 (.recs .apiEvent)] [] 2
def Qo8(e:Q0b):Tree Bool:=
.br (e.B7==1) (.lf (decide (e.D0=[]))) (.br (e.B7==6) (.lf (decide (e.D0=[]))) (.br (e.B7==2) (.br (e.N==0) (.lf (decide (e.D0=[]))) (.lf false)) (.br (e.B7==3) (.br (decide (e.N<=255)) (.lf (decide (e.D0=[]))) (.lf false)) (.br (e.B7==4) (.br (decide (e.N<=1)) (.br (decide (e.D0=[])) (.lf true) (.br (e.N==1) (.lf ((e.D0.length:Int)==(128:Int))) (.lf false))) (.lf false)) (.br (e.B7==5) (.br (e.N==0) (.br (decide ((e.D0.length:Int)>=(1:Int))) (.lf (decide ((e.D0.length:Int)<=(128:Int)))) (.lf false)) (.lf false)) (.lf false))))))
def Q34 e:=(Qo8 e).m
def Zc2:Q0f:=mS 154 [] true [.agg Q0b.sig] [] (λa r=>Qo8 (Q0b.of (aC a 0))) (λX=> .bool X) (λX=>[])
theorem Qtg:Q06 pG Zc2:=oS (.nil) Tryz.func154 Tryz.call154 [] [] 2
def Q9g(r:Q02)(e:Q0b):Tree (Q02×Bool):=
.an (Qoa r) (.lv (Qq9 r) λ(x0:Q02)=> .lv (Q34 e) λ(x1:Bool)=> .br (!x1) (.lf (x0,false)) (.br (e.B7==1) (.lf (x0,false)) (.br (decide ((x0.A9.length:Int)>=(16:Int))) (.lf (x0,false)) (.cn (decide (32*(x0.A9.length+1)<=140737488355328)) (.lf ({A0:=x0.A0,A7:=x0.A7,B3:=x0.B3,A9:=x0.A9++[e]},true))))))
def Q6v r e:=(Q9g r e).m
abbrev Qor r e:=(Q9g r e).p
def Z93:Q0f:=mT 146 [] true [.agg Q02.sig, .agg Q0b.sig] [] (λa r=>Q9g (Q02.of (aC a 0)) (Q0b.of (aC a 1))) (λX=> .tup [.agg (Q02.cellsW (X.1) (.all 0) (.all 1) (.all 2)), .bool (X.2)]) (λX=>[⟨false,25,1, .ints .u32 (X.1).A0.Mem⟩,⟨false,126,4, .recs .apiEntry (X.1).B3⟩,⟨false,66,3, .recs .apiEvent (X.1).A9⟩])
theorem Z4f:Q06 pG Z93:=oT (.cons Z03 (.cons Qtg (.nil))) Tryz.func146 Tryz.call146 [.row 25 1 (.ints .u32), .row 126 4 (.recs .apiEntry), .row 66 3 (.recs .apiEvent)] [] 2
def Qhm(n:Int):Tree Q0b:=
.lv (Q9q n 2) λ(x0:Int)=> .br (cX x0 (7:Int)==(0:Int)) (.lf ({B7:=2,N:=0,D0:=[]})) (.br (cX x0 (7:Int)==(1:Int)) (.lf ({B7:=3,N:=wrap u32 (iand i64 (ishr i64 x0 8) 255),D0:=[]})) (.br (cX x0 (7:Int)==(2:Int)) (.lf ({B7:=3,N:=wrap u32 (iand i64 (ishr i64 x0 8) 255),D0:=[]})) (.br (cX x0 (7:Int)==(3:Int)) (.lf ({B7:=4,N:=1,D0:=[]})) (.br (cX x0 (7:Int)==(4:Int)) (.an (Qb3 x0 128) (.lv (Z60 x0 128) λ(x1:List UInt8)=> .lf ({B7:=4,N:=1,D0:=x1}))) (.br (cX x0 (7:Int)==(5:Int)) (let E1:=wrap i64 (1+cX (ishr i64 x0 8) 40); .an (Qb3 x0 E1) (.lv (Z60 x0 E1) λ(x2:List UInt8)=> .lf ({B7:=5,N:=0,D0:=x2}))) (.br (cX (ishr i64 x0 8) (4:Int)==(0:Int)) (.lf ({B7:=4,N:=0,D0:=[]})) (.lf ({B7:=6,N:=wrap u32 (cX (ishr i64 x0 8) 3),D0:=[]}))))))))
def Qfm n:=(Qhm n).m
abbrev Qmb n:=(Qhm n).p
def Zhi:Q0f:=mT 76 [] true [.one (.int .i64)] [] (λa r=>Qhm (argI a 0)) (λX=> .agg (Q0b.cells X)) (λX=>[])
theorem Qv9:Q06 pG Zhi:=oT (.cons Qo3 (.cons Zjy (.nil))) Tryz.func76 Tryz.call76 [] [] 2
def Qqd(m:List Int):Tree Int:=
.br (cX (m.length:Int) (32:Int) !=(0:Int)) (.lf 0) (.br (decide ((m.length:Int)>(1024:Int))) (.lf 0) (.lf (wrap i64 (eO (m.length:Int) 32))))
def Q40 m:=(Qqd m).m
def Zib:Q0f:=mS 93 [] true [.one (.ints .u32)] [] (λa r=>Qqd (argL .u32 a 0)) (λX=> .int .i64 X) (λX=>[])
theorem Qf:Q06 pG Zib:=oS (.nil) Tryz.func93 Tryz.call93 [] [] 2
def Qn(c:Q0e):Tree Bool:=
.lf (decide ((c.D2.length:Int)<=(16:Int)))
def Qka c:=(Qn c).m
def Qxr:Q0f:=mS 94 [] true [.agg Q0e.sig] [] (λa r=>Qn (Q0e.of (aC a 0))) (λX=> .bool X) (λX=>[])
theorem Qv5:Q06 pG Qxr:=oS (.nil) Tryz.func94 Tryz.call94 [] [] 2
def Qkj(t:Q0j):Tree Bool:=
.br t.D4 (.br t.D3 (.lf false) (.br t.D4 (.lf (t.C8 !=0)) (.br t.D3 (.lf true) (.lf (t.C8==0))))) (.br t.D4 (.lf (t.C8 !=0)) (.br t.D3 (.lf true) (.lf (t.C8==0))))
def Qem t:=(Qkj t).m
def Z6k:Q0f:=mS 95 [] true [.agg Q0j.sig] [] (λa r=>Qkj (Q0j.of (aC a 0))) (λX=> .bool X) (λX=>[])
theorem Z1d:Q06 pG Z6k:=oS (.nil) Tryz.func95 Tryz.call95 [] [] 2
def Qmf(d0:Q0h)(pages:Int):Tree Bool:=
.br (decide (d0.Blocks>64)) (.lf false) (.br (decide (d0.C4<0)) (.lf false) (.br (decide (d0.C4>3)) (.lf false) (.br (d0.C4 !=1) (.br (d0.D8==0) (.br (d0.B9==0) (.br (d0.B4==0) (.lf (decide (d0.C6=[]))) (.lf false)) (.lf false)) (.lf false)) (.br (decide (d0.B9>=d0.Blocks)) (.lf false) (.br (decide (wrap i64 d0.B4>=pages)) (.lf false) (.br (d0.D8==1) (.br (decide (d0.C6=[])) (.lf true) (.br (d0.D8==2) (.lf ((d0.C6.length:Int)==(128:Int))) (.lf false))) (.br (d0.D8==2) (.lf ((d0.C6.length:Int)==(128:Int))) (.lf false))))))))
def Qhr d0 pages:=(Qmf d0 pages).m
def Z8n:Q0f:=mS 96 [] true [.agg Q0h.sig, .one (.int .i64)] [] (λa r=>Qmf (Q0h.of (aC a 0)) (argI a 1)) (λX=> .bool X) (λX=>[])
theorem Z72:Q06 pG Z8n:=oS (.nil) Tryz.func96 Tryz.call96 [] [] 2
def Qnr(n:Q0q)(pages:Int):Tree Bool:=
let T1:Tree (Bool):= .br n.C0 (.br (decide (n.F1>=1)) (.lf (decide (n.F1<=128))) (.lf false)) (.lf (n.F1==0)); .br n.C7 (.br n.C0 (.lf false) (.br (decide (wrap i64 n.C1>=pages)) (.lf false) (.br (!n.C7) (.br (n.C1 !=0) (.lf false) T1) T1))) (.br (!n.C7) (.br (n.C1 !=0) (.lf false) T1) T1)
def Qkl n pages:=(Qnr n pages).m
def Zdx:Q0f:=mS 97 [] true [.agg Q0q.sig, .one (.int .i64)] [] (λa r=>Qnr (Q0q.of (aC a 0)) (argI a 1)) (λX=> .bool X) (λX=>[])
theorem Z8y:Q06 pG Zdx:=oS (.nil) Tryz.func97 Tryz.call97 [] [] 2
def Qi6(b:Q07)(pages:Int)(z:(Int)):Prop:=0<=z/\z<=32
def Q6x(b:Q07)(pages:Int)(z:(Int)):Nat:=(32-z).toNat
def Q5x(b:Q07)(pages:Int):Tree Bool:=
.lp inferInstance (Q6x b pages 0+1) ((rE (pages:Int)/\rZ/\rE (0:Int)/\True)/\(rE b.C9/\rE b.C5/\True)/\True) 0 λ(v0:Int)=> .br (decide (v0<32)) (.cn (decide (0<=wrap u64 v0)) (let T1:Tree ((Int)⊕(Bool)):= .nx ((rE (pages:Int)/\rZ/\rE ((wrap i64 (v0+1)):Int)/\True)/\(rE b.C9/\rE b.C5/\True)/\True) (Sum.inl (wrap i64 (v0+1))); .br (iand u32 (ishr u32 b.C5 (wrap u64 v0)) (1:Int)==(1:Int)) (.br (decide (v0>=pages)) (.lf (Sum.inr false)) T1) T1)) (.lf (Sum.inr true))
def Qab b pages:=(Q5x b pages).m
theorem Qum(b:Q07)(pages:Int):(Q5x b pages).p:=by
 unfold Tree.p Q5x
 repeat'(first|refine w_lp (inv:=Qi6 b pages) (μ:=Q6x b pages) ?_ (cK _) (λ_ _=> ?_)|exact trivial|refine w_br (λ_=> ?_) (λ_=> ?_)|refine w_cn ?_ ?_|refine w_an ?_ ?_|refine w_lv (λ_ _=> ?_)|refine w_nx ?_|refine w_lf ?_|refine And.intro ?_ ?_)
 all_goals((try simp only[Qi6,Q6x]at*);exact fin0)
def Qv7:LInv:={
 α:=(Int)
 F:=λst a=>([(1,(lk st 1)),(2, .ptr 0 0 0),(5, .int i64 a)],[⟨true,40,2, .gen [[(cT st 2 0),(cT st 2 1)]]⟩])
 a0:=λst=>(lk st 5).toInt
 ex0:=λst=>[]++[(rX st 2 0)]}
def Qsp:List (Nat×LInv):=[(2,Qv7)]
def Qxi:Q0f:=mS 98 [] true [.agg Q07.sig, .one (.int .i64)] [] (λa r=>Q5x (Q07.of (aC a 0)) (argI a 1)) (λX=> .bool X) (λX=>[])
theorem Qww:Q06 pG Qxi:=oS (.nil) Tryz.func98 Tryz.call98 [] Qsp 3 (λ_ _ _=>by kernel_rfl) (λa r=>Qum (Q07.of (aC a 0)) (argI a 1)) (λ_ X=>by kernel_rfl)
def Qyn(m:Q00):Tree Bool:=
.lv (Q40 m.Mem) λ(x0:Int)=> .br (decide (x0<1)) (.lf false) (.br (m.B2.X.a0 !=0) (.lf false) (.br (decide (m.B2.B8.a0>31)) (.lf false) (.br (decide (m.B2.B8.a7>31)) (.lf false) (.br (decide (m.B2.B8.a6>255)) (.lf false) (.br (cX m.B2.B8.a1 (4:Int) !=(0:Int)) (.lf false) (.lv (Qka m.A3) λ(x1:Bool)=> .br (!x1) (.lf false) (.lv (Qem m.B0) λ(x2:Bool)=> .br (!x2) (.lf false) (.lv (Qhr m.B1 x0) λ(x3:Bool)=> .br (!x3) (.lf false) (.lv (Qkl m.C2 x0) λ(x4:Bool)=> .br (!x4) (.lf false) (.lv (Qab m.A1 x0) λ(x5:Bool)=> .br (!x5) (.lf false) (.br (decide (m.A2<=1152921504606846976)) (.br m.A4 (.lf (!m.A6)) (.lf true)) (.lf false))))))))))))
def Q25 m:=(Qyn m).m
def Zqa:Q0f:=mS 25 [] true [.agg Q00.sig] [] (λa r=>Qyn (Q00.of (aC a 0))) (λX=> .bool X) (λX=>[])
theorem Qjo:Q06 pG Zqa:=oS (.cons Qf (.cons Qv5 (.cons Z1d (.cons Z72 (.cons Z8y (.cons Qww (.nil))))))) Tryz.func25 Tryz.call25 [] [] 2
def Z5t(t:Q0j):Tree (Q0j×Bool):=
.br (!t.D4) (.lf (t,false)) (.lf ({D4:=false,C8:=t.C8,D3:=true},true))
def Qr8 t:=(Z5t t).m
def Zkj:Q0f:=mS 221 [] true [.agg Q0j.sig] [] (λa r=>Z5t (Q0j.of (aC a 0))) (λX=> .tup [.agg (Q0j.cells (X.1)), .bool (X.2)]) (λX=>[])
theorem Qq7:Q06 pG Zkj:=oS (.nil) Tryz.func221 Tryz.call221 [] [] 2
def Ql1(c:Q0e)(b:Int):Tree (Q0e×Bool):=
.br (decide ((c.D2.length:Int)>=(16:Int))) (.lf (c,false)) (.cn (decide (c.D2.length+1<=maxLen)) (.lf ({D2:=c.D2++[(λ(n:Int)=>eS n.toNat) b]},true)))
def Qr6 c b:=(Ql1 c b).m
abbrev Qie c b:=(Ql1 c b).p
def Zm5:Q0f:=mT 222 [] true [.agg Q0e.sig, .one (.int .u8)] [] (λa r=>Ql1 (Q0e.of (aC a 0)) (argI a 1)) (λX=> .tup [.agg (Q0e.cells (X.1)), .bool (X.2)]) (λX=>[])
theorem Qqh:Q06 pG Zm5:=oT (.nil) Tryz.func222 Tryz.call222 [] [] 2
def Ql3(m:List Int)(frame:Int):Tree Bool:=
.lv (Q40 m) λ(x0:Int)=> .lf (decide (wrap u64 frame<wrap u64 x0))
def Q29 m frame:=(Ql3 m frame).m
def Zkd:Q0f:=mS 269 [] true [.one (.ints .u32), .one (.int .u32)] [] (λa r=>Ql3 (argL .u32 a 0) (argI a 1)) (λX=> .bool X) (λX=>[])
theorem Qgq:Q06 pG Zkd:=oS (.cons Qf (.nil)) Tryz.func269 Tryz.call269 [] [] 2
def Qfo(m:List Int)(addr size v:Int):Tree (List Int):=
let E1:=bS 1 1&&bT 0 1&&decide (0<=wrap u32 (eO addr 4)/\wrap u32 (eO addr 4)<(m.length:Int));let E2:=cZ (wrap u32 (eO addr 4)); .br (size==4) (.cn E1 (.lf (dB m E2 v))) (.cn E1 (let E3:=decide (0<=wrap u32 (8*cX addr 4)); .cn E3 (.cn E3 (.cn E1 (.lf (dB m E2 (ior u32 (Qir u32 (m.getD E2 0) (ishl u32 255 (wrap u32 (8*cX addr 4)))) (ishl u32 (iand u32 v 255) (wrap u32 (8*cX addr 4))))))))))
def Qbo m addr size v:=(Qfo m addr size v).m
abbrev Qhf m addr size v:=(Qfo m addr size v).p
def Zqc:Q0f:=mT 300 [true,false,false,false] true [.one (.row 0), .one (.int .u32), .one (.int .i64), .one (.int .u32)] [.arr 25 1 (.ints .u32)] (λa r=>Qfo (rowL .u32 r 0) (argI a 1) (argI a 2) (argI a 3)) (λX=> .tup []) (λX=>[⟨false,25,1, .ints .u32 X⟩])
theorem Z54:Q06 pG Zqc:=oT (.nil) Tryz.func300 Tryz.call300 [] [] 2
def Qk7(m:List Int)(frame:Int)(s:List UInt8)(z:(Int)×(List Int)):Nat:=(128-z.1).toNat
def Qa8(m:List Int)(frame:Int)(s:List UInt8):Tree (List Int):=
.lp inferInstance (Qk7 m frame s (0,m)+1) ((True/\rE (frame:Int)/\rE (s:List UInt8)/\rE (0:Int)/\True)/\rE (m:List Int)/\True) (0,m) λ(v0:Int×List Int)=> .br (decide (v0.1<(s.length:Int))) (.br (decide (v0.1<128)) (.cn (decide (0<=v0.1/\v0.1<(s.length:Int))) (let E1:=wrap u32 (↑(eR (s.getD v0.1.toNat (0:UInt8))):Int);let E2:=wrap u32 (wrap i64 (wrap i64 (frame*128)+v0.1)); .an (Qhf v0.2 E2 1 E1) (.lv (Qbo v0.2 E2 1 E1) λ(x0:List Int)=> .nx ((True/\rE (frame:Int)/\rE (s:List UInt8)/\rE ((wrap i64 (v0.1+1)):Int)/\True)/\rE (x0:List Int)/\True) (Sum.inl (wrap i64 (v0.1+1),x0))))) (.lf (Sum.inr v0.2))) (.lf (Sum.inr v0.2))
def Qnk m frame s:=(Qa8 m frame s).m
abbrev Qon m frame s:=(Qa8 m frame s).p
def Ziu:LInv:={
 α:=(Int)×(List Int)
 F:=λst a=>([(0, .all 0),(1,(lk st 1)),(2,(lk st 2)),(6, .int i64 a.1)],[⟨false,25,1, .ints u32 a.2⟩])
 a0:=λst=>((lk st 6).toInt,(Q3u st.rows 0))
 ex0:=λst=>[0]++[]}
def Z7o:List (Nat×LInv):=[(1,Ziu)]
def Zm6:Q0f:=mT 270 [true,false,false] true [.one (.row 0), .one (.int .i64), .one (.str)] [.arr 25 1 (.ints .u32)] (λa r=>Qa8 (rowL .u32 r 0) (argI a 1) (argS a 2)) (λX=> .tup []) (λX=>[⟨false,25,1, .ints .u32 X⟩])
theorem Z0l:Q06 pG Zm6:=oT (.cons Z54 (.nil)) Tryz.func270 Tryz.call270 [] Z7o 3
def Qbh(d0:Q0h)(m:List Int)(e:Q0b):Tree (Q0h×Bool×(List Int)):=
.br (d0.C4 !=1) (.lf (d0,false,m)) (.br (e.B7 !=4) (.lf (d0,false,m)) (.br (decide (e.N>1)) (.lf (d0,false,m)) (let E4:=({Blocks:=d0.Blocks,C3:=d0.C3,Frame:=d0.Frame,C4:=2,D8:=0,B9:=0,B4:=0,C6:=[]}:Q0h);let E5:=({Blocks:=d0.Blocks,C3:=d0.C3,Frame:=d0.Frame,C4:=3,D8:=0,B9:=0,B4:=0,C6:=[]}:Q0h);let T2:Tree ((Q0h×Bool×(List Int))):= .br (e.N==1) (.lf (E4,true,m)) (.lf (E5,true,m));let E6:=decide ((e.D0.length:Int)>(0:Int)); .br (e.N==1) (let T1:Tree ((Q0h×Bool×(List Int))):= .br (d0.D8==1) (.an (Qon m (wrap i64 d0.B4) e.D0) (.lv (Qnk m (wrap i64 d0.B4) e.D0) λ(x1:List Int)=> .br (e.N==1) (.lf (E4,true,x1)) (.lf (E5,true,x1)))) T2;let T3:Tree ((Q0h×Bool×(List Int))):= .br (!d0.D8==1) (.br E6 (.lf (d0,false,m)) T1) T1; .br (d0.D8==1) (.br ((e.D0.length:Int) !=(128:Int)) (.lf (d0,false,m)) (.lv (Q29 m d0.B4) λ(x0:Bool)=> .br (!x0) (.lf (d0,false,m)) T3)) T3) (.br E6 (.lf (d0,false,m)) T2))))
def Qa1 d0 m e:=(Qbh d0 m e).m
abbrev Qf5 d0 m e:=(Qbh d0 m e).p
def Zep:Q0f:=mT 223 [false,true,false] true [.agg Q0h.sig, .one (.row 0), .agg Q0b.sig] [.arr 25 1 (.ints .u32)] (λa r=>Qbh (Q0h.of (aC a 0)) (rowL .u32 r 0) (Q0b.of (aC a 2))) (λX=> .tup [.agg (Q0h.cells (X.1)), .bool (X.2.1)]) (λX=>[⟨false,25,1, .ints .u32 (X.2.2)⟩])
theorem Qm5:Q06 pG Zep:=oT (.cons Qgq (.cons Z0l (.nil))) Tryz.func223 Tryz.call223 [] [] 2
def Qaz(n:Q0q)(m:List Int)(frame:List UInt8):Tree (Q0q×Bool×(List Int)):=
.br (!n.C7) (.lf (n,false,m)) (.br (decide ((frame.length:Int)<(1:Int))) (.lf (n,false,m)) (.br (decide ((frame.length:Int)>(128:Int))) (.lf (n,false,m)) (.lv (Q29 m n.C1) λ(x0:Bool)=> .br (!x0) (.lf (n,false,m)) (.an (Qon m (wrap i64 n.C1) frame) (.lv (Qnk m (wrap i64 n.C1) frame) λ(x1:List Int)=> .lf ({Frame:=n.Frame,E0:=n.E0,C7:=false,C1:=0,C0:=true,F1:=wrap u32 (frame.length:Int)},true,x1))))))
def Qao n m frame:=(Qaz n m frame).m
abbrev Qer n m frame:=(Qaz n m frame).p
def Zey:Q0f:=mT 224 [false,true,false] true [.agg Q0q.sig, .one (.row 0), .one (.str)] [.arr 25 1 (.ints .u32)] (λa r=>Qaz (Q0q.of (aC a 0)) (rowL .u32 r 0) (argS a 2)) (λX=> .tup [.agg (Q0q.cells (X.1)), .bool (X.2.1)]) (λX=>[⟨false,25,1, .ints .u32 (X.2.2)⟩])
theorem Qmh:Q06 pG Zey:=oT (.cons Qgq (.cons Z0l (.nil))) Tryz.func224 Tryz.call224 [] [] 2
def Q8f(m:Q00)(e:Q0b):Tree (Bool×Q00):=
.br m.A6 (.lf (false,m)) (let T1:Tree ((Bool×Q00)):= .br (e.B7==4) (.an (Qf5 m.B1 m.Mem e) (.lv (Qa1 m.B1 m.Mem e) λ(x2:Q0h×Bool×List Int)=> .lf (x2.2.1,{B2:=m.B2,Mem:=x2.2.2,A3:=m.A3,B0:=m.B0,B1:=x2.1,C2:=m.C2,A1:=m.A1,A2:=m.A2,A4:=m.A4,A6:=m.A6}))) (let T3:Tree ((Bool×Q00)):= .br (e.B7==6) (.br (decide (e.D0=[])) (.lf (true,{B2:=m.B2,Mem:=m.Mem,A3:=m.A3,B0:=m.B0,B1:=m.B1,C2:=m.C2,A1:={C9:=e.N,C5:=m.A1.C5},A2:=m.A2,A4:=m.A4,A6:=m.A6})) (.lf (false,m))) (.lf (false,m)); .br (e.B7==5) (.br (e.N==0) (.an (Qer m.C2 m.Mem e.D0) (.lv (Qao m.C2 m.Mem e.D0) λ(x3:Q0q×Bool×List Int)=> .lf (x3.2.1,{B2:=m.B2,Mem:=x3.2.2,A3:=m.A3,B0:=m.B0,B1:=m.B1,C2:=x3.1,A1:=m.A1,A2:=m.A2,A4:=m.A4,A6:=m.A6}))) T3) T3);let T2:Tree ((Bool×Q00)):= .br (e.B7==3) (.br (decide (e.N<=255)) (.br (decide (e.D0=[])) (.an (Qie m.A3 (wrap u8 e.N)) (.lv (Qr6 m.A3 (wrap u8 e.N)) λ(x1:Q0e×Bool)=> .lf (x1.2,{B2:=m.B2,Mem:=m.Mem,A3:=x1.1,B0:=m.B0,B1:=m.B1,C2:=m.C2,A1:=m.A1,A2:=m.A2,A4:=m.A4,A6:=m.A6}))) T1) T1) T1; .br (e.B7==2) (.br (e.N==0) (.br (decide (e.D0=[])) (.lv (Qr8 m.B0) λ(x0:Q0j×Bool)=> .lf (x0.2,{B2:=m.B2,Mem:=m.Mem,A3:=m.A3,B0:=x0.1,B1:=m.B1,C2:=m.C2,A1:=m.A1,A2:=m.A2,A4:=m.A4,A6:=m.A6})) T2) T2) T2)
def Q0s m e:=(Q8f m e).m
abbrev Qti m e:=(Q8f m e).p
def Zhh:Q0f:=mT 161 [true,false] true [.ptr 0, .agg Q0b.sig] [.box 43 49 (Q00.sigW (.row 1)), .arr 25 1 (.ints .u32)] (λa r=>Q8f (Q00.ofW (r.getD 0 default).cs (rowL .u32 r 1)) (Q0b.of (aC a 1))) (λX=> .bool (X.1)) (λX=>[⟨true,43,49, .gen [(Q00.cellsW (X.2) (.all 1))]⟩,⟨false,25,1, .ints .u32 (X.2).Mem⟩])
theorem Zf8:Q06 pG Zhh:=oT (.cons Qq7 (.cons Qqh (.cons Qm5 (.cons Qmh (.nil))))) Tryz.func161 Tryz.call161 [.row 25 1 (.ints .u32)] [] 2
def Q9b(m:Q02)(e:Q0b):Tree (Bool×Q02):=
.br m.A0.A6 (.lf (false,m)) (let T1:Tree ((Bool×Q02)):= .br (e.B7==4) (.an (Qf5 m.A0.B1 m.A0.Mem e) (.lv (Qa1 m.A0.B1 m.A0.Mem e) λ(x2:Q0h×Bool×List Int)=> .lf (x2.2.1,{A0:={B2:=m.A0.B2,Mem:=x2.2.2,A3:=m.A0.A3,B0:=m.A0.B0,B1:=x2.1,C2:=m.A0.C2,A1:=m.A0.A1,A2:=m.A0.A2,A4:=m.A0.A4,A6:=m.A0.A6},A7:=m.A7,B3:=m.B3,A9:=m.A9}))) (let T3:Tree ((Bool×Q02)):= .br (e.B7==6) (.br (decide (e.D0=[])) (.lf (true,{A0:={B2:=m.A0.B2,Mem:=m.A0.Mem,A3:=m.A0.A3,B0:=m.A0.B0,B1:=m.A0.B1,C2:=m.A0.C2,A1:={C9:=e.N,C5:=m.A0.A1.C5},A2:=m.A0.A2,A4:=m.A0.A4,A6:=m.A0.A6},A7:=m.A7,B3:=m.B3,A9:=m.A9})) (.lf (false,m))) (.lf (false,m)); .br (e.B7==5) (.br (e.N==0) (.an (Qer m.A0.C2 m.A0.Mem e.D0) (.lv (Qao m.A0.C2 m.A0.Mem e.D0) λ(x3:Q0q×Bool×List Int)=> .lf (x3.2.1,{A0:={B2:=m.A0.B2,Mem:=x3.2.2,A3:=m.A0.A3,B0:=m.A0.B0,B1:=m.A0.B1,C2:=x3.1,A1:=m.A0.A1,A2:=m.A0.A2,A4:=m.A0.A4,A6:=m.A0.A6},A7:=m.A7,B3:=m.B3,A9:=m.A9}))) T3) T3);let T2:Tree ((Bool×Q02)):= .br (e.B7==3) (.br (decide (e.N<=255)) (.br (decide (e.D0=[])) (.an (Qie m.A0.A3 (wrap u8 e.N)) (.lv (Qr6 m.A0.A3 (wrap u8 e.N)) λ(x1:Q0e×Bool)=> .lf (x1.2,{A0:={B2:=m.A0.B2,Mem:=m.A0.Mem,A3:=x1.1,B0:=m.A0.B0,B1:=m.A0.B1,C2:=m.A0.C2,A1:=m.A0.A1,A2:=m.A0.A2,A4:=m.A0.A4,A6:=m.A0.A6},A7:=m.A7,B3:=m.B3,A9:=m.A9}))) T1) T1) T1; .br (e.B7==2) (.br (e.N==0) (.br (decide (e.D0=[])) (.lv (Qr8 m.A0.B0) λ(x0:Q0j×Bool)=> .lf (x0.2,{A0:={B2:=m.A0.B2,Mem:=m.A0.Mem,A3:=m.A0.A3,B0:=x0.1,B1:=m.A0.B1,C2:=m.A0.C2,A1:=m.A0.A1,A2:=m.A0.A2,A4:=m.A0.A4,A6:=m.A0.A6},A7:=m.A7,B3:=m.B3,A9:=m.A9})) T2) T2) T2)
def Qls m e:=(Q9b m e).m
abbrev Qpa m e:=(Q9b m e).p
def Z99:Q0f:=mT 161 [true,false] true [.ptr 0, .agg Q0b.sig] [.box 96 52 (Q02.sigW (.row 1) (.row 2) (.row 3)), .arr 25 1 (.ints .u32), .arr 126 4 (.recs .apiEntry), .arr 66 3 (.recs .apiEvent)] (λa r=>Q9b (Q02.ofW (r.getD 0 default).cs (rowL .u32 r 1) (rowR .apiEntry r 2) (rowR .apiEvent r 3)) (Q0b.of (aC a 1))) (λX=> .bool (X.1)) (λX=>[⟨true,96,52, .gen [(Q02.cellsW (X.2) (.all 1) (.all 2) (.all 3))]⟩,⟨false,25,1, .ints .u32 (X.2).A0.Mem⟩,⟨false,126,4, .recs .apiEntry (X.2).B3⟩,⟨false,66,3, .recs .apiEvent (X.2).A9⟩])
theorem Z2u:Q06 pG Z99:=oT (.cons Qq7 (.cons Qqh (.cons Qm5 (.cons Qmh (.nil))))) Tryz.func161 Tryz.call161 [.row 25 1 (.ints .u32), .row 126 4 (.recs .apiEntry), .row 66 3 (.recs .apiEvent)] [] 2
def Q89(m:Q02)(e:Q0b):Tree (Bool×Q02):=
.an (Qpa m e) (.lv (Qls m e) λ(x0:Bool×Q02)=> .lf (x0.1,x0.2))
def Qiu m e:=(Q89 m e).m
abbrev Qmn m e:=(Q89 m e).p
def Z56:Q0f:=mT 159 [true,false] true [.ptr 0, .agg Q0b.sig] [.box 96 52 (Q02.sigW (.row 1) (.row 2) (.row 3)), .arr 25 1 (.ints .u32), .arr 126 4 (.recs .apiEntry), .arr 66 3 (.recs .apiEvent)] (λa r=>Q89 (Q02.ofW (r.getD 0 default).cs (rowL .u32 r 1) (rowR .apiEntry r 2) (rowR .apiEvent r 3)) (Q0b.of (aC a 1))) (λX=> .bool (X.1)) (λX=>[⟨true,96,52, .gen [(Q02.cellsW (X.2) (.all 1) (.all 2) (.all 3))]⟩,⟨false,25,1, .ints .u32 (X.2).A0.Mem⟩,⟨false,126,4, .recs .apiEntry (X.2).B3⟩,⟨false,66,3, .recs .apiEvent (X.2).A9⟩])
theorem Z0x:Q06 pG Z56:=oT (.cons Z2u (.nil)) Tryz.func159 Tryz.call159 [.row 25 1 (.ints .u32), .row 126 4 (.recs .apiEntry), .row 66 3 (.recs .apiEvent)] [] 2
def Qb1(r:Q02)(e:Q0b):Tree Q02:=
.an (Qmn r e) (.lv (Qiu r e) λ(x0:Bool×Q02)=> .br x0.1 (.cn (decide (40*(x0.2.B3.length+1)<=140737488355328)) (.lf ({A0:=x0.2.A0,A7:=x0.2.A7,B3:=x0.2.B3++[{At:=x0.2.A0.A2,B6:=e}],A9:=x0.2.A9}))) (.lf x0.2))
def Qk2 r e:=(Qb1 r e).m
abbrev Qjc r e:=(Qb1 r e).p
def Zdg:Q0f:=mkKP 1 213 [true,false] [.ptr 0, .agg Q0b.sig] [.box 96 52 (Q02.sigW (.row 1) (.row 2) (.row 3)), .arr 25 1 (.ints .u32), .arr 126 4 (.recs .apiEntry), .arr 66 3 (.recs .apiEvent)] (λa r=>Qjc (Q02.ofW (r.getD 0 default).cs (rowL .u32 r 1) (rowR .apiEntry r 2) (rowR .apiEvent r 3)) (Q0b.of (aC a 1))) (λa r=>Qk2 (Q02.ofW (r.getD 0 default).cs (rowL .u32 r 1) (rowR .apiEntry r 2) (rowR .apiEvent r 3)) (Q0b.of (aC a 1))) (λX=> .tup []) (λX=>[⟨true,96,52, .gen [(Q02.cellsW X (.all 1) (.all 2) (.all 3))]⟩,⟨false,25,1, .ints .u32 X.A0.Mem⟩,⟨false,126,4, .recs .apiEntry X.B3⟩,⟨false,66,3, .recs .apiEvent X.A9⟩])
theorem Z8l:Q06 pG Zdg:=qA drawn Q0k (.cons Z0x (.nil)) Tryz.func213 Tryz.call213 (λa r=>Qb1 (Q02.ofW (r.getD 0 default).cs (rowL .u32 r 1) (rowR .apiEntry r 2) (rowR .apiEvent r 3)) (Q0b.of (aC a 1))) [.row 25 1 (.ints .u32), .row 126 4 (.recs .apiEntry), .row 66 3 (.recs .apiEvent)] [] 2 (λ_ _ _=>by kernel_rfl) (λ_ _=>rfl) (λ_ _ h=>h)
def Qk8(is:Bool)(n:Int):Tree Int:=
.br is (.cn (decide (0<=wrap u64 n)) (.lf (ishl u32 1 (wrap u64 n)))) (.lf 0)
def Q9w is n:=(Qk8 is n).m
abbrev Qbn is n:=(Qk8 is n).p
def Zly:Q0f:=mT 104 [] true [.one (.bool), .one (.int .i64)] [] (λa r=>Qk8 (argB a 0) (argI a 1)) (λX=> .int .u32 X) (λX=>[])
theorem Zik:Q06 pG Zly:=oT (.nil) Tryz.func104 Tryz.call104 [] [] 2
def Qju(t:Q0j):Tree Bool:=
.lf t.D3
def Qbd t:=(Qju t).m
def Qus:Q0f:=mS 105 [] true [.agg Q0j.sig] [] (λa r=>Qju (Q0j.of (aC a 0))) (λX=> .bool X) (λX=>[])
theorem Qsu:Q06 pG Qus:=oS (.nil) Tryz.func105 Tryz.call105 [] [] 2
def Qhn(c:Q0e):Tree Bool:=
.lf (decide ((c.D2.length:Int)>(0:Int)))
def Q6a c:=(Qhn c).m
def Qr7:Q0f:=mS 106 [] true [.agg Q0e.sig] [] (λa r=>Qhn (Q0e.of (aC a 0))) (λX=> .bool X) (λX=>[])
theorem Qpj:Q06 pG Qr7:=oS (.nil) Tryz.func106 Tryz.call106 [] [] 2
def Qlf(d0:Q0h):Tree Bool:=
.br (d0.C4==2) (.lf true) (.lf (d0.C4==3))
def Qd0 d0:=(Qlf d0).m
def Qwb:Q0f:=mS 107 [] true [.agg Q0h.sig] [] (λa r=>Qlf (Q0h.of (aC a 0))) (λX=> .bool X) (λX=>[])
theorem Qts:Q06 pG Qwb:=oS (.nil) Tryz.func107 Tryz.call107 [] [] 2
def Qn2(n:Q0q):Tree Bool:=
.lf n.C0
def Qfd n:=(Qn2 n).m
def Qyt:Q0f:=mS 108 [] true [.agg Q0q.sig] [] (λa r=>Qn2 (Q0q.of (aC a 0))) (λX=> .bool X) (λX=>[])
theorem Qwk:Q06 pG Qyt:=oS (.nil) Tryz.func108 Tryz.call108 [] [] 2
def Qqk(b:Q07)(z:(Int)×(Int)):Prop:=0<=z.2/\z.2<=32
def Qhv(b:Q07)(z:(Int)×(Int)):Nat:=(32-z.2).toNat
def Qld(b:Q07):Tree Int:=
.lp inferInstance (Qhv b (0,0)+1) ((rZ/\rE (0:Int)/\rE (0:Int)/\True)/\(rE b.C9/\rE b.C5/\True)/\True) (0,0) λ(v0:Int×Int)=> .br (decide (v0.2<32)) (.cn (decide (0<=wrap u64 v0.2)) (.nx ((rZ/\rE ((wrap i64 (v0.1+wrap i64 (iand u32 (ishr u32 b.C5 (wrap u64 v0.2)) 1))):Int)/\rE ((wrap i64 (v0.2+1)):Int)/\True)/\(rE b.C9/\rE b.C5/\True)/\True) (Sum.inl (wrap i64 (v0.1+wrap i64 (iand u32 (ishr u32 b.C5 (wrap u64 v0.2)) 1)),wrap i64 (v0.2+1))))) (.lf (Sum.inr v0.1))
def Qfu b:=(Qld b).m
theorem Z98(b:Q07):(Qld b).p:=by
 unfold Tree.p Qld
 repeat'(first|refine w_lp (inv:=Qqk b) (μ:=Qhv b) ?_ (cK _) (λ_ _=> ?_)|exact trivial|refine w_br (λ_=> ?_) (λ_=> ?_)|refine w_cn ?_ ?_|refine w_an ?_ ?_|refine w_lv (λ_ _=> ?_)|refine w_nx ?_|refine w_lf ?_|refine And.intro ?_ ?_)
 all_goals((try simp only[Qqk,Qhv]at*);exact fin0)
def Zcl:LInv:={
 α:=(Int)×(Int)
 F:=λst a=>([(1, .ptr 0 0 0),(3, .int i64 a.1),(4, .int i64 a.2)],[⟨true,40,2, .gen [[(cT st 1 0),(cT st 1 1)]]⟩])
 a0:=λst=>((lk st 3).toInt,(lk st 4).toInt)
 ex0:=λst=>[]++[(rX st 1 0)]}
def Z6x:List (Nat×LInv):=[(3,Zcl)]
def Zit:Q0f:=mS 177 [] true [.agg Q07.sig] [] (λa r=>Qld (Q07.of (aC a 0))) (λX=> .int .i64 X) (λX=>[])
theorem Qv8:Q06 pG Zit:=oS (.nil) Tryz.func177 Tryz.call177 [] Z6x 3 (λ_ _ _=>by kernel_rfl) (λa r=>Z98 (Q07.of (aC a 0))) (λ_ X=>by kernel_rfl)
def Qa6(b:Q07):Tree Bool:=
.lv (Qfu b) λ(x0:Int)=> .lf (wrap u64 x0 !=wrap u64 b.C9)
def Q4a b:=(Qa6 b).m
def Qqv:Q0f:=mS 109 [] true [.agg Q07.sig] [] (λa r=>Qa6 (Q07.of (aC a 0))) (λX=> .bool X) (λX=>[])
theorem Qpk:Q06 pG Qqv:=oS (.cons Qv8 (.nil)) Tryz.func109 Tryz.call109 [] [] 2
def Qh(m:Q00):Tree Int:=
.lv (Qbd m.B0) λ(x0:Bool)=> .an (Qbn x0 0) (.lv (Q9w x0 0) λ(x1:Int)=> .lv (Q6a m.A3) λ(x2:Bool)=> .an (Qbn x2 1) (.lv (Q9w x2 1) λ(x3:Int)=> .lv (Qd0 m.B1) λ(x4:Bool)=> .an (Qbn x4 2) (.lv (Q9w x4 2) λ(x5:Int)=> .lv (Qfd m.C2) λ(x6:Bool)=> .an (Qbn x6 3) (.lv (Q9w x6 3) λ(x7:Int)=> .lv (Q4a m.A1) λ(x8:Bool)=> .an (Qbn x8 4) (.lv (Q9w x8 4) λ(x9:Int)=> .lf (ior u32 (ior u32 (ior u32 (ior u32 x1 x3) x5) x7) x9))))))
def Qj3 m:=(Qh m).m
abbrev Qt8 m:=(Qh m).p
def Zff:Q0f:=mT 27 [] true [.agg Q00.sig] [] (λa r=>Qh (Q00.of (aC a 0))) (λX=> .int .u32 X) (λX=>[])
theorem Zf0:Q06 pG Zff:=oT (.cons Zik (.cons Qsu (.cons Qpj (.cons Qts (.cons Qwk (.cons Qpk (.nil))))))) Tryz.func27 Tryz.call27 [] [] 2
def Q9a(m:Q00):Tree Int:=
.an (Qt8 m) (.lv (Qj3 m) λ(x0:Int)=> .lf (iand u32 x0 m.B2.B8.a7))
def Q37 m:=(Q9a m).m
abbrev Qi2 m:=(Q9a m).p
def Z82:Q0f:=mT 111 [] true [.agg Q00.sig] [] (λa r=>Q9a (Q00.of (aC a 0))) (λX=> .int .u32 X) (λX=>[])
theorem Qq1:Q06 pG Z82:=oT (.cons Zf0 (.nil)) Tryz.func111 Tryz.call111 [] [] 2
def Qfr(m:Q00):Tree Bool:=
.br m.A4 (.an (Qi2 m) (.lv (Q37 m) λ(x0:Int)=> .lf (x0==0))) (.lf false)
def Qev m:=(Qfr m).m
abbrev Qof m:=(Qfr m).p
def Zln:Q0f:=mT 29 [] true [.agg Q00.sig] [] (λa r=>Qfr (Q00.of (aC a 0))) (λX=> .bool X) (λX=>[])
theorem Qzu:Q06 pG Zln:=oT (.cons Qq1 (.nil)) Tryz.func29 Tryz.call29 [] [] 2
def Q8e(m:Q00):Tree Bool:=
.lv (Q25 m) λ(x0:Bool)=> .br (!x0) (.lf true) (.br m.A6 (.lf true) (.an (Qof m) (.lv (Qev m) λ(x1:Bool)=> .br x1 (.lf true) (.lf (decide (m.A2>=1152921504606846976))))))
def Q0z m:=(Q8e m).m
abbrev Qcs m:=(Q8e m).p
def Zh4:Q0f:=mT 115 [] true [.agg Q00.sig] [] (λa r=>Q8e (Q00.of (aC a 0))) (λX=> .bool X) (λX=>[])
theorem Qoc:Q06 pG Zh4:=oT (.cons Qjo (.cons Qzu (.nil))) Tryz.func115 Tryz.call115 [] [] 2
end
noncomputable section
def Zap(b:Bool):Tree Int:=
.br b (.lf 1) (.lf 0)
def Qd6 b:=(Zap b).m
def Zq3:Q0f:=mS 281 [] true [.one (.bool)] [] (λa r=>Zap (argB a 0)) (λX=> .int .u32 X) (λX=>[])
theorem Quo:Q06 pG Zq3:=oS (.nil) Tryz.func281 Tryz.call281 [] [] 2
def Qkd(c:Q05)(cause bad:Int):Tree Q05:=
.lv (Qd6 (iand u32 c.B8.a0 (1:Int) !=(0:Int))) λ(x0:Int)=> .lv (Qd6 (iand u32 c.B8.a0 (2:Int) !=(0:Int))) λ(x1:Int)=> .lf ({X:=c.X,Pc:=c.B8.a1,B8:={a0:=ior u32 (Qir u32 (ior u32 (ior u32 (Qir u32 c.B8.a0 24) (wrap u32 (8*x0))) (wrap u32 (16*x1))) 2) 1,a1:=c.B8.a1,a2:=c.Pc,a3:=wrap u32 cause,a4:=bad,a5:=c.B8.a5,a6:=c.B8.a6,a7:=c.B8.a7}})
def Q2x c cause bad:=(Qkd c cause bad).m
def Zlm:Q0f:=mS 244 [] true [.agg Q05.sig, .one (.int .i64), .one (.int .u32)] [] (λa r=>Qkd (Q05.of (aC a 0)) (argI a 1) (argI a 2)) (λX=> .agg (Q05.cells X)) (λX=>[])
theorem Qll:Q06 pG Zlm:=oS (.cons Quo (.nil)) Tryz.func244 Tryz.call244 [] [] 2
def Q8x(m:List Int)(addr size:Int):Tree Bool:=
let T1:Tree (Bool):= .cn (decide (wrap u32 size≠0)) (.br (cX addr (wrap u32 size)==0) (.lv (Q40 m) λ(x0:Int)=> .lf (decide (addr<wrap u32 (wrap i64 (128*x0))))) (.lf false)); .br (size !=1) (.br (size !=4) (.lf false) T1) T1
def Q27 m addr size:=(Q8x m addr size).m
abbrev Qfb m addr size:=(Q8x m addr size).p
def Zek:Q0f:=mT 245 [] true [.one (.ints .u32), .one (.int .u32), .one (.int .i64)] [] (λa r=>Q8x (argL .u32 a 0) (argI a 1) (argI a 2)) (λX=> .bool X) (λX=>[])
theorem Qm6:Q06 pG Zek:=oT (.cons Qf (.nil)) Tryz.func245 Tryz.call245 [] [] 2
def Q43(m:List Int)(addr size:Int):Tree (Int×Bool):=
.an (Qfb m addr size) (.lv (Q27 m addr size) λ(x0:Bool)=> .br (!x0) (.lf (0,false)) (.cn (bS 1 1&&bT 0 1&&decide (0<=wrap u32 (eO addr 4)/\wrap u32 (eO addr 4)<(m.length:Int))) (.br (size==1) (.cn (decide (0<=wrap u32 (8*cX addr 4))) (.lf (iand u32 (ishr u32 (m.getD (cZ (wrap u32 (eO addr 4))) 0) (wrap u32 (8*cX addr 4))) 255,true))) (.lf (m.getD (cZ (wrap u32 (eO addr 4))) 0,true)))))
def Q1h m addr size:=(Q43 m addr size).m
abbrev Qf2 m addr size:=(Q43 m addr size).p
def Zlh:Q0f:=mT 187 [] true [.one (.ints .u32), .one (.int .u32), .one (.int .i64)] [] (λa r=>Q43 (argL .u32 a 0) (argI a 1) (argI a 2)) (λX=> .tup [.int .u32 (X.1), .bool (X.2)]) (λX=>[])
theorem Qpo:Q06 pG Zlh:=oT (.cons Qm6 (.nil)) Tryz.func187 Tryz.call187 [] [] 2
def Q6z(w:Int):Tree (Q0o×Bool):=
.lv (Q2i (wrap i64 (ishr u32 w 24))) λ(x0:Int)=>let E5:=({Op:=0,A:=0,B:=0,C:=0,Imm:=0}:Q0o); .br (x0==0) (.lf (E5,false)) (.br (x0==2) (let E3:=({Op:=wrap i64 (ishr u32 w 24),A:=wrap i64 (iand u32 (ishr u32 w 20) 15),B:=wrap i64 (iand u32 (ishr u32 w 16) 15),C:=wrap i64 (iand u32 w 65535),Imm:=0}:Q0o); .lv (Q81 E3) λ(x1:Bool)=> .br (!x1) (.lf (E5,false)) (.lf (E3,true))) (let T1:Tree ((Q0o×Bool)):=let E2:=({Op:=wrap i64 (ishr u32 w 24),A:=wrap i64 (iand u32 (ishr u32 w 20) 15),B:=wrap i64 (iand u32 (ishr u32 w 16) 15),C:=0,Imm:=wrap i32 (wrap i16 (iand u32 w 65535))}:Q0o); .lv (Q81 E2) λ(x2:Bool)=> .br (!x2) (.lf (E5,false)) (.lf (E2,true)); .br (x0==3) T1 (.br (x0==7) T1 (let E4:=({Op:=wrap i64 (ishr u32 w 24),A:=wrap i64 (iand u32 (ishr u32 w 20) 15),B:=wrap i64 (iand u32 (ishr u32 w 16) 15),C:=0,Imm:=wrap i32 (iand u32 w 65535)}:Q0o); .lv (Q81 E4) λ(x4:Bool)=> .br (!x4) (.lf (E5,false)) (.lf (E4,true))))))
def Q24 w:=(Q6z w).m
def Ze0:Q0f:=mS 188 [] true [.one (.int .u32)] [] (λa r=>Q6z (argI a 0)) (λX=> .tup [.agg (Q0o.cells (X.1)), .bool (X.2)]) (λX=>[])
theorem Qtm:Q06 pG Ze0:=oS (.cons Qh3 (.cons Qx7 (.nil))) Tryz.func188 Tryz.call188 [] [] 2
def Z00(access:Int):Tree Bool:=
.br (decide (access>=1)) (.lf (decide (access<=3))) (.lf false)
def Qfk access:=(Z00 access).m
def Zfw:Q0f:=mS 292 [] true [.one (.int .i64)] [] (λa r=>Z00 (argI a 0)) (λX=> .bool X) (λX=>[])
theorem Qvo:Q06 pG Zfw:=oS (.nil) Tryz.func292 Tryz.call292 [] [] 2
def Qzn(c:Q05):Tree Bool:=
.lf (iand u32 c.B8.a0 (5:Int)==(4:Int))
def Qmu c:=(Qzn c).m
def Zh9:Q0f:=mS 293 [] true [.agg Q05.sig] [] (λa r=>Qzn (Q05.of (aC a 0))) (λX=> .bool X) (λX=>[])
theorem Zdb:Q06 pG Zh9:=oS (.nil) Tryz.func293 Tryz.call293 [] [] 2
def Q9i(access:Int):Tree Int:=
.br (access==1) (.lf 4) (.br (access==3) (.lf 6) (.lf 5))
def Q26 access:=(Q9i access).m
def Z8b:Q0f:=mS 294 [] true [.one (.int .i64)] [] (λa r=>Q9i (argI a 0)) (λX=> .int .i64 X) (λX=>[])
theorem Qrj:Q06 pG Z8b:=oS (.nil) Tryz.func294 Tryz.call294 [] [] 2
def Qa3(m:List Int)(root va access:Int):Tree Q1g:=
.lv (Q26 access) λ(x0:Int)=> .lv (Q40 m) λ(x1:Int)=> .lv (Qfk access) λ(x2:Bool)=>let E4:=({Addr:=0,F2:=0,F0:=x0}:Q1g); .br (!x2) (.lf (E4)) (.br (decide (va>=4096)) (.lf (E4)) (.br (decide (root>=wrap u32 x1)) (.lf (E4)) (let E6:=wrap u32 (root*128)+wrap u32 (4*wrap u32 (eO va 128));let E3:=eO (wrap u32 E6) 4; .cn (bS 1 1&&bT 0 1&&decide (0<=wrap u32 E3/\wrap u32 E3<(m.length:Int))) (let E5:=m.getD (cZ (wrap u32 E3)) 0; .br (iand u32 E5 (1:Int)==(0:Int)) (.lf (E4)) (let T1:Tree (Q1g):= .br (decide (iand u32 (ishr u32 E5 8) 255>=wrap u32 x1)) (.lf (E4)) (.lf ({Addr:=wrap u32 (wrap u32 (iand u32 (ishr u32 E5 8) (255:Int)*(128:Int))+cX va 128),F2:=wrap u32 E6,F0:=0}));let T2:Tree (Q1g):= .br (access==1) (.br (iand u32 E5 (4:Int)==(0:Int)) (.lf (E4)) T1) T1; .br (access==3) (.br (iand u32 E5 (2:Int)==(0:Int)) (.lf (E4)) T2) T2)))))
def Q71 m root va access:=(Qa3 m root va access).m
abbrev Quu m root va access:=(Qa3 m root va access).p
def Zlp:Q0f:=mT 295 [] true [.one (.ints .u32), .one (.int .u32), .one (.int .u32), .one (.int .i64)] [] (λa r=>Qa3 (argL .u32 a 0) (argI a 1) (argI a 2) (argI a 3)) (λX=> .agg (Q1g.cells X)) (λX=>[])
theorem Zgd:Q06 pG Zlp:=oT (.cons Qrj (.cons Qf (.cons Qvo (.nil)))) Tryz.func295 Tryz.call295 [] [] 2
def Qgc(m:List Int)(entry access:Int):Tree (List Int):=
.an (Qfb m entry 4) (.lv (Q27 m entry 4) λ(x0:Bool)=> .br (!x0) (.lf m) (let E3:=bS 1 1&&bT 0 1&&decide (0<=wrap u32 (eO entry 4)/\wrap u32 (eO entry 4)<(m.length:Int)); .cn E3 (.cn E3 (let E4:=cZ (wrap u32 (eO entry 4));let E1:=dB m E4 (ior u32 (m.getD E4 0) 8); .br (access==3) (let E2:=bS 1 1&&bT 0 1&&decide (0<=wrap u32 (eO entry 4)/\wrap u32 (eO entry 4)<(↑(dF E1):Int)); .cn E2 (.cn E2 (.lf (dB E1 E4 (ior u32 (aK E1 E4 0) 16))))) (.lf E1)))))
def Qra m entry access:=(Qgc m entry access).m
abbrev Qw2 m entry access:=(Qgc m entry access).p
def Zmo:Q0f:=mT 296 [true,false,false] true [.one (.row 0), .one (.int .u32), .one (.int .i64)] [.arr 25 1 (.ints .u32)] (λa r=>Qgc (rowL .u32 r 0) (argI a 1) (argI a 2)) (λX=> .tup []) (λX=>[⟨false,25,1, .ints .u32 X⟩])
theorem Zjw:Q06 pG Zmo:=oT (.cons Qm6 (.nil)) Tryz.func296 Tryz.call296 [] [] 2
def Q8d(c:Q05)(m:List Int)(va size access:Int):Tree (Int×Int×(List Int)):=
.lv (Qfk access) λ(x0:Bool)=> .br (!x0) (.lf (0,5,m)) (let T1:Tree ((Int×Int×(List Int))):= .cn (decide (wrap u32 size≠0)) (.br (cX va (wrap u32 size) !=0) (.lf (0,3,m)) (.lv (Qmu c) λ(x1:Bool)=> .br (!x1) (.an (Qfb m va size) (.lv (Q27 m va size) λ(x2:Bool)=> .br (!x2) (.lv (Q26 access) λ(x3:Int)=> .lf (0,x3,m)) (.lf (va,0,m)))) (.an (Quu m c.B8.a6 va access) (.lv (Q71 m c.B8.a6 va access) λ(x4:Q1g)=> .br (x4.F0 !=0) (.lf (0,x4.F0,m)) (.an (Qw2 m x4.F2 access) (.lv (Qra m x4.F2 access) λ(x5:List Int)=> .lf (x4.Addr,0,x5))))))); .br (size !=1) (.br (size !=4) (.lf (0,5,m)) T1) T1)
def Q19 c m va size access:=(Q8d c m va size access).m
abbrev Q9c c m va size access:=(Q8d c m va size access).p
def Zh6:Q0f:=mT 254 [false,true,false,false,false] true [.agg Q05.sig, .one (.row 0), .one (.int .u32), .one (.int .i64), .one (.int .i64)] [.arr 25 1 (.ints .u32)] (λa r=>Q8d (Q05.of (aC a 0)) (rowL .u32 r 0) (argI a 2) (argI a 3) (argI a 4)) (λX=> .tup [.int .u32 (X.1), .int .i64 (X.2.1)]) (λX=>[⟨false,25,1, .ints .u32 (X.2.2)⟩])
theorem Qvw:Q06 pG Zh6:=oT (.cons Qvo (.cons Zdb (.cons Qm6 (.cons Qrj (.cons Zgd (.cons Zjw (.nil))))))) Tryz.func254 Tryz.call254 [] [] 2
def Qmm(op:Int):Tree Bool:=
.br (decide (op>=57)) (.lf (decide (op<=64))) (.lf false)
def Q3i op:=(Qmm op).m
def Qym:Q0f:=mS 255 [] true [.one (.int .i64)] [] (λa r=>Qmm (argI a 0)) (λX=> .bool X) (λX=>[])
theorem Qv1:Q06 pG Qym:=oS (.nil) Tryz.func255 Tryz.call255 [] [] 2
def Qek(c:Q05):Tree Q05:=
.lv (Qd6 (iand u32 c.B8.a0 (8:Int) !=(0:Int))) λ(x0:Int)=> .lv (Qd6 (iand u32 c.B8.a0 (16:Int) !=(0:Int))) λ(x1:Int)=> .lf ({X:=c.X,Pc:=c.B8.a2,B8:={a0:=ior u32 (ior u32 (Qir u32 c.B8.a0 3) (wrap u32 (1*x0))) (wrap u32 (2*x1)),a1:=c.B8.a1,a2:=c.B8.a2,a3:=c.B8.a3,a4:=c.B8.a4,a5:=c.B8.a5,a6:=c.B8.a6,a7:=c.B8.a7}})
def Qk c:=(Qek c).m
def Ze5:Q0f:=mS 297 [] true [.agg Q05.sig] [] (λa r=>Qek (Q05.of (aC a 0))) (λX=> .agg (Q05.cells X)) (λX=>[])
theorem Z81:Q06 pG Ze5:=oS (.cons Quo (.nil)) Tryz.func297 Tryz.call297 [] [] 2
def Qg1(c:Q05)(r v:Int):Tree Q05:=
.br (decide (r>0)) (.br (decide (r<16)) (.cn (bT 0 1&&decide (0<=r/\r<(↑16:Int))) (.lf ({X:=A16.of 0 (dB (A16.l c.X) r.toNat v),Pc:=c.Pc,B8:=c.B8}))) (.lf c)) (.lf c)
def Q1z c r v:=(Qg1 c r v).m
abbrev Q2t c r v:=(Qg1 c r v).p
def Zqn:Q0f:=mT 219 [] true [.agg Q05.sig, .one (.int .i64), .one (.int .u32)] [] (λa r=>Qg1 (Q05.of (aC a 0)) (argI a 1) (argI a 2)) (λX=> .agg (Q05.cells X)) (λX=>[])
theorem Qda:Q06 pG Zqn:=oT (.nil) Tryz.func219 Tryz.call219 [] [] 2
def Qe1(c:Q05)(csr v:Int):Tree Q05:=
let E4:=bT 0 1&&decide (0<=csr/\csr<(↑8:Int));let T2:Tree (Q05):= .cn E4 (.lf ({X:=c.X,Pc:=c.Pc,B8:=A8.of 0 (dB (A8.l c.B8) csr.toNat (iand u32 v 31))})); .br (csr==0) T2 (.br (csr==7) T2 (.br (csr==6) (.cn E4 (.lf ({X:=c.X,Pc:=c.Pc,B8:=A8.of 0 (dB (A8.l c.B8) csr.toNat (iand u32 v 255))}))) (let T3:Tree (Q05):= .cn E4 (.lf ({X:=c.X,Pc:=c.Pc,B8:=A8.of 0 (dB (A8.l c.B8) csr.toNat (Qir u32 v 3))})); .br (csr==1) T3 (.br (csr==2) T3 (let T1:Tree (Q05):= .cn E4 (.lf ({X:=c.X,Pc:=c.Pc,B8:=A8.of 0 (dB (A8.l c.B8) csr.toNat v)})); .br (csr==3) T1 (.br (csr==4) T1 (.br (csr==5) T1 (.lf c))))))))
def Qj1 c csr v:=(Qe1 c csr v).m
abbrev Qt5 c csr v:=(Qe1 c csr v).p
def Zhc:Q0f:=mT 298 [] true [.agg Q05.sig, .one (.int .i64), .one (.int .u32)] [] (λa r=>Qe1 (Q05.of (aC a 0)) (argI a 1) (argI a 2)) (λX=> .agg (Q05.cells X)) (λX=>[])
theorem Zcz:Q06 pG Zhc:=oT (.nil) Tryz.func298 Tryz.call298 [] [] 2
def Q8n(c:Q05)(i:Q0o):Tree (Q05×Q16):=
.br (i.Op==56) (.lv (Q2x c 7 0) λ(x0:Q05)=> .lf (x0,{B7:=0,D1:=0,D9:=0,Value:=0})) (.br (i.Op==57) (.lv (Qk c) λ(x1:Q05)=> .lf (x1,{B7:=0,D1:=0,D9:=0,Value:=0})) (.br (i.Op==58) (.cn (bT 0 1&&decide (0<=i.Imm/\i.Imm<(↑8:Int))) (let E3:=aK (A8.l c.B8) i.Imm.toNat 0; .an (Q2t c i.A E3) (.lv (Q1z c i.A E3) λ(x2:Q05)=> .lf ({X:=x2.X,Pc:=wrap u32 (x2.Pc+4),B8:=x2.B8},{B7:=0,D1:=0,D9:=0,Value:=0})))) (let E2:=bT 0 1&&decide (0<=i.A/\i.A<(↑16:Int)); .br (i.Op==59) (.cn E2 (let E4:=aK (A16.l c.X) i.A.toNat 0; .an (Qt5 c (wrap i64 i.Imm) E4) (.lv (Qj1 c (wrap i64 i.Imm) E4) λ(x3:Q05)=> .lf ({X:=x3.X,Pc:=wrap u32 (x3.Pc+4),B8:=x3.B8},{B7:=0,D1:=0,D9:=0,Value:=0})))) (let E1:=({X:=c.X,Pc:=wrap u32 (c.Pc+4),B8:=c.B8}:Q05); .br (i.Op==60) (.lf (E1,{B7:=1,D1:=wrap i64 i.Imm,D9:=i.A,Value:=0})) (.br (i.Op==61) (.cn E2 (.lf (E1,{B7:=2,D1:=wrap i64 i.Imm,D9:=0,Value:=aK (A16.l c.X) i.A.toNat 0}))) (.br (i.Op==62) (.lf (E1,{B7:=3,D1:=0,D9:=0,Value:=0})) (.br (i.Op==63) (.lf (E1,{B7:=5,D1:=0,D9:=0,Value:=0})) (.br (i.Op==64) (.lf (E1,{B7:=4,D1:=0,D9:=0,Value:=0})) (.lf (E1,{B7:=0,D1:=0,D9:=0,Value:=0}))))))))))
def Ql4 c i:=(Q8n c i).m
abbrev Qqr c i:=(Q8n c i).p
def Zf7:Q0f:=mT 256 [] true [.agg Q05.sig, .agg Q0o.sig] [] (λa r=>Q8n (Q05.of (aC a 0)) (Q0o.of (aC a 1))) (λX=> .tup [.agg (Q05.cells (X.1)), .agg (Q16.cells (X.2))]) (λX=>[])
theorem Z8f:Q06 pG Zf7:=oT (.cons Qll (.cons Z81 (.cons Qda (.cons Zcz (.nil))))) Tryz.func256 Tryz.call256 [] [] 2
def Qzh(op a b:Int):Tree Bool:=
.br (op==40) (.lf (a==b)) (.br (op==41) (.lf (a !=b)) (.br (op==42) (.lf (decide (wrap i32 a<wrap i32 b))) (.br (op==43) (.lf (decide (wrap i32 a>=wrap i32 b))) (.br (op==44) (.lf (decide (a<b))) (.lf (decide (a>=b)))))))
def Q2e op a b:=(Qzh op a b).m
def Zh3:Q0f:=mS 299 [] true [.one (.int .i64), .one (.int .u32), .one (.int .u32)] [] (λa r=>Qzh (argI a 0) (argI a 1) (argI a 2)) (λX=> .bool X) (λX=>[])
theorem Zds:Q06 pG Zh3:=oS (.nil) Tryz.func299 Tryz.call299 [] [] 2
def Qjd(c:Q05)(i:Q0o):Tree Q05:=
.br (i.Op==48) (.an (Q2t c i.A (wrap u32 (c.Pc+4))) (.lv (Q1z c i.A (wrap u32 (c.Pc+4))) λ(x0:Q05)=> .lf ({X:=x0.X,Pc:=wrap u32 (c.Pc+wrap u32 (4*wrap u32 i.Imm)),B8:=x0.B8}))) (let E1:=bT 0 1&&decide (0<=i.B/\i.B<(↑16:Int)); .br (i.Op==49) (.cn E1 (.an (Q2t c i.A (wrap u32 (c.Pc+4))) (.lv (Q1z c i.A (wrap u32 (c.Pc+4))) λ(x1:Q05)=> .lf ({X:=x1.X,Pc:=wrap u32 (aK (A16.l c.X) i.B.toNat 0+wrap u32 i.Imm),B8:=x1.B8})))) (.cn (bT 0 1&&decide (0<=i.A/\i.A<(↑16:Int))) (.cn E1 (.lv (Q2e i.Op (aK (A16.l c.X) i.A.toNat 0) (aK (A16.l c.X) i.B.toNat 0)) λ(x2:Bool)=> .br x2 (.lf ({X:=c.X,Pc:=wrap u32 (c.Pc+wrap u32 (4*wrap u32 i.Imm)),B8:=c.B8})) (.lf ({X:=c.X,Pc:=wrap u32 (c.Pc+4),B8:=c.B8}))))))
def Z3z c i:=(Qjd c i).m
abbrev Qwj c i:=(Qjd c i).p
def Zl9:Q0f:=mT 257 [] true [.agg Q05.sig, .agg Q0o.sig] [] (λa r=>Qjd (Q05.of (aC a 0)) (Q0o.of (aC a 1))) (λX=> .agg (Q05.cells X)) (λX=>[])
theorem Zg1:Q06 pG Zl9:=oT (.cons Qda (.cons Zds (.nil))) Tryz.func257 Tryz.call257 [] [] 2
def Q88(x n:Int):Tree Int:=
.br (decide (n<1)) (.lf 0) (.br (decide (n>=32)) (.lf x) (.cn (decide (0<=wrap u64 n)) (.cn (decide (0<=wrap u64 (wrap i64 (n-1)))) (let E1:=iand u32 x (wrap u32 (ishl u32 1 (wrap u64 n)-1)); .br (ishr u32 E1 (wrap u64 (wrap i64 (n-1)))==1) (.cn (decide (0<=wrap u64 n)) (.lf (ior u32 E1 (ishl u32 4294967295 (wrap u64 n))))) (.lf E1)))))
def Q3j x n:=(Q88 x n).m
abbrev Qdq x n:=(Q88 x n).p
def Qxo:Q0f:=mT 301 [] true [.one (.int .u32), .one (.int .i64)] [] (λa r=>Q88 (argI a 0) (argI a 1)) (λX=> .int .u32 X) (λX=>[])
theorem Qw9:Q06 pG Qxo:=oT (.nil) Tryz.func301 Tryz.call301 [] [] 2
def Qa(c:Q05)(m:List Int)(i:Q0o):Tree (Q05×(List Int)):=
.cn (bT 0 1&&decide (0<=i.B/\i.B<(↑16:Int))) (let E4:=wrap u32 (aK (A16.l c.X) i.B.toNat 0+wrap u32 i.Imm);let E5:=aK (A16.l c.X) i.A.toNat 0;let E6:=bT 0 1&&decide (0<=i.A/\i.A<(↑16:Int));let E7:=({X:=c.X,Pc:=wrap u32 (c.Pc+4),B8:=c.B8}:Q05);let T1:Tree ((Q05×(List Int))):=let T3:Tree ((Q05×(List Int))):= .an (Q9c c m E4 4 3) (.lv (Q19 c m E4 4 3) λ(x0:Int×Int×List Int)=> .br (x0.2.1 !=0) (.lv (Q2x c x0.2.1 E4) λ(x1:Q05)=> .lf (x1,x0.2.2)) (.cn E6 (.an (Qhf x0.2.2 x0.1 4 E5) (.lv (Qbo x0.2.2 x0.1 4 E5) λ(x2:List Int)=> .lf (E7,x2))))); .br (i.Op==35) T3 (.br (i.Op==36) T3 (.an (Q9c c m E4 4 2) (.lv (Q19 c m E4 4 2) λ(x6:Int×Int×List Int)=> .br (x6.2.1 !=0) (.lv (Q2x c x6.2.1 E4) λ(x7:Q05)=> .lf (x7,x6.2.2)) (.an (Qf2 x6.2.2 x6.1 4) (.lv (Q1h x6.2.2 x6.1 4) λ(x8:Int×Bool)=> .br (i.Op==33) (.an (Qdq x8.1 8) (.lv (Q3j x8.1 8) λ(x9:Int)=> .an (Q2t c i.A x9) (.lv (Q1z c i.A x9) λ(x10:Q05)=> .lf ({X:=x10.X,Pc:=wrap u32 (x10.Pc+4),B8:=x10.B8},x6.2.2)))) (.an (Q2t c i.A x8.1) (.lv (Q1z c i.A x8.1) λ(x11:Q05)=> .lf ({X:=x11.X,Pc:=wrap u32 (x11.Pc+4),B8:=x11.B8},x6.2.2)))))))); .br (i.Op==32) T1 (.br (i.Op==35) T1 (let T2:Tree ((Q05×(List Int))):= .an (Q9c c m E4 1 3) (.lv (Q19 c m E4 1 3) λ(x24:Int×Int×List Int)=> .br (x24.2.1 !=0) (.lv (Q2x c x24.2.1 E4) λ(x25:Q05)=> .lf (x25,x24.2.2)) (.cn E6 (.an (Qhf x24.2.2 x24.1 1 E5) (.lv (Qbo x24.2.2 x24.1 1 E5) λ(x26:List Int)=> .lf (E7,x26))))); .br (i.Op==35) T2 (.br (i.Op==36) T2 (.an (Q9c c m E4 1 2) (.lv (Q19 c m E4 1 2) λ(x30:Int×Int×List Int)=> .br (x30.2.1 !=0) (.lv (Q2x c x30.2.1 E4) λ(x31:Q05)=> .lf (x31,x30.2.2)) (.an (Qf2 x30.2.2 x30.1 1) (.lv (Q1h x30.2.2 x30.1 1) λ(x32:Int×Bool)=> .br (i.Op==33) (.an (Qdq x32.1 8) (.lv (Q3j x32.1 8) λ(x33:Int)=> .an (Q2t c i.A x33) (.lv (Q1z c i.A x33) λ(x34:Q05)=> .lf ({X:=x34.X,Pc:=wrap u32 (x34.Pc+4),B8:=x34.B8},x30.2.2)))) (.an (Q2t c i.A x32.1) (.lv (Q1z c i.A x32.1) λ(x35:Q05)=> .lf ({X:=x35.X,Pc:=wrap u32 (x35.Pc+4),B8:=x35.B8},x30.2.2)))))))))))
def Q5k c m i:=(Qa c m i).m
abbrev Qmz c m i:=(Qa c m i).p
def Z2s:Q0f:=mT 258 [false,true,false] true [.agg Q05.sig, .one (.row 0), .agg Q0o.sig] [.arr 25 1 (.ints .u32)] (λa r=>Qa (Q05.of (aC a 0)) (rowL .u32 r 0) (Q0o.of (aC a 2))) (λX=> .agg (Q05.cells (X.1))) (λX=>[⟨false,25,1, .ints .u32 (X.2)⟩])
theorem Z11:Q06 pG Z2s:=oT (.cons Qvw (.cons Qll (.cons Z54 (.cons Qpo (.cons Qw9 (.cons Qda (.nil))))))) Tryz.func258 Tryz.call258 [] [] 2
def Qzl(op:Int):Tree Int:=
.br (op==16) (.lf 1) (.br (op==17) (.lf 3) (.br (op==18) (.lf 4) (.br (op==19) (.lf 5) (.br (op==20) (.lf 6) (.br (op==21) (.lf 7) (.br (op==22) (.lf 8) (.br (op==23) (.lf 12) (.lf op))))))))
def Zae op:=(Qzl op).m
def Zg4:Q0f:=mS 302 [] true [.one (.int .i64)] [] (λa r=>Qzl (argI a 0)) (λX=> .int .i64 X) (λX=>[])
theorem Zed:Q06 pG Zg4:=oS (.nil) Tryz.func302 Tryz.call302 [] [] 2
def Qbp(a b:Int):Tree (Int×Int):=
.br (b==0) (.lf (4294967295,a)) (.cn (decide (wrap i64 (wrap i32 b)≠0)) (.cn (decide (wrap i64 (wrap i32 b)≠0)) (.lf (wrap u32 (wrap i64 (eO (wrap i64 (wrap i32 a)) (wrap i64 (wrap i32 b)))),wrap u32 (cX (wrap i64 (wrap i32 a)) (wrap i64 (wrap i32 b)))))))
def Qdl a b:=(Qbp a b).m
abbrev Qki a b:=(Qbp a b).p
def Zex:Q0f:=mT 303 [] true [.one (.int .u32), .one (.int .u32)] [] (λa r=>Qbp (argI a 0) (argI a 1)) (λX=> .tup [.int .u32 (X.1), .int .u32 (X.2)]) (λX=>[])
theorem Z8q:Q06 pG Zex:=oT (.nil) Tryz.func303 Tryz.call303 [] [] 2
def Qnj(op a b:Int):Tree (Int×Bool):=
.lv (Zae op) λ(x0:Int)=> .br (x0==1) (.lf (wrap u32 (a+b),true)) (.br (x0==2) (.lf (wrap u32 (a-b),true)) (.br (x0==3) (.lf (iand u32 a b,true)) (.br (x0==4) (.lf (ior u32 a b,true)) (.br (x0==5) (.lf (ixor u32 a b,true)) (.br (x0==6) (.lf (ishl u32 a (iand u32 b 31),true)) (.br (x0==7) (.lf (ishr u32 a (iand u32 b 31),true)) (.br (x0==8) (.lf (wrap u32 (ishr i32 (wrap i32 a) (iand u32 b 31)),true)) (.br (x0==9) (.lf (wrap u32 (a*b),true)) (.br (x0==10) (.an (Qki a b) (.lv (Qdl a b) λ(x1:Int×Int)=> .lf (x1.1,true))) (.br (x0==11) (.an (Qki a b) (.lv (Qdl a b) λ(x2:Int×Int)=> .lf (x2.2,true))) (.br (x0==12) (.lv (Qd6 (decide (wrap i32 a<wrap i32 b))) λ(x3:Int)=> .lf (x3,true)) (.br (x0==13) (.lv (Qd6 (decide (a<b))) λ(x4:Int)=> .lf (x4,true)) (.lf (0,false))))))))))))))
def Qep op a b:=(Qnj op a b).m
abbrev Qpy op a b:=(Qnj op a b).p
def Zp8:Q0f:=mT 259 [] true [.one (.int .i64), .one (.int .u32), .one (.int .u32)] [] (λa r=>Qnj (argI a 0) (argI a 1) (argI a 2)) (λX=> .tup [.int .u32 (X.1), .bool (X.2)]) (λX=>[])
theorem Zlw:Q06 pG Zp8:=oT (.cons Zed (.cons Z8q (.cons Quo (.nil)))) Tryz.func259 Tryz.call259 [] [] 2
def Qr0(c:Q05)(m:List Int):Tree (Q05×Q16×(List Int)):=
.an (Q9c c m c.Pc 4 1) (.lv (Q19 c m c.Pc 4 1) λ(x0:Int×Int×List Int)=> .br (x0.2.1 !=0) (.lv (Q2x c x0.2.1 c.Pc) λ(x1:Q05)=> .lf (x1,{B7:=0,D1:=0,D9:=0,Value:=0},x0.2.2)) (.an (Qf2 x0.2.2 x0.1 4) (.lv (Q1h x0.2.2 x0.1 4) λ(x2:Int×Bool)=> .lv (Q24 x2.1) λ(x3:Q0o×Bool)=> .br (!x3.2) (.lv (Q2x c 1 x2.1) λ(x4:Q05)=> .lf (x4,{B7:=0,D1:=0,D9:=0,Value:=0},x0.2.2)) (.lv (Q3i x3.1.Op) λ(x5:Bool)=>let T1:Tree ((Q05×Q16×(List Int))):= .br (decide (x3.1.Op>=56)) (.an (Qqr c x3.1) (.lv (Ql4 c x3.1) λ(x7:Q05×Q16)=> .lf (x7.1,x7.2,x0.2.2))) (.br (decide (x3.1.Op>=40)) (.an (Qwj c x3.1) (.lv (Z3z c x3.1) λ(x8:Q05)=> .lf (x8,{B7:=0,D1:=0,D9:=0,Value:=0},x0.2.2))) (.br (decide (x3.1.Op>=32)) (.an (Qmz c x0.2.2 x3.1) (.lv (Q5k c x0.2.2 x3.1) λ(x9:Q05×List Int)=> .lf (x9.1,{B7:=0,D1:=0,D9:=0,Value:=0},x9.2))) (.br (x3.1.Op==24) (.an (Q2t c x3.1.A (ishl u32 (wrap u32 x3.1.Imm) 16)) (.lv (Q1z c x3.1.A (ishl u32 (wrap u32 x3.1.Imm) 16)) λ(x10:Q05)=> .lf ({X:=x10.X,Pc:=wrap u32 (x10.Pc+4),B8:=x10.B8},{B7:=0,D1:=0,D9:=0,Value:=0},x0.2.2))) (let E2:=aK (A16.l c.X) x3.1.B.toNat 0;let E3:=bT 0 1&&decide (0<=x3.1.B/\x3.1.B<(↑16:Int)); .br (decide (x3.1.Op<=13)) (.cn (bT 0 1&&decide (0<=x3.1.C/\x3.1.C<(↑16:Int))) (.cn E3 (let E4:=aK (A16.l c.X) x3.1.C.toNat 0; .an (Qpy x3.1.Op E2 E4) (.lv (Qep x3.1.Op E2 E4) λ(x11:Int×Bool)=> .an (Q2t c x3.1.A x11.1) (.lv (Q1z c x3.1.A x11.1) λ(x12:Q05)=> .lf ({X:=x12.X,Pc:=wrap u32 (x12.Pc+4),B8:=x12.B8},{B7:=0,D1:=0,D9:=0,Value:=0},x0.2.2)))))) (.cn E3 (.an (Qpy x3.1.Op E2 (wrap u32 x3.1.Imm)) (.lv (Qep x3.1.Op E2 (wrap u32 x3.1.Imm)) λ(x13:Int×Bool)=> .an (Q2t c x3.1.A x13.1) (.lv (Q1z c x3.1.A x13.1) λ(x14:Q05)=> .lf ({X:=x14.X,Pc:=wrap u32 (x14.Pc+4),B8:=x14.B8},{B7:=0,D1:=0,D9:=0,Value:=0},x0.2.2))))))))); .br x5 (.br (iand u32 c.B8.a0 (1:Int)==(0:Int)) (.lv (Q2x c 2 x2.1) λ(x6:Q05)=> .lf (x6,{B7:=0,D1:=0,D9:=0,Value:=0},x0.2.2)) T1) T1))))
def Q5f c m:=(Qr0 c m).m
abbrev Qok c m:=(Qr0 c m).p
def qC:Q0f:=mT 217 [false,true] true [.agg Q05.sig, .one (.row 0)] [.arr 25 1 (.ints .u32)] (λa r=>Qr0 (Q05.of (aC a 0)) (rowL .u32 r 0)) (λX=> .tup [.agg (Q05.cells (X.1)), .agg (Q16.cells (X.2.1))]) (λX=>[⟨false,25,1, .ints .u32 (X.2.2)⟩])
theorem Qy:Q06 pG qC:=oT (.cons Qvw (.cons Qll (.cons Qpo (.cons Qtm (.cons Qv1 (.cons Z8f (.cons Zg1 (.cons Z11 (.cons Qda (.cons Zlw (.nil))))))))))) Tryz.func217 Tryz.call217 [] [] 2
end
noncomputable section
def Qf0(steps:Int):Tree Int:=
.lf (if 4000<if 0>steps then 0 else steps then 4000 else if 0>steps then 0 else steps)
def Q0i steps:=(Qf0 steps).m
def Z2z:Q0f:=mS 158 [] true [.one (.int .i64)] [] (λa r=>Qf0 (argI a 0)) (λX=> .int .i64 X) (λX=>[])
theorem Qox:Q06 pG Z2z:=oS (.nil) Tryz.func158 Tryz.call158 [] [] 2
def Z9j(t:Q0j)(now:Int):Tree Bool:=
.br t.D4 (.lf (decide (now>=t.C8))) (.lf false)
def Qsc t now:=(Z9j t now).m
def Zq1:Q0f:=mS 214 [] true [.agg Q0j.sig, .one (.int .u32)] [] (λa r=>Z9j (Q0j.of (aC a 0)) (argI a 1)) (λX=> .bool X) (λX=>[])
theorem Zmc:Q06 pG Zq1:=oS (.nil) Tryz.func214 Tryz.call214 [] [] 2
def Qfj(m:Q00)(z:(Int)):Nat:=(32-z).toNat
def Q4y(m:Q00):Tree Q05:=
.an (Qi2 m) (.lv (Q37 m) λ(x0:Int)=> .br (iand u32 m.B2.B8.a0 (2:Int)==(0:Int)) (.lf m.B2) (.br (x0==0) (.lf m.B2) (.lp inferInstance (Qfj m 0+1) ((rZ/\rZ/\rE (x0:Int)/\rE (0:Int)/\True)/\(mE m (((Els.Nil (Els.ints u32 m.Mem)\/rE (1:Nat))/\rE m.Mem)) True)/\(rE (0:Int)/\rE (0:Int)/\rE (0:Int)/\rE (0:Int)/\rE (0:Int)/\rE (0:Int)/\rE (0:Int)/\rE (0:Int)/\rE (0:Int)/\rE (0:Int)/\rE (0:Int)/\rE (0:Int)/\rE (0:Int)/\rE (0:Int)/\rE (0:Int)/\rE (0:Int)/\rE (0:Int)/\rE (0:Int)/\rE (0:Int)/\rE (0:Int)/\rE (0:Int)/\rE (0:Int)/\rE (0:Int)/\rE (0:Int)/\rE (0:Int)/\True)/\True) 0 λ(v0:Int)=> .cn (decide (0<=wrap u64 v0)) (.br (iand u32 (ishr u32 x0 (wrap u64 v0)) (1:Int)==(0:Int)) (.nx ((rZ/\rZ/\rE (x0:Int)/\rE ((wrap i64 (v0+1)):Int)/\True)/\(mE m (((Els.Nil (Els.ints u32 m.Mem)\/rE (1:Nat))/\rE m.Mem)) True)/\(rE (0:Int)/\rE (0:Int)/\rE (0:Int)/\rE (0:Int)/\rE (0:Int)/\rE (0:Int)/\rE (0:Int)/\rE (0:Int)/\rE (0:Int)/\rE (0:Int)/\rE (0:Int)/\rE (0:Int)/\rE (0:Int)/\rE (0:Int)/\rE (0:Int)/\rE (0:Int)/\rE (0:Int)/\rE (0:Int)/\rE (0:Int)/\rE (0:Int)/\rE (0:Int)/\rE (0:Int)/\rE (0:Int)/\rE (0:Int)/\rE (0:Int)/\True)/\True) (Sum.inl (wrap i64 (v0+1)))) (.lv (Q2x m.B2 (wrap i64 (16+v0)) 0) λ(x1:Q05)=> .lf (Sum.inr x1))))))
def Q0n m:=(Q4y m).m
abbrev Q5a m:=(Q4y m).p
def Qur:LInv:={
 α:=(Int)
 F:=λst a=>([(1, .ptr 0 0 0),(2, .ptr 1 0 0),(3,(lk st 3)),(4, .int i64 a)],[⟨true,43,49, .gen [mB (cT st 1)]⟩,⟨true,29,25, .gen [[(cT st 2 0),(cT st 2 1),(cT st 2 2),(cT st 2 3),(cT st 2 4),(cT st 2 5),(cT st 2 6),(cT st 2 7),(cT st 2 8),(cT st 2 9),(cT st 2 10),(cT st 2 11),(cT st 2 12),(cT st 2 13),(cT st 2 14),(cT st 2 15),(cT st 2 16),(cT st 2 17),(cT st 2 18),(cT st 2 19),(cT st 2 20),(cT st 2 21),(cT st 2 22),(cT st 2 23),(cT st 2 24)]]⟩])
 a0:=λst=>(lk st 4).toInt
 ex0:=λst=>[]++[(rX st 1 0),(rX st 2 1)]}
def Qpn:List (Nat×LInv):=[(5,Qur)]
def Qwd:Q0f:=mT 186 [] true [.agg Q00.sig] [] (λa r=>Q4y (Q00.of (aC a 0))) (λX=> .agg (Q05.cells X)) (λX=>[])
theorem Q8o:Q06 pG Qwd:=oT (.cons Qq1 (.cons Qll (.nil))) Tryz.func186 Tryz.call186 [] Qpn 3
def Qgx(m:Q00):Tree Bool:=
.an (Q5a m) (.lv (Q0n m) λ(x0:Q05)=> .br (iand u32 x0.B8.a0 (1:Int)==(0:Int)) (.lf false) (.an (Qf2 m.Mem x0.Pc 4) (.lv (Q1h m.Mem x0.Pc 4) λ(x1:Int×Bool)=> .lv (Q24 x1.1) λ(x2:Q0o×Bool)=> .br x1.2 (.br x2.2 (.br (x2.1.Op==60) (.lf (x2.1.Imm==2)) (.lf false)) (.lf false)) (.lf false))))
def Qmv m:=(Qgx m).m
abbrev Qma m:=(Qgx m).p
def Zjn:Q0f:=mT 116 [] true [.agg Q00.sig] [] (λa r=>Qgx (Q00.of (aC a 0))) (λX=> .bool X) (λX=>[])
theorem Qwo:Q06 pG Zjn:=oT (.cons Q8o (.cons Qpo (.cons Qtm (.nil)))) Tryz.func116 Tryz.call116 [] [] 2
def Q87(m:Q00):Tree Bool:=
.an (Qcs m) (.lv (Q0z m) λ(x0:Bool)=> .br x0 (.lf false) (.an (Qma m) (.lv (Qmv m) λ(x1:Bool)=> .lf x1)))
def Q0g m:=(Q87 m).m
abbrev Q41 m:=(Q87 m).p
def Qzc:Q0f:=mT 31 [] true [.agg Q00.sig] [] (λa r=>Q87 (Q00.of (aC a 0))) (λX=> .bool X) (λX=>[])
theorem Qlh:Q06 pG Qzc:=oT (.cons Qoc (.cons Qwo (.nil))) Tryz.func31 Tryz.call31 [] [] 2
def Q3v(c:Q0e)(port:Int):Tree (Q0e×Int):=
let T1:Tree ((Q0e×Int)):= .br (port==0) (.cn (decide ((0:Int)<=(1:Int)/\1<=(c.D2.length:Int)/\(c.D2.length:Int)<=(c.D2.length:Int))) (.cn (decide ((0:Int)<=(0:Int)/\0<(c.D2.length:Int))) (.lf ({D2:=cY (cZ (c.D2.length:Int)-cZ 1) (dA (cZ 1) c.D2)},wrap u32 (↑(eR (c.D2.getD (cZ 0) (0:UInt8))):Int))))) (.br (port==1) (.lf (c,wrap u32 (c.D2.length:Int))) (.lf (c,0))); .br (port==0) (.br ((c.D2.length:Int)==(0:Int)) (.lf (c,4294967295)) T1) T1
def Q4h c port:=(Q3v c port).m
theorem Qx2(c:Q0e)(port:Int):(Q3v c port).p:=by
 unfold Tree.p Q3v
 repeat'(first|exact trivial|refine w_br (λ_=> ?_) (λ_=> ?_)|refine w_cn ?_ ?_|refine w_an ?_ ?_|refine w_lv (λ_ _=> ?_)|refine w_nx ?_|refine w_lf ?_|refine And.intro ?_ ?_)
 all_goals(exact fin0)
def Z1l:Q0f:=mS 260 [] true [.agg Q0e.sig, .one (.int .i64)] [] (λa r=>Q3v (Q0e.of (aC a 0)) (argI a 1)) (λX=> .tup [.agg (Q0e.cells (X.1)), .int .u32 (X.2)]) (λX=>[])
theorem Qfs:Q06 pG Z1l:=oS (.nil) Tryz.func260 Tryz.call260 [] [] 2 (λ_ _ _=>by kernel_rfl) (λa r=>Qx2 (Q0e.of (aC a 0)) (argI a 1)) (λ_ X=>by kernel_rfl)
def Qgn(t:Q0j):Tree Int:=
.br t.D3 (.lf 1) (.lf 0)
def Qe4 t:=(Qgn t).m
def Z8h:Q0f:=mS 261 [] true [.agg Q0j.sig] [] (λa r=>Qgn (Q0j.of (aC a 0))) (λX=> .int .u32 X) (λX=>[])
theorem Qja:Q06 pG Z8h:=oS (.nil) Tryz.func261 Tryz.call261 [] [] 2
def Qii(d0:Q0h)(port:Int):Tree Int:=
.br (port==4) (.lf d0.C3) (.br (port==5) (.lf d0.Frame) (.br (port==6) (.lf (wrap u32 d0.C4)) (.lf 0)))
def Qg9 d0 port:=(Qii d0 port).m
def Zch:Q0f:=mS 262 [] true [.agg Q0h.sig, .one (.int .i64)] [] (λa r=>Qii (Q0h.of (aC a 0)) (argI a 1)) (λX=> .int .u32 X) (λX=>[])
theorem Qm7:Q06 pG Zch:=oS (.nil) Tryz.func262 Tryz.call262 [] [] 2
def Qgr(n:Q0q)(port:Int):Tree Int:=
.br (port==7) (.lf n.Frame) (.br (port==8) (.lf n.F1) (.br (port==9) (.br n.C7 (.br n.C0 (.lf (wrap u32 ((1:Int)+(2:Int)))) (.lf 1)) (.br n.C0 (.lf (wrap u32 ((0:Int)+(2:Int)))) (.lf 0))) (.lf 0)))
def Qfp n port:=(Qgr n port).m
def Zg3:Q0f:=mS 263 [] true [.agg Q0q.sig, .one (.int .i64)] [] (λa r=>Qgr (Q0q.of (aC a 0)) (argI a 1)) (λX=> .int .u32 X) (λX=>[])
theorem Qo6:Q06 pG Zg3:=oS (.nil) Tryz.func263 Tryz.call263 [] [] 2
def Q6s(b:Q07)(port:Int):Tree Int:=
.br (port==10) (.lf b.C9) (.br (port==11) (.lv (Qfu b) λ(x0:Int)=> .lf (wrap u32 x0)) (.lf 0))
def Q4f b port:=(Q6s b port).m
def Z1a:Q0f:=mS 264 [] true [.agg Q07.sig, .one (.int .i64)] [] (λa r=>Q6s (Q07.of (aC a 0)) (argI a 1)) (λX=> .int .u32 X) (λX=>[])
theorem Qg7:Q06 pG Z1a:=oS (.cons Qv8 (.nil)) Tryz.func264 Tryz.call264 [] [] 2
def Qjk(m:Q00)(port clock:Int):Tree (Int×Q00):=
.br (decide (port<=1)) (.lv (Q4h m.A3 port) λ(x0:Q0e×Int)=> .lf (x0.2,{B2:=m.B2,Mem:=m.Mem,A3:=x0.1,B0:=m.B0,B1:=m.B1,C2:=m.C2,A1:=m.A1,A2:=m.A2,A4:=m.A4,A6:=m.A6})) (.br (port==2) (.lf (clock,m)) (.br (port==3) (.lv (Qe4 m.B0) λ(x1:Int)=> .lf (x1,m)) (.br (decide (port<=6)) (.lv (Qg9 m.B1 port) λ(x2:Int)=> .lf (x2,m)) (.br (decide (port<=9)) (.lv (Qfp m.C2 port) λ(x3:Int)=> .lf (x3,m)) (.lv (Q4f m.A1 port) λ(x4:Int)=> .lf (x4,m))))))
def Qaf m port clock:=(Qjk m port clock).m
def xC:Q0f:=mS 218 [true,false,false] true [.ptr 0, .one (.int .i64), .one (.int .u32)] [.box 43 49 (Q00.sigW (.row 1)), .arr 25 1 (.ints .u32)] (λa r=>Qjk (Q00.ofW (r.getD 0 default).cs (rowL .u32 r 1)) (argI a 1) (argI a 2)) (λX=> .int .u32 (X.1)) (λX=>[⟨true,43,49, .gen [(Q00.cellsW (X.2) (.all 1))]⟩,⟨false,25,1, .ints .u32 (X.2).Mem⟩])
theorem Zqv:Q06 pG xC:=oS (.cons Qfs (.cons Qja (.cons Qm7 (.cons Qo6 (.cons Qg7 (.nil)))))) Tryz.func218 Tryz.call218 [.row 25 1 (.ints .u32)] [] 2
def Qyu(deadline:Int):Tree Q0j:=
.br (deadline==0) (.lf ({D4:=false,C8:=0,D3:=false})) (.lf ({D4:=true,C8:=deadline,D3:=false}))
def Qse deadline:=(Qyu deadline).m
def Zpk:Q0f:=mS 265 [] true [.one (.int .u32)] [] (λa r=>Qyu (argI a 0)) (λX=> .agg (Q0j.cells X)) (λX=>[])
theorem Qtw:Q06 pG Zpk:=oS (.nil) Tryz.func265 Tryz.call265 [] [] 2
def Qw5(x n:Int)(z:(Int)×(List Int)):Prop:=0<=z.1/\(z.2.length:Int)=z.1/\(z.1<=n\/z.1=0)
def Qgl(x n:Int)(z:(Int)×(List Int)):Nat:=(n-z.1).toNat
def Qiy(x n:Int):Tree (List UInt8):=
.lp inferInstance (Qgl x n (0,[])+1) ((rE (x:Int)/\rE (n:Int)/\True/\rE (0:Int)/\True)/\rE ([]:List Int)/\True) (0,[]) λ(v0:Int×List Int)=> .br (decide (v0.1<n)) (.cn (decide (0<=wrap u64 (wrap i64 (8*v0.1)))) (.cn (decide (1*(v0.2.length+1)<=140737488355328)) (.nx ((rE (x:Int)/\rE (n:Int)/\True/\rE ((wrap i64 (v0.1+1)):Int)/\True)/\rE ((v0.2++[wrap u8 (ishr u32 x (wrap u64 (wrap i64 (8*v0.1))))]):List Int)/\True) (Sum.inl (wrap i64 (v0.1+1),v0.2++[wrap u8 (ishr u32 x (wrap u64 (wrap i64 (8*v0.1))))]))))) (.lf (Sum.inr (bytesOf v0.2)))
def Zeq x n:=(Qiy x n).m
def Qlv(x n:Int):Prop:=
n<=1000000000000
theorem Zg2(x n:Int)(hw:Qlv x n):(Qiy x n).p:=by
 simp only[Qlv]at hw
 unfold Tree.p Qiy
 repeat'(first|refine w_lp (inv:=Qw5 x n) (μ:=Qgl x n) ?_ (cK _) (λ_ _=> ?_)|exact trivial|refine w_br (λ_=> ?_) (λ_=> ?_)|refine w_cn ?_ ?_|refine w_an ?_ ?_|refine w_lv (λ_ _=> ?_)|refine w_nx ?_|refine w_lf ?_|refine And.intro ?_ ?_)
 all_goals((try simp only[Qw5,Qgl]at*);exact fin0)
def Zl4:LInv:={
 α:=(Int)×(List Int)
 F:=λst a=>([(0,(lk st 0)),(1,(lk st 1)),(5, .all 0),(6, .int i64 a.1)],[⟨false,5,1, .ints u8 a.2⟩])
 a0:=λst=>((lk st 6).toInt,(Q3u st.rows (rN st 5)))
 ex0:=λst=>[]++[(rX st 5 0)]}
def Zdk:List (Nat×LInv):=[(3,Zl4)]
def Zqh:Q0f:=mkP 315 [] true [.one (.int .u32), .one (.int .i64)] [] (λa r=>Qlv (argI a 0) (argI a 1)) (λa r=>Zeq (argI a 0) (argI a 1)) (λX=> .str X) (λX=>[])
theorem Zn9:Q06 pG Zqh:=Q0m drawn Q0k (.nil) Tryz.func315 Tryz.call315 (λa r=>Qiy (argI a 0) (argI a 1)) [] Zdk 3 (hp:=λa r h=>Zg2 (argI a 0) (argI a 1) h)
def Qjz(m:List Int)(frame:Int)(z:(Int)×(List Int)):Nat:=(32-z.1).toNat
def Qak(m:List Int)(frame:Int):Tree ((List UInt8)×Bool):=
.br (decide (frame<0)) (.lf ([],false)) (.lv (Q40 m) λ(x0:Int)=> .br (decide (frame>=x0)) (.lf ([],false)) (.lp inferInstance (Qjz m frame (0,[])+1) ((((Els.Nil (Els.ints u32 m)\/rE (1:Nat))/\rE (m:List Int))/\rE (frame:Int)/\True/\rE (0:Int)/\True)/\rE ([]:List Int)/\True) (0,[]) λ(v0:Int×List Int)=> .br (decide (v0.1<32)) (.cn (bS 1 1&&bT 0 1&&decide (0<=wrap i64 (wrap i64 (frame*32)+v0.1)/\wrap i64 (wrap i64 (frame*32)+v0.1)<(m.length:Int))) (let E1:=m.getD (cZ (wrap i64 (wrap i64 (frame*32)+v0.1))) 0; .an (Qlv E1 4) (.lv (Zeq E1 4) λ(x1:List UInt8)=> .cn (decide (1*(v0.2.length+dF (Qc9 x1))<=140737488355328)) (.nx ((((Els.Nil (Els.ints u32 m)\/rE (1:Nat))/\rE (m:List Int))/\rE (frame:Int)/\True/\rE ((wrap i64 (v0.1+1)):Int)/\True)/\rE ((v0.2++Qc9 x1):List Int)/\True) (Sum.inl (wrap i64 (v0.1+1),v0.2++Qc9 x1)))))) (.lf (Sum.inr (bytesOf v0.2,true)))))
def Qkg m frame:=(Qak m frame).m
abbrev Qig m frame:=(Qak m frame).p
def Zgs:LInv:={
 α:=(Int)×(List Int)
 F:=λst a=>([(0,(lk st 0)),(1,(lk st 1)),(6, .all 0),(7, .int i64 a.1)],[⟨false,5,1, .ints u8 a.2⟩])
 a0:=λst=>((lk st 7).toInt,(Q3u st.rows (rN st 6)))
 ex0:=λst=>[]++[(rX st 6 0)]}
def Z7j:List (Nat×LInv):=[(5,Zgs)]
def Zmg:Q0f:=mT 304 [] true [.one (.ints .u32), .one (.int .i64)] [] (λa r=>Qak (argL .u32 a 0) (argI a 1)) (λX=> .tup [.str (X.1), .bool (X.2)]) (λX=>[])
theorem Qzk:Q06 pG Zmg:=oT (.cons Qf (.cons Zn9 (.nil))) Tryz.func304 Tryz.call304 [] Z7j 3
def Qt0(d0:Q0h)(at0:Int):Tree (Q03×Bool):=
.br (d0.C4 !=1) (.lf ({B7:=0,At:=0,C3:=0,D0:=[]},false)) (.br (d0.D8==1) (.lf ({B7:=3,At:=at0,C3:=d0.B9,D0:=[]},true)) (.br (d0.D8==2) (.lf ({B7:=4,At:=at0,C3:=d0.B9,D0:=d0.C6},true)) (.lf ({B7:=0,At:=0,C3:=0,D0:=[]},false))))
def Qlc d0 at0:=(Qt0 d0 at0).m
def Z88:Q0f:=mS 305 [] true [.agg Q0h.sig, .one (.int .u64)] [] (λa r=>Qt0 (Q0h.of (aC a 0)) (argI a 1)) (λX=> .tup [.agg (Q03.cells (X.1)), .bool (X.2)]) (λX=>[])
theorem Z6m:Q06 pG Z88:=oS (.nil) Tryz.func305 Tryz.call305 [] [] 2
def Q97(d0:Q0h)(m:List Int)(port v at0:Int):Tree (Q0h×(List Q03)):=
.br (port==4) (.lf ({Blocks:=d0.Blocks,C3:=v,Frame:=d0.Frame,C4:=d0.C4,D8:=d0.D8,B9:=d0.B9,B4:=d0.B4,C6:=d0.C6},[])) (.br (port==5) (.lf ({Blocks:=d0.Blocks,C3:=d0.C3,Frame:=v,C4:=d0.C4,D8:=d0.D8,B9:=d0.B9,B4:=d0.B4,C6:=d0.C6},[])) (.br (port !=6) (.lf (d0,[])) (let T1:Tree ((Q0h×(List Q03))):= .br (d0.C4==0) (let T2:Tree ((Q0h×(List Q03))):= .lf ({Blocks:=d0.Blocks,C3:=d0.C3,Frame:=d0.Frame,C4:=3,D8:=d0.D8,B9:=d0.B9,B4:=d0.B4,C6:=d0.C6},[]); .br (decide (d0.C3>=d0.Blocks)) T2 (.lv (Q29 m d0.Frame) λ(x0:Bool)=> .br (!x0) T2 (.br (v==2) (.an (Qig m (wrap i64 d0.Frame)) (.lv (Qkg m (wrap i64 d0.Frame)) λ(x1:List UInt8×Bool)=>let E4:=({Blocks:=d0.Blocks,C3:=d0.C3,Frame:=d0.Frame,C4:=1,D8:=wrap i64 v,B9:=d0.C3,B4:=d0.Frame,C6:=x1.1}:Q0h); .lv (Qlc E4 at0) λ(x2:Q03×Bool)=> .lf (E4,[x2.1]))) (let E5:=({Blocks:=d0.Blocks,C3:=d0.C3,Frame:=d0.Frame,C4:=1,D8:=wrap i64 v,B9:=d0.C3,B4:=d0.Frame,C6:=[]}:Q0h); .lv (Qlc E5 at0) λ(x3:Q03×Bool)=> .lf (E5,[x3.1]))))) (.lf (d0,[])); .br (v==0) (let T3:Tree ((Q0h×(List Q03))):= .lf ({Blocks:=d0.Blocks,C3:=d0.C3,Frame:=d0.Frame,C4:=0,D8:=d0.D8,B9:=d0.B9,B4:=d0.B4,C6:=d0.C6},[]); .br (d0.C4==2) T3 (.br (d0.C4==3) T3 (.br (v==1) T1 (.br (v==2) T1 (.lf (d0,[])))))) (.br (v==1) T1 (.br (v==2) T1 (.lf (d0,[])))))))
def Qe5 d0 m port v at0:=(Q97 d0 m port v at0).m
abbrev Qd3 d0 m port v at0:=(Q97 d0 m port v at0).p
def Z8m:Q0f:=mT 266 [] true [.agg Q0h.sig, .one (.ints .u32), .one (.int .i64), .one (.int .u32), .one (.int .u64)] [] (λa r=>Q97 (Q0h.of (aC a 0)) (argL .u32 a 1) (argI a 2) (argI a 3) (argI a 4)) (λX=> .tup [.agg (Q0h.cells (X.1)), .sl 4 (.recs .apiOutput (X.2)) true]) (λX=>[])
theorem Qks:Q06 pG Z8m:=oT (.cons Qgq (.cons Qzk (.cons Z6m (.nil)))) Tryz.func266 Tryz.call266 [.sl (.recs .apiOutput) true] [] 2
def Qb9(n:Q0q)(m:List Int)(port v at0:Int):Tree (Q0q×(List Q03)):=
.br (port==7) (.lf ({Frame:=v,E0:=n.E0,C7:=n.C7,C1:=n.C1,C0:=n.C0,F1:=n.F1},[])) (.br (port==8) (.lf ({Frame:=n.Frame,E0:=v,C7:=n.C7,C1:=n.C1,C0:=n.C0,F1:=n.F1},[])) (.br (port !=9) (.lf (n,[])) (.br (v==0) (.lf ({Frame:=n.Frame,E0:=n.E0,C7:=n.C7,C1:=n.C1,C0:=false,F1:=0},[])) (let T1:Tree ((Q0q×(List Q03))):= .br (v==2) (.lv (Q29 m n.Frame) λ(x2:Bool)=> .br x2 (.br (!n.C7) (.br (!n.C0) (.lf ({Frame:=n.Frame,E0:=n.E0,C7:=true,C1:=n.Frame,C0:=n.C0,F1:=n.F1},[])) (.lf (n,[]))) (.lf (n,[]))) (.lf (n,[]))) (.lf (n,[])); .br (v==1) (.br (decide (n.E0>=1)) (.br (decide (n.E0<=128)) (.lv (Q29 m n.Frame) λ(x0:Bool)=> .br x0 (.an (Qig m (wrap i64 n.Frame)) (.lv (Qkg m (wrap i64 n.Frame)) λ(x1:List UInt8×Bool)=> .cn (decide ((0:Int)<=(0:Int)/\0<=n.E0/\n.E0<=(x1.1.length:Int))) (.lf (n,[{B7:=2,At:=at0,C3:=0,D0:=cY (cZ n.E0-cZ 0) (dA (cZ 0) x1.1)}])))) T1) T1) T1) T1))))
def Qg3 n m port v at0:=(Qb9 n m port v at0).m
abbrev Qeg n m port v at0:=(Qb9 n m port v at0).p
def Zf4:Q0f:=mT 267 [] true [.agg Q0q.sig, .one (.ints .u32), .one (.int .i64), .one (.int .u32), .one (.int .u64)] [] (λa r=>Qb9 (Q0q.of (aC a 0)) (argL .u32 a 1) (argI a 2) (argI a 3) (argI a 4)) (λX=> .tup [.agg (Q0q.cells (X.1)), .sl 4 (.recs .apiOutput (X.2)) true]) (λX=>[])
theorem Qm4:Q06 pG Zf4:=oT (.cons Qgq (.cons Qzk (.nil))) Tryz.func267 Tryz.call267 [.sl (.recs .apiOutput) true] [] 2
def Qk9(b:Q07)(m:List Int)(port v:Int)(z:(Int)×(List Int)):Nat:=(32-z.1).toNat
def Q55(b:Q07)(m:List Int)(port v:Int):Tree (Q07×(List Int)):=
let T1:Tree ((Q07×(List Int))):= .br (port==11) (.br (decide (v<32)) (.cn (decide (0<=v)) (.lf ({C9:=b.C9,C5:=Qir u32 b.C5 (ishl u32 1 v)},m))) (.lf (b,m))) (.lf (b,m)); .br (port==10) (.lv (Q29 m v) λ(x0:Bool)=> .br x0 (.cn (decide (0<=v)) (.br (iand u32 (ishr u32 b.C5 v) (1:Int)==(0:Int)) (.cn (decide (0<=v)) (.lp inferInstance (Qk9 b m port v (0,m)+1) ((True/\rE (v:Int)/\rZ/\rZ/\rE (0:Int)/\True)/\rE (m:List Int)/\(rE b.C9/\rE ((ior u32 b.C5 (ishl u32 1 v)):Int)/\True)/\(rE (0:Int)/\rE (0:Int)/\True)/\True) (0,m) λ(v0:Int×List Int)=> .br (decide (v0.1<32)) (let E2:=wrap i64 (wrap i64 v*32)+v0.1; .cn (bS 1 1&&bT 0 1&&decide (0<=wrap i64 E2/\wrap i64 E2<(v0.2.length:Int))) (.nx ((True/\rE (v:Int)/\rZ/\rZ/\rE ((wrap i64 (v0.1+1)):Int)/\True)/\rE ((dB v0.2 (cZ (wrap i64 (wrap i64 (wrap i64 v*32)+v0.1))) 0):List Int)/\(rE b.C9/\rE ((ior u32 b.C5 (ishl u32 1 v)):Int)/\True)/\(rE (0:Int)/\rE (0:Int)/\True)/\True) (Sum.inl (wrap i64 (v0.1+1),dB v0.2 (cZ (wrap i64 E2)) 0)))) (.lf (Sum.inr ({C9:=b.C9,C5:=ior u32 b.C5 (ishl u32 1 v)},v0.2))))) T1)) T1) T1
def Q60 b m port v:=(Q55 b m port v).m
abbrev Qif b m port v:=(Q55 b m port v).p
def Zht:LInv:={
 α:=(Int)×(List Int)
 F:=λst a=>([(1, .all 0),(3,(lk st 3)),(4, .ptr 1 0 0),(8, .ptr 2 0 0),(9, .int i64 a.1)],[⟨false,25,1, .ints u32 a.2⟩,⟨true,40,2, .gen [[(cT st 4 0),(cT st 4 1)]]⟩,⟨true,40,2, .gen [[(cT st 8 0),(cT st 8 1)]]⟩])
 a0:=λst=>((lk st 9).toInt,(Q3u st.rows 0))
 ex0:=λst=>[0]++[(rX st 4 1),(rX st 8 2)]}
def Z8k:List (Nat×LInv):=[(4,Zht)]
def Zkb:Q0f:=mT 268 [false,true,false,false] true [.agg Q07.sig, .one (.row 0), .one (.int .i64), .one (.int .u32)] [.arr 25 1 (.ints .u32)] (λa r=>Q55 (Q07.of (aC a 0)) (rowL .u32 r 0) (argI a 2) (argI a 3)) (λX=> .agg (Q07.cells (X.1))) (λX=>[⟨false,25,1, .ints .u32 (X.2)⟩])
theorem Qq6:Q06 pG Zkb:=oT (.cons Qgq (.nil)) Tryz.func268 Tryz.call268 [] Z8k 3
def Qdw(m:Q00)(port v:Int):Tree ((List Q03)×Q00):=
.br (port==0) (.lf ([{B7:=1,At:=m.A2,C3:=0,D0:=[(λ(n:Int)=>eS n.toNat) (wrap u8 v)]}],m)) (.br (decide (port<=2)) (.lf ([],m)) (.br (port==3) (.lv (Qse v) λ(x0:Q0j)=> .lf ([],{B2:=m.B2,Mem:=m.Mem,A3:=m.A3,B0:=x0,B1:=m.B1,C2:=m.C2,A1:=m.A1,A2:=m.A2,A4:=m.A4,A6:=m.A6})) (.br (decide (port<=6)) (.an (Qd3 m.B1 m.Mem port v m.A2) (.lv (Qe5 m.B1 m.Mem port v m.A2) λ(x1:Q0h×List Q03)=> .lf (x1.2,{B2:=m.B2,Mem:=m.Mem,A3:=m.A3,B0:=m.B0,B1:=x1.1,C2:=m.C2,A1:=m.A1,A2:=m.A2,A4:=m.A4,A6:=m.A6}))) (.br (decide (port<=9)) (.an (Qeg m.C2 m.Mem port v m.A2) (.lv (Qg3 m.C2 m.Mem port v m.A2) λ(x2:Q0q×List Q03)=> .lf (x2.2,{B2:=m.B2,Mem:=m.Mem,A3:=m.A3,B0:=m.B0,B1:=m.B1,C2:=x2.1,A1:=m.A1,A2:=m.A2,A4:=m.A4,A6:=m.A6}))) (.an (Qif m.A1 m.Mem port v) (.lv (Q60 m.A1 m.Mem port v) λ(x3:Q07×List Int)=> .lf ([],{B2:=m.B2,Mem:=x3.2,A3:=m.A3,B0:=m.B0,B1:=m.B1,C2:=m.C2,A1:=x3.1,A2:=m.A2,A4:=m.A4,A6:=m.A6})))))))
def Q7s m port v:=(Qdw m port v).m
abbrev Z0s m port v:=(Qdw m port v).p
def Zq6:Q0f:=mT 220 [true,false,false] true [.ptr 0, .one (.int .i64), .one (.int .u32)] [.box 43 49 (Q00.sigW (.row 1)), .arr 25 1 (.ints .u32)] (λa r=>Qdw (Q00.ofW (r.getD 0 default).cs (rowL .u32 r 1)) (argI a 1) (argI a 2)) (λX=> .sl 4 (.recs .apiOutput (X.1)) true) (λX=>[⟨true,43,49, .gen [(Q00.cellsW (X.2) (.all 1))]⟩,⟨false,25,1, .ints .u32 (X.2).Mem⟩])
theorem Zlk:Q06 pG Zq6:=oT (.cons Qtw (.cons Qks (.cons Qm4 (.cons Qq6 (.nil))))) Tryz.func220 Tryz.call220 [.sl (.recs .apiOutput) true, .row 25 1 (.ints .u32)] [] 2
def Q7j(m:Q00)(clock:Int):Tree ((List Q03)×Q00):=
.an (Q5a m) (.lv (Q0n m) λ(x0:Q05)=> .an (Qok x0 m.Mem) (.lv (Q5f x0 m.Mem) λ(x1:Q05×Q16×List Int)=>let E1:=({B2:=x1.1,Mem:=x1.2.2,A3:=m.A3,B0:=m.B0,B1:=m.B1,C2:=m.C2,A1:=m.A1,A2:=m.A2,A4:=false,A6:=m.A6}:Q00); .br (x1.2.1.B7==1) (.lv (Qaf E1 x1.2.1.D1 clock) λ(x2:Int×Q00)=> .an (Q2t x2.2.B2 x1.2.1.D9 x2.1) (.lv (Q1z x2.2.B2 x1.2.1.D9 x2.1) λ(x3:Q05)=> .lf ([],{B2:=x3,Mem:=x2.2.Mem,A3:=x2.2.A3,B0:=x2.2.B0,B1:=x2.2.B1,C2:=x2.2.C2,A1:=x2.2.A1,A2:=wrap u64 (x2.2.A2+1),A4:=x2.2.A4,A6:=x2.2.A6}))) (.br (x1.2.1.B7==2) (.an (Z0s E1 x1.2.1.D1 x1.2.1.Value) (.lv (Q7s E1 x1.2.1.D1 x1.2.1.Value) λ(x4:List Q03×Q00)=> .lf (x4.1,{B2:=x4.2.B2,Mem:=x4.2.Mem,A3:=x4.2.A3,B0:=x4.2.B0,B1:=x4.2.B1,C2:=x4.2.C2,A1:=x4.2.A1,A2:=wrap u64 (x4.2.A2+1),A4:=x4.2.A4,A6:=x4.2.A6}))) (.br (x1.2.1.B7==3) (.lf ([],{B2:=x1.1,Mem:=x1.2.2,A3:=m.A3,B0:=m.B0,B1:=m.B1,C2:=m.C2,A1:=m.A1,A2:=wrap u64 (m.A2+1),A4:=true,A6:=m.A6})) (.br (x1.2.1.B7==4) (.lf ([],{B2:=x1.1,Mem:=x1.2.2,A3:=m.A3,B0:=m.B0,B1:=m.B1,C2:=m.C2,A1:=m.A1,A2:=wrap u64 (m.A2+1),A4:=false,A6:=true})) (.lf ([],{B2:=x1.1,Mem:=x1.2.2,A3:=m.A3,B0:=m.B0,B1:=m.B1,C2:=m.C2,A1:=m.A1,A2:=wrap u64 (m.A2+1),A4:=false,A6:=m.A6})))))))
def Q0r m clock:=(Q7j m clock).m
abbrev Qp m clock:=(Q7j m clock).p
def Z8d:Q0f:=mT 160 [true,false] true [.ptr 0, .one (.int .u32)] [.box 43 49 (Q00.sigW (.row 1)), .arr 25 1 (.ints .u32)] (λa r=>Q7j (Q00.ofW (r.getD 0 default).cs (rowL .u32 r 1)) (argI a 1)) (λX=> .sl 4 (.recs .apiOutput (X.1)) true) (λX=>[⟨true,43,49, .gen [(Q00.cellsW (X.2) (.all 1))]⟩,⟨false,25,1, .ints .u32 (X.2).Mem⟩])
theorem Z3l:Q06 pG Z8d:=oT (.cons Q8o (.cons Qy (.cons Zqv (.cons Qda (.cons Zlk (.nil)))))) Tryz.func160 Tryz.call160 [.sl (.recs .apiOutput) true, .row 25 1 (.ints .u32)] [] 2
end
noncomputable section
instance sumInhZg {α β:Type} [Inhabited β]:Inhabited (α⊕β):=⟨.inr default⟩
def Qjh(m:Q02)(port clock:Int):Tree (Int×Q02):=
.br (decide (port<=1)) (.lv (Q4h m.A0.A3 port) λ(x0:Q0e×Int)=> .lf (x0.2,{A0:={B2:=m.A0.B2,Mem:=m.A0.Mem,A3:=x0.1,B0:=m.A0.B0,B1:=m.A0.B1,C2:=m.A0.C2,A1:=m.A0.A1,A2:=m.A0.A2,A4:=m.A0.A4,A6:=m.A0.A6},A7:=m.A7,B3:=m.B3,A9:=m.A9})) (.br (port==2) (.lf (clock,m)) (.br (port==3) (.lv (Qe4 m.A0.B0) λ(x1:Int)=> .lf (x1,m)) (.br (decide (port<=6)) (.lv (Qg9 m.A0.B1 port) λ(x2:Int)=> .lf (x2,m)) (.br (decide (port<=9)) (.lv (Qfp m.A0.C2 port) λ(x3:Int)=> .lf (x3,m)) (.lv (Q4f m.A0.A1 port) λ(x4:Int)=> .lf (x4,m))))))
def Qwc m port clock:=(Qjh m port clock).m
def Zkz:Q0f:=mS 218 [true,false,false] true [.ptr 0, .one (.int .i64), .one (.int .u32)] [.box 96 52 (Q02.sigW (.row 1) (.row 2) (.row 3)), .arr 25 1 (.ints .u32), .arr 126 4 (.recs .apiEntry), .arr 66 3 (.recs .apiEvent)] (λa r=>Qjh (Q02.ofW (r.getD 0 default).cs (rowL .u32 r 1) (rowR .apiEntry r 2) (rowR .apiEvent r 3)) (argI a 1) (argI a 2)) (λX=> .int .u32 (X.1)) (λX=>[⟨true,96,52, .gen [(Q02.cellsW (X.2) (.all 1) (.all 2) (.all 3))]⟩,⟨false,25,1, .ints .u32 (X.2).A0.Mem⟩,⟨false,126,4, .recs .apiEntry (X.2).B3⟩,⟨false,66,3, .recs .apiEvent (X.2).A9⟩])
theorem Zis:Q06 pG Zkz:=oS (.cons Qfs (.cons Qja (.cons Qm7 (.cons Qo6 (.cons Qg7 (.nil)))))) Tryz.func218 Tryz.call218 [.row 25 1 (.ints .u32), .row 126 4 (.recs .apiEntry), .row 66 3 (.recs .apiEvent)] [] 2
def Qe0(m:Q02)(port v:Int):Tree ((List Q03)×Q02):=
.br (port==0) (.lf ([{B7:=1,At:=m.A0.A2,C3:=0,D0:=[(λ(n:Int)=>eS n.toNat) (wrap u8 v)]}],m)) (.br (decide (port<=2)) (.lf ([],m)) (.br (port==3) (.lv (Qse v) λ(x0:Q0j)=> .lf ([],{A0:={B2:=m.A0.B2,Mem:=m.A0.Mem,A3:=m.A0.A3,B0:=x0,B1:=m.A0.B1,C2:=m.A0.C2,A1:=m.A0.A1,A2:=m.A0.A2,A4:=m.A0.A4,A6:=m.A0.A6},A7:=m.A7,B3:=m.B3,A9:=m.A9})) (.br (decide (port<=6)) (.an (Qd3 m.A0.B1 m.A0.Mem port v m.A0.A2) (.lv (Qe5 m.A0.B1 m.A0.Mem port v m.A0.A2) λ(x1:Q0h×List Q03)=> .lf (x1.2,{A0:={B2:=m.A0.B2,Mem:=m.A0.Mem,A3:=m.A0.A3,B0:=m.A0.B0,B1:=x1.1,C2:=m.A0.C2,A1:=m.A0.A1,A2:=m.A0.A2,A4:=m.A0.A4,A6:=m.A0.A6},A7:=m.A7,B3:=m.B3,A9:=m.A9}))) (.br (decide (port<=9)) (.an (Qeg m.A0.C2 m.A0.Mem port v m.A0.A2) (.lv (Qg3 m.A0.C2 m.A0.Mem port v m.A0.A2) λ(x2:Q0q×List Q03)=> .lf (x2.2,{A0:={B2:=m.A0.B2,Mem:=m.A0.Mem,A3:=m.A0.A3,B0:=m.A0.B0,B1:=m.A0.B1,C2:=x2.1,A1:=m.A0.A1,A2:=m.A0.A2,A4:=m.A0.A4,A6:=m.A0.A6},A7:=m.A7,B3:=m.B3,A9:=m.A9}))) (.an (Qif m.A0.A1 m.A0.Mem port v) (.lv (Q60 m.A0.A1 m.A0.Mem port v) λ(x3:Q07×List Int)=> .lf ([],{A0:={B2:=m.A0.B2,Mem:=x3.2,A3:=m.A0.A3,B0:=m.A0.B0,B1:=m.A0.B1,C2:=m.A0.C2,A1:=x3.1,A2:=m.A0.A2,A4:=m.A0.A4,A6:=m.A0.A6},A7:=m.A7,B3:=m.B3,A9:=m.A9})))))))
def Qsg m port v:=(Qe0 m port v).m
abbrev Qt m port v:=(Qe0 m port v).p
def Zgr:Q0f:=mT 220 [true,false,false] true [.ptr 0, .one (.int .i64), .one (.int .u32)] [.box 96 52 (Q02.sigW (.row 1) (.row 2) (.row 3)), .arr 25 1 (.ints .u32), .arr 126 4 (.recs .apiEntry), .arr 66 3 (.recs .apiEvent)] (λa r=>Qe0 (Q02.ofW (r.getD 0 default).cs (rowL .u32 r 1) (rowR .apiEntry r 2) (rowR .apiEvent r 3)) (argI a 1) (argI a 2)) (λX=> .sl 4 (.recs .apiOutput (X.1)) true) (λX=>[⟨true,96,52, .gen [(Q02.cellsW (X.2) (.all 1) (.all 2) (.all 3))]⟩,⟨false,25,1, .ints .u32 (X.2).A0.Mem⟩,⟨false,126,4, .recs .apiEntry (X.2).B3⟩,⟨false,66,3, .recs .apiEvent (X.2).A9⟩])
theorem Zbm:Q06 pG Zgr:=oT (.cons Qtw (.cons Qks (.cons Qm4 (.cons Qq6 (.nil))))) Tryz.func220 Tryz.call220 [.sl (.recs .apiOutput) true, .row 25 1 (.ints .u32), .row 126 4 (.recs .apiEntry), .row 66 3 (.recs .apiEvent)] [] 2
def Q6t(m:Q02)(clock:Int):Tree ((List Q03)×Q02):=
.an (Q5a m.A0) (.lv (Q0n m.A0) λ(x0:Q05)=> .an (Qok x0 m.A0.Mem) (.lv (Q5f x0 m.A0.Mem) λ(x1:Q05×Q16×List Int)=>let E1:=({B2:=x1.1,Mem:=x1.2.2,A3:=m.A0.A3,B0:=m.A0.B0,B1:=m.A0.B1,C2:=m.A0.C2,A1:=m.A0.A1,A2:=m.A0.A2,A4:=false,A6:=m.A0.A6}:Q00); .br (x1.2.1.B7==1) (.lv (Qwc {A0:=E1,A7:=m.A7,B3:=m.B3,A9:=m.A9} x1.2.1.D1 clock) λ(x2:Int×Q02)=> .an (Q2t x2.2.A0.B2 x1.2.1.D9 x2.1) (.lv (Q1z x2.2.A0.B2 x1.2.1.D9 x2.1) λ(x3:Q05)=> .lf ([],{A0:={B2:=x3,Mem:=x2.2.A0.Mem,A3:=x2.2.A0.A3,B0:=x2.2.A0.B0,B1:=x2.2.A0.B1,C2:=x2.2.A0.C2,A1:=x2.2.A0.A1,A2:=wrap u64 (x2.2.A0.A2+1),A4:=x2.2.A0.A4,A6:=x2.2.A0.A6},A7:=x2.2.A7,B3:=x2.2.B3,A9:=x2.2.A9}))) (.br (x1.2.1.B7==2) (.an (Qt {A0:=E1,A7:=m.A7,B3:=m.B3,A9:=m.A9} x1.2.1.D1 x1.2.1.Value) (.lv (Qsg {A0:=E1,A7:=m.A7,B3:=m.B3,A9:=m.A9} x1.2.1.D1 x1.2.1.Value) λ(x4:List Q03×Q02)=> .lf (x4.1,{A0:={B2:=x4.2.A0.B2,Mem:=x4.2.A0.Mem,A3:=x4.2.A0.A3,B0:=x4.2.A0.B0,B1:=x4.2.A0.B1,C2:=x4.2.A0.C2,A1:=x4.2.A0.A1,A2:=wrap u64 (x4.2.A0.A2+1),A4:=x4.2.A0.A4,A6:=x4.2.A0.A6},A7:=x4.2.A7,B3:=x4.2.B3,A9:=x4.2.A9}))) (.br (x1.2.1.B7==3) (.lf ([],{A0:={B2:=x1.1,Mem:=x1.2.2,A3:=m.A0.A3,B0:=m.A0.B0,B1:=m.A0.B1,C2:=m.A0.C2,A1:=m.A0.A1,A2:=wrap u64 (m.A0.A2+1),A4:=true,A6:=m.A0.A6},A7:=m.A7,B3:=m.B3,A9:=m.A9})) (.br (x1.2.1.B7==4) (.lf ([],{A0:={B2:=x1.1,Mem:=x1.2.2,A3:=m.A0.A3,B0:=m.A0.B0,B1:=m.A0.B1,C2:=m.A0.C2,A1:=m.A0.A1,A2:=wrap u64 (m.A0.A2+1),A4:=false,A6:=true},A7:=m.A7,B3:=m.B3,A9:=m.A9})) (.lf ([],{A0:={B2:=x1.1,Mem:=x1.2.2,A3:=m.A0.A3,B0:=m.A0.B0,B1:=m.A0.B1,C2:=m.A0.C2,A1:=m.A0.A1,A2:=wrap u64 (m.A0.A2+1),A4:=false,A6:=m.A0.A6},A7:=m.A7,B3:=m.B3,A9:=m.A9})))))))
def Q7k m clock:=(Q6t m clock).m
abbrev Q75 m clock:=(Q6t m clock).p
def Z1w:Q0f:=mT 160 [true,false] true [.ptr 0, .one (.int .u32)] [.box 96 52 (Q02.sigW (.row 1) (.row 2) (.row 3)), .arr 25 1 (.ints .u32), .arr 126 4 (.recs .apiEntry), .arr 66 3 (.recs .apiEvent)] (λa r=>Q6t (Q02.ofW (r.getD 0 default).cs (rowL .u32 r 1) (rowR .apiEntry r 2) (rowR .apiEvent r 3)) (argI a 1)) (λX=> .sl 4 (.recs .apiOutput (X.1)) true) (λX=>[⟨true,96,52, .gen [(Q02.cellsW (X.2) (.all 1) (.all 2) (.all 3))]⟩,⟨false,25,1, .ints .u32 (X.2).A0.Mem⟩,⟨false,126,4, .recs .apiEntry (X.2).B3⟩,⟨false,66,3, .recs .apiEvent (X.2).A9⟩])
theorem Qyh:Q06 pG Z1w:=oT (.cons Q8o (.cons Qy (.cons Zis (.cons Qda (.cons Zbm (.nil)))))) Tryz.func160 Tryz.call160 [.sl (.recs .apiOutput) true, .row 25 1 (.ints .u32), .row 126 4 (.recs .apiEntry), .row 66 3 (.recs .apiEvent)] [] 2
def Qdt(r:Q02)(steps clock:Int)(z:(Int)×Q02):Nat:=(z.2.A9.length-z.1).toNat
def Q6e(r:Q02)(steps clock:Int)(v0:Int×Q02)(z:(Int)×Q02×(List Q03)):Nat:=(4000-z.1).toNat
def Q6(r:Q02)(steps clock:Int):Tree (Q02×(List Q03)):=
.an (Qoa r) (.lv (Qq9 r) λ(x0:Q02)=> .lv (Q25 x0.A0) λ(x1:Bool)=> .br (!x1) (.lf (x0,[])) (.lp inferInstance (Qdt r steps clock (0,{A0:=x0.A0,A7:=if clock>x0.A7 then clock else x0.A7,B3:=x0.B3,A9:=x0.A9})+1) ((rE (steps:Int)/\rZ/\rZ/\rE (0:Int)/\True)/\(mE x0.A0 True (rE ((if clock>x0.A7 then clock else x0.A7):Int)/\True/\True/\True))/\rE x0.A0.Mem/\rE x0.B3/\rE x0.A9/\(mE zM True (rE (0:Int)/\True/\True/\True))/\True) (0,{A0:=x0.A0,A7:=if clock>x0.A7 then clock else x0.A7,B3:=x0.B3,A9:=x0.A9}) λ(v0:Int×Q02)=> .br (decide (v0.1<(v0.2.A9.length:Int))) (.cn (bS 3 3&&bT 0 3&&decide (0<=v0.1/\v0.1<(v0.2.A9.length:Int))) (let E2:=v0.2.A9.getD v0.1.toNat (RK.dflt RK.apiEvent); .an (Qjc v0.2 E2) (.lv (Qk2 v0.2 E2) λ(x2:Q02)=> .nx ((rE (steps:Int)/\rZ/\rZ/\rE ((wrap i64 (v0.1+1)):Int)/\True)/\(mE x2.A0 True (rE x2.A7/\True/\True/\True))/\rE x2.A0.Mem/\rE x2.B3/\rE x2.A9/\(mE zM True (rE (0:Int)/\True/\True/\True))/\True) (Sum.inl (wrap i64 (v0.1+1),x2))))) (.lp inferInstance (Q6e r steps clock v0 (0,{A0:=v0.2.A0,A7:=v0.2.A7,B3:=v0.2.B3,A9:=[]},[])+1) ((rE (steps:Int)/\rZ/\rZ/\True/\rE (0:Int)/\True)/\(mE v0.2.A0 True (rE v0.2.A7/\True/\True/\True))/\rE v0.2.A0.Mem/\rE v0.2.B3/\rE ([]:List (RK.T RK.apiEvent))/\(mE zM True (rE (0:Int)/\True/\True/\True))/\rE ([]:List (RK.T RK.apiOutput))/\True) (0,{A0:=v0.2.A0,A7:=v0.2.A7,B3:=v0.2.B3,A9:=[]},[]) λ(v1:Int×Q02×List Q03)=> .lv (Q0i steps) λ(x3:Int)=> .br (decide (v1.1<x3)) (.lv (Qsc v1.2.1.A0.B0 v1.2.1.A7) λ(x4:Bool)=> .br x4 (.an (Qjc v1.2.1 {B7:=2,N:=0,D0:=[]}) (.lv (Qk2 v1.2.1 {B7:=2,N:=0,D0:=[]}) λ(x5:Q02)=> .an (Qcs x5.A0) (.lv (Q0z x5.A0) λ(x6:Bool)=> .br x6 (.lf (Sum.inr (Sum.inr (x5,v1.2.2)))) (.an (Q41 x5.A0) (.lv (Q0g x5.A0) λ(x7:Bool)=> .br x7 (.cn (decide (40*(x5.B3.length+1)<=140737488355328)) (let E3:=({At:=x5.A0.A2,B6:={B7:=1,N:=x5.A7,D0:=[]}}:Q0a); .an (Q75 {A0:=x5.A0,A7:=x5.A7,B3:=x5.B3++[E3],A9:=x5.A9} x5.A7) (.lv (Q7k {A0:=x5.A0,A7:=x5.A7,B3:=x5.B3++[E3],A9:=x5.A9} x5.A7) λ(x8:List Q03×Q02)=> .cn (decide (40*(v1.2.2.length+x8.1.length)<=140737488355328)) (.nx ((rE (steps:Int)/\rZ/\rZ/\True/\rE ((wrap i64 (v1.1+1)):Int)/\True)/\(mE x8.2.A0 True (rE ((wrap u32 (x8.2.A7+1)):Int)/\True/\True/\True))/\rE x8.2.A0.Mem/\rE x8.2.B3/\rE x8.2.A9/\(mE zM True (rE (0:Int)/\True/\True/\True))/\rE ((v1.2.2++x8.1):List (RK.T RK.apiOutput))/\True) (Sum.inl (wrap i64 (v1.1+1),{A0:=x8.2.A0,A7:=wrap u32 (x8.2.A7+1),B3:=x8.2.B3,A9:=x8.2.A9},v1.2.2++x8.1)))))) (.an (Q75 x5 x5.A7) (.lv (Q7k x5 x5.A7) λ(x9:List Q03×Q02)=> .cn (decide (40*(v1.2.2.length+x9.1.length)<=140737488355328)) (.nx ((rE (steps:Int)/\rZ/\rZ/\True/\rE ((wrap i64 (v1.1+1)):Int)/\True)/\(mE x9.2.A0 True (rE ((wrap u32 (x9.2.A7+1)):Int)/\True/\True/\True))/\rE x9.2.A0.Mem/\rE x9.2.B3/\rE x9.2.A9/\(mE zM True (rE (0:Int)/\True/\True/\True))/\rE ((v1.2.2++x9.1):List (RK.T RK.apiOutput))/\True) (Sum.inl (wrap i64 (v1.1+1),{A0:=x9.2.A0,A7:=wrap u32 (x9.2.A7+1),B3:=x9.2.B3,A9:=x9.2.A9},v1.2.2++x9.1)))))))))) (.an (Qcs v1.2.1.A0) (.lv (Q0z v1.2.1.A0) λ(x10:Bool)=> .br x10 (.lf (Sum.inr (Sum.inr (v1.2.1,v1.2.2)))) (.an (Q41 v1.2.1.A0) (.lv (Q0g v1.2.1.A0) λ(x11:Bool)=> .br x11 (.cn (decide (40*(v1.2.1.B3.length+1)<=140737488355328)) (let E1:=({At:=v1.2.1.A0.A2,B6:={B7:=1,N:=v1.2.1.A7,D0:=[]}}:Q0a); .an (Q75 {A0:=v1.2.1.A0,A7:=v1.2.1.A7,B3:=v1.2.1.B3++[E1],A9:=v1.2.1.A9} v1.2.1.A7) (.lv (Q7k {A0:=v1.2.1.A0,A7:=v1.2.1.A7,B3:=v1.2.1.B3++[E1],A9:=v1.2.1.A9} v1.2.1.A7) λ(x12:List Q03×Q02)=> .cn (decide (40*(v1.2.2.length+x12.1.length)<=140737488355328)) (.nx ((rE (steps:Int)/\rZ/\rZ/\True/\rE ((wrap i64 (v1.1+1)):Int)/\True)/\(mE x12.2.A0 True (rE ((wrap u32 (x12.2.A7+1)):Int)/\True/\True/\True))/\rE x12.2.A0.Mem/\rE x12.2.B3/\rE x12.2.A9/\(mE zM True (rE (0:Int)/\True/\True/\True))/\rE ((v1.2.2++x12.1):List (RK.T RK.apiOutput))/\True) (Sum.inl (wrap i64 (v1.1+1),{A0:=x12.2.A0,A7:=wrap u32 (x12.2.A7+1),B3:=x12.2.B3,A9:=x12.2.A9},v1.2.2++x12.1)))))) (.an (Q75 v1.2.1 v1.2.1.A7) (.lv (Q7k v1.2.1 v1.2.1.A7) λ(x13:List Q03×Q02)=> .cn (decide (40*(v1.2.2.length+x13.1.length)<=140737488355328)) (.nx ((rE (steps:Int)/\rZ/\rZ/\True/\rE ((wrap i64 (v1.1+1)):Int)/\True)/\(mE x13.2.A0 True (rE ((wrap u32 (x13.2.A7+1)):Int)/\True/\True/\True))/\rE x13.2.A0.Mem/\rE x13.2.B3/\rE x13.2.A9/\(mE zM True (rE (0:Int)/\True/\True/\True))/\rE ((v1.2.2++x13.1):List (RK.T RK.apiOutput))/\True) (Sum.inl (wrap i64 (v1.1+1),{A0:=x13.2.A0,A7:=wrap u32 (x13.2.A7+1),B3:=x13.2.B3,A9:=x13.2.A9},v1.2.2++x13.1)))))))))) (.lf (Sum.inr (Sum.inr (v1.2.1,v1.2.2)))))))
def Qf4 r steps clock:=(Q6 r steps clock).m
abbrev Qmw r steps clock:=(Q6 r steps clock).p
def Z1k:LInv:={
 α:=(Int)×Q02
 F:=λst a=>([(1,(lk st 1)),(3, .ptr 0 0 0),(6, .ptr 4 0 0),(8, .int i64 a.1)],[⟨true,96,52, .gen [[.int u32 a.2.A0.B2.X.a0, .int u32 a.2.A0.B2.X.a1, .int u32 a.2.A0.B2.X.a2, .int u32 a.2.A0.B2.X.a3, .int u32 a.2.A0.B2.X.a4, .int u32 a.2.A0.B2.X.a5, .int u32 a.2.A0.B2.X.a6, .int u32 a.2.A0.B2.X.a7, .int u32 a.2.A0.B2.X.a8, .int u32 a.2.A0.B2.X.a9, .int u32 a.2.A0.B2.X.a10, .int u32 a.2.A0.B2.X.a11, .int u32 a.2.A0.B2.X.a12, .int u32 a.2.A0.B2.X.a13, .int u32 a.2.A0.B2.X.a14, .int u32 a.2.A0.B2.X.a15, .int u32 a.2.A0.B2.Pc, .int u32 a.2.A0.B2.B8.a0, .int u32 a.2.A0.B2.B8.a1, .int u32 a.2.A0.B2.B8.a2, .int u32 a.2.A0.B2.B8.a3, .int u32 a.2.A0.B2.B8.a4, .int u32 a.2.A0.B2.B8.a5, .int u32 a.2.A0.B2.B8.a6, .int u32 a.2.A0.B2.B8.a7, .all 1, .str a.2.A0.A3.D2, .bool a.2.A0.B0.D4, .int u32 a.2.A0.B0.C8, .bool a.2.A0.B0.D3, .int u32 a.2.A0.B1.Blocks, .int u32 a.2.A0.B1.C3, .int u32 a.2.A0.B1.Frame, .int i64 a.2.A0.B1.C4, .int i64 a.2.A0.B1.D8, .int u32 a.2.A0.B1.B9, .int u32 a.2.A0.B1.B4, .str a.2.A0.B1.C6, .int u32 a.2.A0.C2.Frame, .int u32 a.2.A0.C2.E0, .bool a.2.A0.C2.C7, .int u32 a.2.A0.C2.C1, .bool a.2.A0.C2.C0, .int u32 a.2.A0.C2.F1, .int u32 a.2.A0.A1.C9, .int u32 a.2.A0.A1.C5, .int u64 a.2.A0.A2, .bool a.2.A0.A4, .bool a.2.A0.A6, .int u32 a.2.A7, .all 2, .all 3]]⟩,⟨false,25,1, .ints u32 a.2.A0.Mem⟩,⟨false,126,4, .recs RK.apiEntry a.2.B3⟩,⟨false,66,3, .recs RK.apiEvent a.2.A9⟩,⟨true,96,52, .gen [[(cT st 6 0),(cT st 6 1),(cT st 6 2),(cT st 6 3),(cT st 6 4),(cT st 6 5),(cT st 6 6),(cT st 6 7),(cT st 6 8),(cT st 6 9),(cT st 6 10),(cT st 6 11),(cT st 6 12),(cT st 6 13),(cT st 6 14),(cT st 6 15),(cT st 6 16),(cT st 6 17),(cT st 6 18),(cT st 6 19),(cT st 6 20),(cT st 6 21),(cT st 6 22),(cT st 6 23),(cT st 6 24),(cT st 6 25),(cT st 6 26),(cT st 6 27),(cT st 6 28),(cT st 6 29),(cT st 6 30),(cT st 6 31),(cT st 6 32),(cT st 6 33),(cT st 6 34),(cT st 6 35),(cT st 6 36),(cT st 6 37),(cT st 6 38),(cT st 6 39),(cT st 6 40),(cT st 6 41),(cT st 6 42),(cT st 6 43),(cT st 6 44),(cT st 6 45),(cT st 6 46),(cT st 6 47),(cT st 6 48),(cT st 6 49),(cT st 6 50),(cT st 6 51)]]⟩])
 a0:=λst=>((lk st 8).toInt,(⟨(mR (cT st 3) (Q3u st.rows (Q0p (cT st 3 25) 1000000))),(cT st 3 49).toInt,(Q5 RK.apiEntry st.rows (Q0p (cT st 3 50) 1000000)),(Q5 RK.apiEvent st.rows (Q0p (cT st 3 51) 1000000))⟩:Q02))
 ex0:=λst=>[]++[(rX st 3 0),(Q0p (cT st 3 25) (st.rows.length+1)),(Q0p (cT st 3 50) (st.rows.length+2)),(Q0p (cT st 3 51) (st.rows.length+3)),(rX st 6 4)]}
def Z17:LInv:={
 α:=(Int)×Q02×(List Q03)
 F:=λst a=>([(1,(lk st 1)),(3, .ptr 0 0 0),(6, .ptr 4 0 0),(9, .all 5),(10, .int i64 a.1)],[⟨true,96,52, .gen [[.int u32 a.2.1.A0.B2.X.a0, .int u32 a.2.1.A0.B2.X.a1, .int u32 a.2.1.A0.B2.X.a2, .int u32 a.2.1.A0.B2.X.a3, .int u32 a.2.1.A0.B2.X.a4, .int u32 a.2.1.A0.B2.X.a5, .int u32 a.2.1.A0.B2.X.a6, .int u32 a.2.1.A0.B2.X.a7, .int u32 a.2.1.A0.B2.X.a8, .int u32 a.2.1.A0.B2.X.a9, .int u32 a.2.1.A0.B2.X.a10, .int u32 a.2.1.A0.B2.X.a11, .int u32 a.2.1.A0.B2.X.a12, .int u32 a.2.1.A0.B2.X.a13, .int u32 a.2.1.A0.B2.X.a14, .int u32 a.2.1.A0.B2.X.a15, .int u32 a.2.1.A0.B2.Pc, .int u32 a.2.1.A0.B2.B8.a0, .int u32 a.2.1.A0.B2.B8.a1, .int u32 a.2.1.A0.B2.B8.a2, .int u32 a.2.1.A0.B2.B8.a3, .int u32 a.2.1.A0.B2.B8.a4, .int u32 a.2.1.A0.B2.B8.a5, .int u32 a.2.1.A0.B2.B8.a6, .int u32 a.2.1.A0.B2.B8.a7, .all 1, .str a.2.1.A0.A3.D2, .bool a.2.1.A0.B0.D4, .int u32 a.2.1.A0.B0.C8, .bool a.2.1.A0.B0.D3, .int u32 a.2.1.A0.B1.Blocks, .int u32 a.2.1.A0.B1.C3, .int u32 a.2.1.A0.B1.Frame, .int i64 a.2.1.A0.B1.C4, .int i64 a.2.1.A0.B1.D8, .int u32 a.2.1.A0.B1.B9, .int u32 a.2.1.A0.B1.B4, .str a.2.1.A0.B1.C6, .int u32 a.2.1.A0.C2.Frame, .int u32 a.2.1.A0.C2.E0, .bool a.2.1.A0.C2.C7, .int u32 a.2.1.A0.C2.C1, .bool a.2.1.A0.C2.C0, .int u32 a.2.1.A0.C2.F1, .int u32 a.2.1.A0.A1.C9, .int u32 a.2.1.A0.A1.C5, .int u64 a.2.1.A0.A2, .bool a.2.1.A0.A4, .bool a.2.1.A0.A6, .int u32 a.2.1.A7, .all 2, .all 3]]⟩,⟨false,25,1, .ints u32 a.2.1.A0.Mem⟩,⟨false,126,4, .recs RK.apiEntry a.2.1.B3⟩,⟨false,66,3, .recs RK.apiEvent a.2.1.A9⟩,⟨true,96,52, .gen [[(cT st 6 0),(cT st 6 1),(cT st 6 2),(cT st 6 3),(cT st 6 4),(cT st 6 5),(cT st 6 6),(cT st 6 7),(cT st 6 8),(cT st 6 9),(cT st 6 10),(cT st 6 11),(cT st 6 12),(cT st 6 13),(cT st 6 14),(cT st 6 15),(cT st 6 16),(cT st 6 17),(cT st 6 18),(cT st 6 19),(cT st 6 20),(cT st 6 21),(cT st 6 22),(cT st 6 23),(cT st 6 24),(cT st 6 25),(cT st 6 26),(cT st 6 27),(cT st 6 28),(cT st 6 29),(cT st 6 30),(cT st 6 31),(cT st 6 32),(cT st 6 33),(cT st 6 34),(cT st 6 35),(cT st 6 36),(cT st 6 37),(cT st 6 38),(cT st 6 39),(cT st 6 40),(cT st 6 41),(cT st 6 42),(cT st 6 43),(cT st 6 44),(cT st 6 45),(cT st 6 46),(cT st 6 47),(cT st 6 48),(cT st 6 49),(cT st 6 50),(cT st 6 51)]]⟩,⟨false,71,4, .recs RK.apiOutput a.2.2⟩])
 a0:=λst=>((lk st 10).toInt,(⟨(mR (cT st 3) (Q3u st.rows (Q0p (cT st 3 25) 1000000))),(cT st 3 49).toInt,(Q5 RK.apiEntry st.rows (Q0p (cT st 3 50) 1000000)),(Q5 RK.apiEvent st.rows (Q0p (cT st 3 51) 1000000))⟩:Q02),(Q5 RK.apiOutput st.rows (rN st 9)))
 ex0:=λst=>[]++[(rX st 3 0),(Q0p (cT st 3 25) (st.rows.length+1)),(Q0p (cT st 3 50) (st.rows.length+2)),(Q0p (cT st 3 51) (st.rows.length+3)),(rX st 6 4),(rX st 9 5)]}
def Qw1:List (Nat×LInv):=[(6,Z1k),(12,Z17)]
def Z66:Q0f:=mT 147 [] true [.agg Q02.sig, .one (.int .i64), .one (.int .u32)] [] (λa r=>Q6 (Q02.of (aC a 0)) (argI a 1) (argI a 2)) (λX=> .tup [.agg (Q02.cellsW (X.1) (.all 0) (.all 1) (.all 2)), .all 3]) (λX=>[⟨false,25,1, .ints .u32 (X.1).A0.Mem⟩,⟨false,126,4, .recs .apiEntry (X.1).B3⟩,⟨false,66,3, .recs .apiEvent (X.1).A9⟩,⟨false,71,4, .recs .apiOutput (X.2)⟩])
theorem Z19:Q06 pG Z66:=oT (.cons Z03 (.cons Qjo (.cons Z8l (.cons Qox (.cons Zmc (.cons Qoc (.cons Qlh (.cons Qyh (.nil))))))))) Tryz.func147 Tryz.call147 [.row 25 1 (.ints .u32), .row 126 4 (.recs .apiEntry), .row 66 3 (.recs .apiEvent), .row 71 4 (.recs .apiOutput)] Qw1 3

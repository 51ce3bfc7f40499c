import Derived.Test.YthjfindbamdacaaGreatDoorAuditFindsYz
open Nat renaming blt->bJ,beq->bT,lt_succ_self->cO
open List renaming length->dK,replicate->cQ,take->dB,drop->dC,set->dG,getD->aK
open Int renaming toNat->dF,tdiv->eU,tmod->dE
open UInt8 renaming ofNat->eX,toNat->eW
set_option maxRecDepth 100000
set_option linter.all false
namespace Go.Proofs.YthjfindbamdacaaGreatDoor
open Go Go.GD Go.IntKind
noncomputable section
def LX(m:List Int):Tree (List Int):=
.cn (bJ (0:Nat) (1:Nat)&&bT (1:Nat) (1:Nat)&&List.all [D.int u32 (0:Int)] D.plain&&decide ((0:Int)<=(m.length:Int)/\(m.length:Int)<=(m.length:Int)/\(m.length:Int)<=(9223372036854775807:Int)/\(↑(4:Nat):Int)*(m.length:Int)<=(140737488355328:Int))) (let E1:=dK (cQ (dF (m.length:Int)) (0:Int));.lf (dB (Min.min (m.length) E1) m++dC (Min.min (m.length) E1) (cQ (dF (m.length:Int)) (0:Int))))
def X6 m:=(LX m).m
abbrev Qvk m:=(LX m).p
def Ziu:bc:=mT 141 [] true [.one (.ints .u32)] [] (λa r=>LX (eh .u32 a 0)) (λX=>.all 0) (λX=>[⟨false,23,1,.ints .u32 X⟩])
theorem Zhm:bj pG Ziu:=oT (.nil) Tryz.func141 Tryz.call141 [.row 23 1 (.ints .u32)] [] 2
def GA(m:au):Tree au:=
.an (Qvk m.Mem) (.lv (X6 m.Mem) λ(x0:List Int)=>.lf ({B1:=m.B1,Mem:=x0,A3:=m.A3,A9:=m.A9,A7:=m.A7,C3:=m.C3,A2:=m.A2,A1:=m.A1,A4:=m.A4,A6:=m.A6}))
def Jk m:=(GA m).m
abbrev R8 m:=(GA m).p
def Zop:bc:=mT 87 [] true [.agg au.sig] [] (λa r=>GA (au.of (aC a 0))) (λX=>.agg (au.ez X (.all 0))) (λX=>[⟨false,23,1,.ints .u32 X.Mem⟩])
theorem Qsl:bj pG Zop:=oT (.cons Zhm (.nil)) Tryz.func87 Tryz.call87 [.row 23 1 (.ints .u32)] [] 2
def Qrb(n k:Int)(z:(Int)×(List Int)):Prop:=0<=z.1/\(z.2.length:Int)=z.1/\(z.1<=k\/z.1=0)
def Qh6(n k:Int)(z:(Int)×(List Int)):Nat:=(k-z.1).toNat
def VQ(n k:Int):Tree (List UInt8):=
.lp inferInstance (Qh6 n k (0,[])+1) ((rE (n:Int)/\rE (k:Int)/\True/\rE (0:Int)/\True)/\rE ([]:List Int)/\True) (0,[]) λ(v0:Int×List Int)=>.br (decide (v0.1<k)) (.lv (AM n (wrap i64 (eU v0.1 9))) λ(x0:Int)=>.cn (decide (1*(v0.2.length+1)<=140737488355328)) (.nx ((rE (n:Int)/\rE (k:Int)/\True/\rE ((wrap i64 (v0.1+1)):Int)/\True)/\rE ((v0.2++[wrap u8 x0]):List Int)/\True) (Sum.inl (wrap i64 (v0.1+1),v0.2++[wrap u8 x0])))) (.lf (Sum.inr (bytesOf v0.2)))
def Z2m n k:=(VQ n k).m
def MJ(n k:Int):Prop:=
k<=1000000000000
theorem Zbe(n k:Int)(hw:MJ n k):(VQ n k).p:=by
 simp only[MJ]at hw
 unfold Tree.p VQ
 repeat'(first|refine fy (inv:=Qrb n k) (μ:=Qh6 n k) ?_ (cO _) (λ_ _=>?_)|exact trivial|refine aa (λ_=>?_) (λ_=>?_)|refine ba ?_ ?_|refine cz ?_ ?_|refine ar (λ_ _=>?_)|refine fg ?_|refine ey ?_|refine And.intro ?_ ?_)
 all_goals((try simp only[Qrb,Qh6]at*);exact oI)
def Zel:bu:={
 α:=(Int)×(List Int)
 F:=λst a=>([(0,(lk st 0)),(1,(lk st 1)),(5,.all 0),(6,.int i64 a.1)],[⟨false,5,1,.ints u8 a.2⟩])
 a0:=λst=>((lk st 6).toInt,(oP st.rows (rN st 5)))
 jn:=λst=>[]++[(rX st 5 0)]}
def Z7k:List (Nat×bu):=[(3,Zel)]
def Zj1:bc:=mM 20 [] true [.one (.int .i64),.one (.int .i64)] [] (λa r=>MJ (aq a 0) (aq a 1)) (λa r=>Z2m (aq a 0) (aq a 1)) (λX=>.str X) (λX=>[])
theorem Zfr:bj pG Zj1:=u5 drawn mN (.cons Vy (.nil)) Tryz.func20 Tryz.call20 (λa r=>VQ (aq a 0) (aq a 1)) [] Z7k 3 (hp:=λa r h=>Zbe (aq a 0) (aq a 1) h)
def L6(r:cw):Tree cw:=
.an (R8 r.A0) (.lv (Jk r.A0) λ(x0:au)=>.cn (decide (40*(0+r.C7.length)<=140737488355328)) (.cn (decide (32*(0+r.B0.length)<=140737488355328)) (.lf ({A0:=x0,B3:=r.B3,C7:=r.C7,B0:=r.B0}))))
def Ua r:=(L6 r).m
abbrev Qlv r:=(L6 r).p
def Zl:bc:=mT 262 [] true [.agg cw.sig] [] (λa r=>L6 (cw.of (aC a 0))) (λX=>.agg (cw.ez X (.all 0) (.all 1) (.all 2))) (λX=>[⟨false,23,1,.ints .u32 X.A0.Mem⟩,⟨false,103,4,.av .ab X.C7⟩,⟨false,72,3,.av .bd X.B0⟩])
theorem Qyh:bj pG Zl:=oT (.cons Qsl (.nil)) Tryz.func262 Tryz.call262 [.row 23 1 (.ints .u32),.row 103 4 (.av .ab),.row 72 3 (.av .bd)] [] 2
def Qu1(e:gx):Tree Bool:=
.br (e.C0==1) (.lf (decide (e.C9=[]))) (.br (e.C0==6) (.lf (decide (e.C9=[]))) (.br (e.C0==2) (.br (e.N==0) (.lf (decide (e.C9=[]))) (.lf false)) (.br (e.C0==3) (.br (decide (e.N<=255)) (.lf (decide (e.C9=[]))) (.lf false)) (.br (e.C0==4) (.br (decide (e.N<=1)) (.br (decide (e.C9=[])) (.lf true) (.br (e.N==1) (.lf ((e.C9.length:Int)==(128:Int))) (.lf false))) (.lf false)) (.br (e.C0==5) (.br (e.N==0) (.br (decide ((e.C9.length:Int)>=(1:Int))) (.lf (decide ((e.C9.length:Int)<=(128:Int)))) (.lf false)) (.lf false)) (.lf false))))))
def OV e:=(Qu1 e).m
def Zdw:bc:=mS 263 [] true [.agg gx.sig] [] (λa r=>Qu1 (gx.of (aC a 0))) (λX=>.bool X) (λX=>[])
theorem Z7l:bj pG Zdw:=oS (.nil) Tryz.func263 Tryz.call263 [] [] 2
def Q8(r:cw)(e:gx):Tree (cw×Bool):=
.an (Qlv r) (.lv (Ua r) λ(x0:cw)=>.lv (OV e) λ(x1:Bool)=>.br (!x1) (.lf (x0,false)) (.br (e.C0==1) (.lf (x0,false)) (.br (decide ((x0.B0.length:Int)>=(16:Int))) (.lf (x0,false)) (.cn (decide (32*(x0.B0.length+1)<=140737488355328)) (.lf ({A0:=x0.A0,B3:=x0.B3,C7:=x0.C7,B0:=x0.B0++[e]},true))))))
def Ef r e:=(Q8 r e).m
abbrev Qn6 r e:=(Q8 r e).p
def Z6:bc:=mT 200 [] true [.agg cw.sig,.agg gx.sig] [] (λa r=>Q8 (cw.of (aC a 0)) (gx.of (aC a 1))) (λX=>.dt [.agg (cw.ez (X.1) (.all 0) (.all 1) (.all 2)),.bool (X.2)]) (λX=>[⟨false,23,1,.ints .u32 (X.1).A0.Mem⟩,⟨false,103,4,.av .ab (X.1).C7⟩,⟨false,72,3,.av .bd (X.1).B0⟩])
theorem Z5d:bj pG Z6:=oT (.cons Qyh (.cons Z7l (.nil))) Tryz.func200 Tryz.call200 [.row 23 1 (.ints .u32),.row 103 4 (.av .ab),.row 72 3 (.av .bd)] [] 2
def RE(n:Int):Tree gx:=
.lv (AM n 2) λ(x0:Int)=>.br (dE x0 (7:Int)==(0:Int)) (.lf ({C0:=2,N:=0,C9:=[]})) (.br (dE x0 (7:Int)==(1:Int)) (.lf ({C0:=3,N:=wrap u32 (bf i64 (bg i64 x0 8) 255),C9:=[]})) (.br (dE x0 (7:Int)==(2:Int)) (.lf ({C0:=3,N:=wrap u32 (bf i64 (bg i64 x0 8) 255),C9:=[]})) (.br (dE x0 (7:Int)==(3:Int)) (.lf ({C0:=4,N:=1,C9:=[]})) (.br (dE x0 (7:Int)==(4:Int)) (.an (MJ x0 128) (.lv (Z2m x0 128) λ(x1:List UInt8)=>.lf ({C0:=4,N:=1,C9:=x1}))) (.br (dE x0 (7:Int)==(5:Int)) (let E1:=wrap i64 (1+dE (bg i64 x0 8) 40);.an (MJ x0 E1) (.lv (Z2m x0 E1) λ(x2:List UInt8)=>.lf ({C0:=5,N:=0,C9:=x2}))) (.br (dE (bg i64 x0 8) (4:Int)==(0:Int)) (.lf ({C0:=4,N:=0,C9:=[]})) (.lf ({C0:=6,N:=wrap u32 (dE (bg i64 x0 8) 3),C9:=[]}))))))))
def OU n:=(RE n).m
abbrev Qrg n:=(RE n).p
def Zg6:bc:=mT 28 [] true [.one (.int .i64)] [] (λa r=>RE (aq a 0)) (λX=>.agg (gx.cells X)) (λX=>[])
theorem Zdj:bj pG Zg6:=oT (.cons Vy (.cons Zfr (.nil))) Tryz.func28 Tryz.call28 [] [] 2
def Qp1(m:List Int):Tree Int:=
.br (dE (m.length:Int) (32:Int) !=(0:Int)) (.lf 0) (.br (decide ((m.length:Int)>(1024:Int))) (.lf 0) (.lf (wrap i64 (eU (m.length:Int) 32))))
def wE m:=(Qp1 m).m
def Zgm:bc:=mS 157 [] true [.one (.ints .u32)] [] (λa r=>Qp1 (eh .u32 a 0)) (λX=>.int .i64 X) (λX=>[])
theorem Sd:bj pG Zgm:=oS (.nil) Tryz.func157 Tryz.call157 [] [] 2
def Qk6(c:iT):Tree Bool:=
.lf (decide ((c.D1.length:Int)<=(16:Int)))
def Qik c:=(Qk6 c).m
def Qw5:bc:=mS 158 [] true [.agg iT.sig] [] (λa r=>Qk6 (iT.of (aC a 0))) (λX=>.bool X) (λX=>[])
theorem Qvf:bj pG Qw5:=oS (.nil) Tryz.func158 Tryz.call158 [] [] 2
def XJ(t:iU):Tree Bool:=
.br t.D4 (.br t.D3 (.lf false) (.br t.D4 (.lf (t.C4 !=0)) (.br t.D3 (.lf true) (.lf (t.C4==0))))) (.br t.D4 (.lf (t.C4 !=0)) (.br t.D3 (.lf true) (.lf (t.C4==0))))
def TM t:=(XJ t).m
def Z43:bc:=mS 159 [] true [.agg iU.sig] [] (λa r=>XJ (iU.of (aC a 0))) (λX=>.bool X) (λX=>[])
theorem Z0n:bj pG Z43:=oS (.nil) Tryz.func159 Tryz.call159 [] [] 2
def XL(d0:fp)(c7:Int):Tree Bool:=
.br (decide (d0.ag>64)) (.lf false) (.br (decide (d0.B7<0)) (.lf false) (.br (decide (d0.B7>3)) (.lf false) (.br (d0.B7 !=1) (.br (d0.D5==0) (.br (d0.B6==0) (.br (d0.B2==0) (.lf (decide (d0.B8=[]))) (.lf false)) (.lf false)) (.lf false)) (.br (decide (d0.B6>=d0.ag)) (.lf false) (.br (decide (wrap i64 d0.B2>=c7)) (.lf false) (.br (d0.D5==1) (.br (decide (d0.B8=[])) (.lf true) (.br (d0.D5==2) (.lf ((d0.B8.length:Int)==(128:Int))) (.lf false))) (.br (d0.D5==2) (.lf ((d0.B8.length:Int)==(128:Int))) (.lf false))))))))
def TO d0 c7:=(XL d0 c7).m
def Z6t:bc:=mS 160 [] true [.agg fp.sig,.one (.int .i64)] [] (λa r=>XL (fp.of (aC a 0)) (aq a 1)) (λX=>.bool X) (λX=>[])
theorem Z46:bj pG Z6t:=oS (.nil) Tryz.func160 Tryz.call160 [] [] 2
def XK(n:ia)(c7:Int):Tree Bool:=
let T1:Tree (Bool):=.br n.B5 (.br (decide (n.F1>=1)) (.lf (decide (n.F1<=128))) (.lf false)) (.lf (n.F1==0));.br n.C5 (.br n.B5 (.lf false) (.br (decide (wrap i64 n.B9>=c7)) (.lf false) (.br (!n.C5) (.br (n.B9 !=0) (.lf false) T1) T1))) (.br (!n.C5) (.br (n.B9 !=0) (.lf false) T1) T1)
def TN n c7:=(XK n c7).m
def Zbp:bc:=mS 161 [] true [.agg ia.sig,.one (.int .i64)] [] (λa r=>XK (ia.of (aC a 0)) (aq a 1)) (λX=>.bool X) (λX=>[])
theorem Z75:bj pG Zbp:=oS (.nil) Tryz.func161 Tryz.call161 [] [] 2
def Qfw(b:gv)(c7:Int)(z:(Int)):Prop:=0<=z/\z<=32
def TS(b:gv)(c7:Int)(z:(Int)):Nat:=(32-z).toNat
def LQ(b:gv)(c7:Int):Tree Bool:=
.lp inferInstance (TS b c7 0+1) ((rE (c7:Int)/\rZ/\rE (0:Int)/\True)/\(rE b.C6/\rE b.C2/\True)/\True) 0 λ(v0:Int)=>.br (decide (v0<32)) (.cn (decide (0<=wrap u64 v0)) (let T1:Tree ((Int)⊕(Bool)):=.nx ((rE (c7:Int)/\rZ/\rE ((wrap i64 (v0+1)):Int)/\True)/\(rE b.C6/\rE b.C2/\True)/\True) (Sum.inl (wrap i64 (v0+1)));.br (bf u32 (bg u32 b.C2 (wrap u64 v0)) (1:Int)==(1:Int)) (.br (decide (v0>=c7)) (.lf (Sum.inr false)) T1) T1)) (.lf (Sum.inr true))
def TT b c7:=(LQ b c7).m
theorem Qsx(b:gv)(c7:Int):(LQ b c7).p:=by
 unfold Tree.p LQ
 repeat'(first|refine fy (inv:=Qfw b c7) (μ:=TS b c7) ?_ (cO _) (λ_ _=>?_)|exact trivial|refine aa (λ_=>?_) (λ_=>?_)|refine ba ?_ ?_|refine cz ?_ ?_|refine ar (λ_ _=>?_)|refine fg ?_|refine ey ?_|refine And.intro ?_ ?_)
 all_goals((try simp only[Qfw,TS]at*);exact oI)
def Qu4:bu:={
 α:=(Int)
 F:=λst a=>([(1,(lk st 1)),(2,.ptr 0 0 0),(5,.int i64 a)],[⟨true,39,2,.gen [[(cT st 2 0),(cT st 2 1)]]⟩])
 a0:=λst=>(lk st 5).toInt
 jn:=λst=>[]++[(rX st 2 0)]}
def Qr6:List (Nat×bu):=[(2,Qu4)]
def Qxo:bc:=mS 162 [] true [.agg gv.sig,.one (.int .i64)] [] (λa r=>LQ (gv.of (aC a 0)) (aq a 1)) (λX=>.bool X) (λX=>[])
theorem Qux:bj pG Qxo:=oS (.nil) Tryz.func162 Tryz.call162 [] Qr6 3 (λ_ _ _=>by kernel_rfl) (λa r=>Qsx (gv.of (aC a 0)) (aq a 1)) (λ_ X=>by kernel_rfl)
def X0(m:au):Tree Bool:=
.lv (wE m.Mem) λ(x0:Int)=>.br (decide (x0<1)) (.lf false) (.br (m.B1.X.a0 !=0) (.lf false) (.br (decide (m.B1.B4.a0>31)) (.lf false) (.br (decide (m.B1.B4.a7>31)) (.lf false) (.br (decide (m.B1.B4.a6>255)) (.lf false) (.br (dE m.B1.B4.a1 (4:Int) !=(0:Int)) (.lf false) (.lv (Qik m.A3) λ(x1:Bool)=>.br (!x1) (.lf false) (.lv (TM m.A9) λ(x2:Bool)=>.br (!x2) (.lf false) (.lv (TO m.A7 x0) λ(x3:Bool)=>.br (!x3) (.lf false) (.lv (TN m.C3 x0) λ(x4:Bool)=>.br (!x4) (.lf false) (.lv (TT m.A2 x0) λ(x5:Bool)=>.br (!x5) (.lf false) (.br (decide (m.A1<=1152921504606846976)) (.br m.A4 (.lf (!m.A6)) (.lf true)) (.lf false))))))))))))
def pR m:=(X0 m).m
def Zqb:bc:=mS 101 [] true [.agg au.sig] [] (λa r=>X0 (au.of (aC a 0))) (λX=>.bool X) (λX=>[])
theorem Qt2:bj pG Zqb:=oS (.cons Sd (.cons Qvf (.cons Z0n (.cons Z46 (.cons Z75 (.cons Qux (.nil))))))) Tryz.func101 Tryz.call101 [] [] 2
def Ug(t:iU):Tree (iU×Bool):=
.br (!t.D4) (.lf (t,false)) (.lf ({D4:=false,C4:=t.C4,D3:=true},true))
def T0 t:=(Ug t).m
def Zkp:bc:=mS 163 [] true [.agg iU.sig] [] (λa r=>Ug (iU.of (aC a 0))) (λX=>.dt [.agg (iU.cells (X.1)),.bool (X.2)]) (λX=>[])
theorem Qzp:bj pG Zkp:=oS (.nil) Tryz.func163 Tryz.call163 [] [] 2
def RD(c:iT)(b:Int):Tree (iT×Bool):=
.br (decide ((c.D1.length:Int)>=(16:Int))) (.lf (c,false)) (.cn (decide (c.D1.length+1<=maxLen)) (.lf ({D1:=c.D1++[(λ(n:Int)=>eX n.toNat) b]},true)))
def Ya c b:=(RD c b).m
abbrev Qmg c b:=(RD c b).p
def Zl0:bc:=mT 164 [] true [.agg iT.sig,.one (.int .u8)] [] (λa r=>RD (iT.of (aC a 0)) (aq a 1)) (λX=>.dt [.agg (iT.cells (X.1)),.bool (X.2)]) (λX=>[])
theorem Qzb:bj pG Zl0:=oT (.nil) Tryz.func164 Tryz.call164 [] [] 2
def OH(m:List Int)(frame:Int):Tree Bool:=
.lv (wE m) λ(x0:Int)=>.lf (decide (wrap u64 frame<wrap u64 x0))
def nS m frame:=(OH m frame).m
def Zjq:bc:=mS 237 [] true [.one (.ints .u32),.one (.int .u32)] [] (λa r=>OH (eh .u32 a 0) (aq a 1)) (λX=>.bool X) (λX=>[])
theorem Se:bj pG Zjq:=oS (.cons Sd (.nil)) Tryz.func237 Tryz.call237 [] [] 2
def I8(m:List Int)(addr size v:Int):Tree (List Int):=
let E1:=bT 1 1&&bJ 0 1&&decide (0<=wrap u32 (eU addr 4)/\wrap u32 (eU addr 4)<(m.length:Int));let E2:=dF (wrap u32 (eU addr 4));.br (size==4) (.cn E1 (.lf (dG m E2 v))) (.cn E1 (let E3:=decide (0<=wrap u32 (8*dE addr 4));.cn E3 (.cn E3 (.cn E1 (.lf (dG m E2 (iq u32 (nQ u32 (m.getD E2 0) (eg u32 255 (wrap u32 (8*dE addr 4)))) (eg u32 (bf u32 v 255) (wrap u32 (8*dE addr 4))))))))))
def Bl m addr size v:=(I8 m addr size v).m
abbrev Tu m addr size v:=(I8 m addr size v).p
def Zpu:bc:=mT 278 [true,false,false,false] true [.one (.row 0),.one (.int .u32),.one (.int .i64),.one (.int .u32)] [.arr 23 1 (.ints .u32)] (λa r=>I8 (gj .u32 r 0) (aq a 1) (aq a 2) (aq a 3)) (λX=>.dt []) (λX=>[⟨false,23,1,.ints .u32 X⟩])
theorem Z38:bj pG Zpu:=oT (.nil) Tryz.func278 Tryz.call278 [] [] 2
def Xr(m:List Int)(frame:Int)(s:List UInt8)(z:(Int)×(List Int)):Nat:=(128-z.1).toNat
def GV(m:List Int)(frame:Int)(s:List UInt8):Tree (List Int):=
.lp inferInstance (Xr m frame s (0,m)+1) ((True/\rE (frame:Int)/\rE (s:List UInt8)/\rE (0:Int)/\True)/\rE (m:List Int)/\True) (0,m) λ(v0:Int×List Int)=>.br (decide (v0.1<(s.length:Int))) (.br (decide (v0.1<128)) (.cn (decide (0<=v0.1/\v0.1<(s.length:Int))) (let E1:=wrap u32 (↑(eW (s.getD v0.1.toNat (0:UInt8))):Int);let E2:=wrap u32 (wrap i64 (wrap i64 (frame*128)+v0.1));.an (Tu v0.2 E2 1 E1) (.lv (Bl v0.2 E2 1 E1) λ(x0:List Int)=>.nx ((True/\rE (frame:Int)/\rE (s:List UInt8)/\rE ((wrap i64 (v0.1+1)):Int)/\True)/\rE (x0:List Int)/\True) (Sum.inl (wrap i64 (v0.1+1),x0))))) (.lf (Sum.inr v0.2))) (.lf (Sum.inr v0.2))
def Ok m frame s:=(GV m frame s).m
abbrev Qm9 m frame s:=(GV m frame s).p
def Zf1:bu:={
 α:=(Int)×(List Int)
 F:=λst a=>([(0,.all 0),(1,(lk st 1)),(2,(lk st 2)),(6,.int i64 a.1)],[⟨false,23,1,.ints u32 a.2⟩])
 a0:=λst=>((lk st 6).toInt,(oP st.rows 0))
 jn:=λst=>[0]++[]}
def Z6o:List (Nat×bu):=[(1,Zf1)]
def Zjt:bc:=mT 238 [true,false,false] true [.one (.row 0),.one (.int .i64),.one (.str)] [.arr 23 1 (.ints .u32)] (λa r=>GV (gj .u32 r 0) (aq a 1) (il a 2)) (λX=>.dt []) (λX=>[⟨false,23,1,.ints .u32 X⟩])
theorem Qzn:bj pG Zjt:=oT (.cons Z38 (.nil)) Tryz.func238 Tryz.call238 [] Z6o 3
def G7(d0:fp)(m:List Int)(e:gx):Tree (fp×Bool×(List Int)):=
.br (d0.B7 !=1) (.lf (d0,false,m)) (.br (e.C0 !=4) (.lf (d0,false,m)) (.br (decide (e.N>1)) (.lf (d0,false,m)) (let E4:=({ag:=d0.ag,C1:=d0.C1,Frame:=d0.Frame,B7:=2,D5:=0,B6:=0,B2:=0,B8:=[]}:fp);let E5:=({ag:=d0.ag,C1:=d0.C1,Frame:=d0.Frame,B7:=3,D5:=0,B6:=0,B2:=0,B8:=[]}:fp);let T2:Tree ((fp×Bool×(List Int))):=.br (e.N==1) (.lf (E4,true,m)) (.lf (E5,true,m));let E6:=decide ((e.C9.length:Int)>(0:Int));.br (e.N==1) (let T1:Tree ((fp×Bool×(List Int))):=.br (d0.D5==1) (.an (Qm9 m (wrap i64 d0.B2) e.C9) (.lv (Ok m (wrap i64 d0.B2) e.C9) λ(x1:List Int)=>.br (e.N==1) (.lf (E4,true,x1)) (.lf (E5,true,x1)))) T2;let T3:Tree ((fp×Bool×(List Int))):=.br (!d0.D5==1) (.br E6 (.lf (d0,false,m)) T1) T1;.br (d0.D5==1) (.br ((e.C9.length:Int) !=(128:Int)) (.lf (d0,false,m)) (.lv (nS m d0.B2) λ(x0:Bool)=>.br (!x0) (.lf (d0,false,m)) T3)) T3) (.br E6 (.lf (d0,false,m)) T2))))
def Je d0 m e:=(G7 d0 m e).m
abbrev Qhl d0 m e:=(G7 d0 m e).p
def Zde:bc:=mT 165 [false,true,false] true [.agg fp.sig,.one (.row 0),.agg gx.sig] [.arr 23 1 (.ints .u32)] (λa r=>G7 (fp.of (aC a 0)) (gj .u32 r 0) (gx.of (aC a 2))) (λX=>.dt [.agg (fp.cells (X.1)),.bool (X.2.1)]) (λX=>[⟨false,23,1,.ints .u32 (X.2.2)⟩])
theorem Qs6:bj pG Zde:=oT (.cons Se (.cons Qzn (.nil))) Tryz.func165 Tryz.call165 [] [] 2
def LN(n:ia)(m:List Int)(frame:List UInt8):Tree (ia×Bool×(List Int)):=
.br (!n.C5) (.lf (n,false,m)) (.br (decide ((frame.length:Int)<(1:Int))) (.lf (n,false,m)) (.br (decide ((frame.length:Int)>(128:Int))) (.lf (n,false,m)) (.lv (nS m n.B9) λ(x0:Bool)=>.br (!x0) (.lf (n,false,m)) (.an (Qm9 m (wrap i64 n.B9) frame) (.lv (Ok m (wrap i64 n.B9) frame) λ(x1:List Int)=>.lf ({Frame:=n.Frame,E0:=n.E0,C5:=false,B9:=0,B5:=true,F1:=wrap u32 (frame.length:Int)},true,x1))))))
def LM n m frame:=(LN n m frame).m
abbrev Qh8 n m frame:=(LN n m frame).p
def Zd8:bc:=mT 166 [false,true,false] true [.agg ia.sig,.one (.row 0),.one (.str)] [.arr 23 1 (.ints .u32)] (λa r=>LN (ia.of (aC a 0)) (gj .u32 r 0) (il a 2)) (λX=>.dt [.agg (ia.cells (X.1)),.bool (X.2.1)]) (λX=>[⟨false,23,1,.ints .u32 (X.2.2)⟩])
theorem Qrm:bj pG Zd8:=oT (.cons Se (.cons Qzn (.nil))) Tryz.func166 Tryz.call166 [] [] 2
def Fx(m:au)(e:gx):Tree (Bool×au):=
.br m.A6 (.lf (false,m)) (let T1:Tree ((Bool×au)):=.br (e.C0==4) (.an (Qhl m.A7 m.Mem e) (.lv (Je m.A7 m.Mem e) λ(x2:fp×Bool×List Int)=>.lf (x2.2.1,{B1:=m.B1,Mem:=x2.2.2,A3:=m.A3,A9:=m.A9,A7:=x2.1,C3:=m.C3,A2:=m.A2,A1:=m.A1,A4:=m.A4,A6:=m.A6}))) (let T3:Tree ((Bool×au)):=.br (e.C0==6) (.br (decide (e.C9=[])) (.lf (true,{B1:=m.B1,Mem:=m.Mem,A3:=m.A3,A9:=m.A9,A7:=m.A7,C3:=m.C3,A2:={C6:=e.N,C2:=m.A2.C2},A1:=m.A1,A4:=m.A4,A6:=m.A6})) (.lf (false,m))) (.lf (false,m));.br (e.C0==5) (.br (e.N==0) (.an (Qh8 m.C3 m.Mem e.C9) (.lv (LM m.C3 m.Mem e.C9) λ(x3:ia×Bool×List Int)=>.lf (x3.2.1,{B1:=m.B1,Mem:=x3.2.2,A3:=m.A3,A9:=m.A9,A7:=m.A7,C3:=x3.1,A2:=m.A2,A1:=m.A1,A4:=m.A4,A6:=m.A6}))) T3) T3);let T2:Tree ((Bool×au)):=.br (e.C0==3) (.br (decide (e.N<=255)) (.br (decide (e.C9=[])) (.an (Qmg m.A3 (wrap u8 e.N)) (.lv (Ya m.A3 (wrap u8 e.N)) λ(x1:iT×Bool)=>.lf (x1.2,{B1:=m.B1,Mem:=m.Mem,A3:=x1.1,A9:=m.A9,A7:=m.A7,C3:=m.C3,A2:=m.A2,A1:=m.A1,A4:=m.A4,A6:=m.A6}))) T1) T1) T1;.br (e.C0==2) (.br (e.N==0) (.br (decide (e.C9=[])) (.lv (T0 m.A9) λ(x0:iU×Bool)=>.lf (x0.2,{B1:=m.B1,Mem:=m.Mem,A3:=m.A3,A9:=x0.1,A7:=m.A7,C3:=m.C3,A2:=m.A2,A1:=m.A1,A4:=m.A4,A6:=m.A6})) T2) T2) T2)
def lK m e:=(Fx m e).m
abbrev Qs5 m e:=(Fx m e).p
def Zhf:bc:=mT 103 [true,false] true [.ptr 0,.agg gx.sig] [.box 42 49 (au.kN (.row 1)),.arr 23 1 (.ints .u32)] (λa r=>Fx (au.pZ (r.getD 0 default).cs (gj .u32 r 1)) (gx.of (aC a 1))) (λX=>.bool (X.1)) (λX=>[⟨true,42,49,.gen [(au.ez (X.2) (.all 1))]⟩,⟨false,23,1,.ints .u32 (X.2).Mem⟩])
theorem Zcd:bj pG Zhf:=oT (.cons Qzp (.cons Qzb (.cons Qs6 (.cons Qrm (.nil))))) Tryz.func103 Tryz.call103 [.row 23 1 (.ints .u32)] [] 2
def L1(m:cw)(e:gx):Tree (Bool×cw):=
.br m.A0.A6 (.lf (false,m)) (let T1:Tree ((Bool×cw)):=.br (e.C0==4) (.an (Qhl m.A0.A7 m.A0.Mem e) (.lv (Je m.A0.A7 m.A0.Mem e) λ(x2:fp×Bool×List Int)=>.lf (x2.2.1,{A0:={B1:=m.A0.B1,Mem:=x2.2.2,A3:=m.A0.A3,A9:=m.A0.A9,A7:=x2.1,C3:=m.A0.C3,A2:=m.A0.A2,A1:=m.A0.A1,A4:=m.A0.A4,A6:=m.A0.A6},B3:=m.B3,C7:=m.C7,B0:=m.B0}))) (let T3:Tree ((Bool×cw)):=.br (e.C0==6) (.br (decide (e.C9=[])) (.lf (true,{A0:={B1:=m.A0.B1,Mem:=m.A0.Mem,A3:=m.A0.A3,A9:=m.A0.A9,A7:=m.A0.A7,C3:=m.A0.C3,A2:={C6:=e.N,C2:=m.A0.A2.C2},A1:=m.A0.A1,A4:=m.A0.A4,A6:=m.A0.A6},B3:=m.B3,C7:=m.C7,B0:=m.B0})) (.lf (false,m))) (.lf (false,m));.br (e.C0==5) (.br (e.N==0) (.an (Qh8 m.A0.C3 m.A0.Mem e.C9) (.lv (LM m.A0.C3 m.A0.Mem e.C9) λ(x3:ia×Bool×List Int)=>.lf (x3.2.1,{A0:={B1:=m.A0.B1,Mem:=x3.2.2,A3:=m.A0.A3,A9:=m.A0.A9,A7:=m.A0.A7,C3:=x3.1,A2:=m.A0.A2,A1:=m.A0.A1,A4:=m.A0.A4,A6:=m.A0.A6},B3:=m.B3,C7:=m.C7,B0:=m.B0}))) T3) T3);let T2:Tree ((Bool×cw)):=.br (e.C0==3) (.br (decide (e.N<=255)) (.br (decide (e.C9=[])) (.an (Qmg m.A0.A3 (wrap u8 e.N)) (.lv (Ya m.A0.A3 (wrap u8 e.N)) λ(x1:iT×Bool)=>.lf (x1.2,{A0:={B1:=m.A0.B1,Mem:=m.A0.Mem,A3:=x1.1,A9:=m.A0.A9,A7:=m.A0.A7,C3:=m.A0.C3,A2:=m.A0.A2,A1:=m.A0.A1,A4:=m.A0.A4,A6:=m.A0.A6},B3:=m.B3,C7:=m.C7,B0:=m.B0}))) T1) T1) T1;.br (e.C0==2) (.br (e.N==0) (.br (decide (e.C9=[])) (.lv (T0 m.A0.A9) λ(x0:iU×Bool)=>.lf (x0.2,{A0:={B1:=m.A0.B1,Mem:=m.A0.Mem,A3:=m.A0.A3,A9:=x0.1,A7:=m.A0.A7,C3:=m.A0.C3,A2:=m.A0.A2,A1:=m.A0.A1,A4:=m.A0.A4,A6:=m.A0.A6},B3:=m.B3,C7:=m.C7,B0:=m.B0})) T2) T2) T2)
def Yd m e:=(L1 m e).m
abbrev Qmx m e:=(L1 m e).p
def Z7j:bc:=mT 103 [true,false] true [.ptr 0,.agg gx.sig] [.box 154 52 (cw.kN (.row 1) (.row 2) (.row 3)),.arr 23 1 (.ints .u32),.arr 103 4 (.av .ab),.arr 72 3 (.av .bd)] (λa r=>L1 (cw.pZ (r.getD 0 default).cs (gj .u32 r 1) (jO .ab r 2) (jO .bd r 3)) (gx.of (aC a 1))) (λX=>.bool (X.1)) (λX=>[⟨true,154,52,.gen [(cw.ez (X.2) (.all 1) (.all 2) (.all 3))]⟩,⟨false,23,1,.ints .u32 (X.2).A0.Mem⟩,⟨false,103,4,.av .ab (X.2).C7⟩,⟨false,72,3,.av .bd (X.2).B0⟩])
theorem Z53:bj pG Z7j:=oT (.cons Qzp (.cons Qzb (.cons Qs6 (.cons Qrm (.nil))))) Tryz.func103 Tryz.call103 [.row 23 1 (.ints .u32),.row 103 4 (.av .ab),.row 72 3 (.av .bd)] [] 2
def L4(m:cw)(e:gx):Tree (Bool×cw):=
.an (Qmx m e) (.lv (Yd m e) λ(x0:Bool×cw)=>.lf (x0.1,x0.2))
def Ye m e:=(L4 m e).m
abbrev Qkd m e:=(L4 m e).p
def Z44:bc:=mT 303 [true,false] true [.ptr 0,.agg gx.sig] [.box 154 52 (cw.kN (.row 1) (.row 2) (.row 3)),.arr 23 1 (.ints .u32),.arr 103 4 (.av .ab),.arr 72 3 (.av .bd)] (λa r=>L4 (cw.pZ (r.getD 0 default).cs (gj .u32 r 1) (jO .ab r 2) (jO .bd r 3)) (gx.of (aC a 1))) (λX=>.bool (X.1)) (λX=>[⟨true,154,52,.gen [(cw.ez (X.2) (.all 1) (.all 2) (.all 3))]⟩,⟨false,23,1,.ints .u32 (X.2).A0.Mem⟩,⟨false,103,4,.av .ab (X.2).C7⟩,⟨false,72,3,.av .bd (X.2).B0⟩])
theorem Z05:bj pG Z44:=oT (.cons Z53 (.nil)) Tryz.func303 Tryz.call303 [.row 23 1 (.ints .u32),.row 103 4 (.av .ab),.row 72 3 (.av .bd)] [] 2
def L5(r:cw)(e:gx):Tree cw:=
.an (Qkd r e) (.lv (Ye r e) λ(x0:Bool×cw)=>.br x0.1 (.cn (decide (40*(x0.2.C7.length+1)<=140737488355328)) (.lf ({A0:=x0.2.A0,B3:=x0.2.B3,C7:=x0.2.C7++[{At:=x0.2.A0.A1,C8:=e}],B0:=x0.2.B0}))) (.lf x0.2))
def OT r e:=(L5 r e).m
abbrev Qgx r e:=(L5 r e).p
def Zc9:bc:=lW 1 264 [true,false] [.ptr 0,.agg gx.sig] [.box 154 52 (cw.kN (.row 1) (.row 2) (.row 3)),.arr 23 1 (.ints .u32),.arr 103 4 (.av .ab),.arr 72 3 (.av .bd)] (λa r=>Qgx (cw.pZ (r.getD 0 default).cs (gj .u32 r 1) (jO .ab r 2) (jO .bd r 3)) (gx.of (aC a 1))) (λa r=>OT (cw.pZ (r.getD 0 default).cs (gj .u32 r 1) (jO .ab r 2) (jO .bd r 3)) (gx.of (aC a 1))) (λX=>.dt []) (λX=>[⟨true,154,52,.gen [(cw.ez X (.all 1) (.all 2) (.all 3))]⟩,⟨false,23,1,.ints .u32 X.A0.Mem⟩,⟨false,103,4,.av .ab X.C7⟩,⟨false,72,3,.av .bd X.B0⟩])
theorem Z6z:bj pG Zc9:=Eu drawn mN (.cons Z05 (.nil)) Tryz.func264 Tryz.call264 (λa r=>L5 (cw.pZ (r.getD 0 default).cs (gj .u32 r 1) (jO .ab r 2) (jO .bd r 3)) (gx.of (aC a 1))) [.row 23 1 (.ints .u32),.row 103 4 (.av .ab),.row 72 3 (.av .bd)] [] 2 (λ_ _ _=>by kernel_rfl) (λ_ _=>rfl) (λ_ _ h=>h)
def Ry(is:Bool)(n:Int):Tree Int:=
.br is (.cn (decide (0<=wrap u64 n)) (.lf (eg u32 1 (wrap u64 n)))) (.lf 0)
def Ec is n:=(Ry is n).m
abbrev Sf is n:=(Ry is n).p
def Zkj:bc:=mT 292 [] true [.one (.bool),.one (.int .i64)] [] (λa r=>Ry (uT a 0) (aq a 1)) (λX=>.int .u32 X) (λX=>[])
theorem Zeb:bj pG Zkj:=oT (.nil) Tryz.func292 Tryz.call292 [] [] 2
def Qi6(t:iU):Tree Bool:=
.lf t.D3
def X3 t:=(Qi6 t).m
def Qsz:bc:=mS 293 [] true [.agg iU.sig] [] (λa r=>Qi6 (iU.of (aC a 0))) (λX=>.bool X) (λX=>[])
theorem Qqx:bj pG Qsz:=oS (.nil) Tryz.func293 Tryz.call293 [] [] 2
def Qej(c:iT):Tree Bool:=
.lf (decide ((c.D1.length:Int)>(0:Int)))
def TQ c:=(Qej c).m
def Qof:bc:=mS 294 [] true [.agg iT.sig] [] (λa r=>Qej (iT.of (aC a 0))) (λX=>.bool X) (λX=>[])
theorem Qnn:bj pG Qof:=oS (.nil) Tryz.func294 Tryz.call294 [] [] 2
def Qjp(d0:fp):Tree Bool:=
.br (d0.B7==2) (.lf true) (.lf (d0.B7==3))
def Qb d0:=(Qjp d0).m
def Qtq:bc:=mS 295 [] true [.agg fp.sig] [] (λa r=>Qjp (fp.of (aC a 0))) (λX=>.bool X) (λX=>[])
theorem Qsj:bj pG Qtq:=oS (.nil) Tryz.func295 Tryz.call295 [] [] 2
def Qko(n:ia):Tree Bool:=
.lf n.B5
def X4 n:=(Qko n).m
def Qwg:bc:=mS 296 [] true [.agg ia.sig] [] (λa r=>Qko (ia.of (aC a 0))) (λX=>.bool X) (λX=>[])
theorem Qti:bj pG Qwg:=oS (.nil) Tryz.func296 Tryz.call296 [] [] 2
def Qp2(b:gv)(z:(Int)×(Int)):Prop:=0<=z.2/\z.2<=32
def Qfh(b:gv)(z:(Int)×(Int)):Nat:=(32-z.2).toNat
def VR(b:gv):Tree Int:=
.lp inferInstance (Qfh b (0,0)+1) ((rZ/\rE (0:Int)/\rE (0:Int)/\True)/\(rE b.C6/\rE b.C2/\True)/\True) (0,0) λ(v0:Int×Int)=>.br (decide (v0.2<32)) (.cn (decide (0<=wrap u64 v0.2)) (.nx ((rZ/\rE ((wrap i64 (v0.1+wrap i64 (bf u32 (bg u32 b.C2 (wrap u64 v0.2)) 1))):Int)/\rE ((wrap i64 (v0.2+1)):Int)/\True)/\(rE b.C6/\rE b.C2/\True)/\True) (Sum.inl (wrap i64 (v0.1+wrap i64 (bf u32 (bg u32 b.C2 (wrap u64 v0.2)) 1)),wrap i64 (v0.2+1))))) (.lf (Sum.inr v0.1))
def LJ b:=(VR b).m
theorem Z6n(b:gv):(VR b).p:=by
 unfold Tree.p VR
 repeat'(first|refine fy (inv:=Qp2 b) (μ:=Qfh b) ?_ (cO _) (λ_ _=>?_)|exact trivial|refine aa (λ_=>?_) (λ_=>?_)|refine ba ?_ ?_|refine cz ?_ ?_|refine ar (λ_ _=>?_)|refine fg ?_|refine ey ?_|refine And.intro ?_ ?_)
 all_goals((try simp only[Qp2,Qfh]at*);exact oI)
def Zdc:bu:={
 α:=(Int)×(Int)
 F:=λst a=>([(1,.ptr 0 0 0),(3,.int i64 a.1),(4,.int i64 a.2)],[⟨true,39,2,.gen [[(cT st 1 0),(cT st 1 1)]]⟩])
 a0:=λst=>((lk st 3).toInt,(lk st 4).toInt)
 jn:=λst=>[]++[(rX st 1 0)]}
def Z48:List (Nat×bu):=[(3,Zdc)]
def Zh5:bc:=mS 282 [] true [.agg gv.sig] [] (λa r=>VR (gv.of (aC a 0))) (λX=>.int .i64 X) (λX=>[])
theorem Quv:bj pG Zh5:=oS (.nil) Tryz.func282 Tryz.call282 [] Z48 3 (λ_ _ _=>by kernel_rfl) (λa r=>Z6n (gv.of (aC a 0))) (λ_ X=>by kernel_rfl)
def XV(b:gv):Tree Bool:=
.lv (LJ b) λ(x0:Int)=>.lf (wrap u64 x0 !=wrap u64 b.C6)
def OL b:=(XV b).m
def Qp4:bc:=mS 297 [] true [.agg gv.sig] [] (λa r=>XV (gv.of (aC a 0))) (λX=>.bool X) (λX=>[])
theorem Qnl:bj pG Qp4:=oS (.cons Quv (.nil)) Tryz.func297 Tryz.call297 [] [] 2
def Rz(m:au):Tree Int:=
.lv (X3 m.A9) λ(x0:Bool)=>.an (Sf x0 0) (.lv (Ec x0 0) λ(x1:Int)=>.lv (TQ m.A3) λ(x2:Bool)=>.an (Sf x2 1) (.lv (Ec x2 1) λ(x3:Int)=>.lv (Qb m.A7) λ(x4:Bool)=>.an (Sf x4 2) (.lv (Ec x4 2) λ(x5:Int)=>.lv (X4 m.C3) λ(x6:Bool)=>.an (Sf x6 3) (.lv (Ec x6 3) λ(x7:Int)=>.lv (OL m.A2) λ(x8:Bool)=>.an (Sf x8 4) (.lv (Ec x8 4) λ(x9:Int)=>.lf (iq u32 (iq u32 (iq u32 (iq u32 x1 x3) x5) x7) x9))))))
def OO m:=(Rz m).m
abbrev Qrh m:=(Rz m).p
def Zid:bc:=mT 239 [] true [.agg au.sig] [] (λa r=>Rz (au.of (aC a 0))) (λX=>.int .u32 X) (λX=>[])
theorem Zc7:bj pG Zid:=oT (.cons Zeb (.cons Qqx (.cons Qnn (.cons Qsj (.cons Qti (.cons Qnl (.nil))))))) Tryz.func239 Tryz.call239 [] [] 2
def LU(m:au):Tree Int:=
.an (Qrh m) (.lv (OO m) λ(x0:Int)=>.lf (bf u32 x0 m.B1.B4.a7))
def Bn m:=(LU m).m
abbrev Qfd m:=(LU m).p
def Z5w:bc:=mT 167 [] true [.agg au.sig] [] (λa r=>LU (au.of (aC a 0))) (λX=>.int .u32 X) (λX=>[])
theorem Qo6:bj pG Z5w:=oT (.cons Zc7 (.nil)) Tryz.func167 Tryz.call167 [] [] 2
def LV(m:au):Tree Bool:=
.br m.A4 (.an (Qfd m) (.lv (Bn m) λ(x0:Int)=>.lf (x0==0))) (.lf false)
def tG m:=(LV m).m
abbrev Qln m:=(LV m).p
def Zkc:bc:=mT 104 [] true [.agg au.sig] [] (λa r=>LV (au.of (aC a 0))) (λX=>.bool X) (λX=>[])
theorem Qz9:bj pG Zkc:=oT (.cons Qo6 (.nil)) Tryz.func104 Tryz.call104 [] [] 2
def Ji(m:au):Tree Bool:=
.lv (pR m) λ(x0:Bool)=>.br (!x0) (.lf true) (.br m.A6 (.lf true) (.an (Qln m) (.lv (tG m) λ(x1:Bool)=>.br x1 (.lf true) (.lf (decide (m.A1>=1152921504606846976))))))
def nb m:=(Ji m).m
abbrev VI m:=(Ji m).p
def Zhj:bc:=mT 88 [] true [.agg au.sig] [] (λa r=>Ji (au.of (aC a 0))) (λX=>.bool X) (λX=>[])
theorem Quh:bj pG Zhj:=oT (.cons Qt2 (.cons Qz9 (.nil))) Tryz.func88 Tryz.call88 [] [] 2
end
noncomputable section
def Za0(b:Bool):Tree Int:=
.br b (.lf 1) (.lf 0)
def Cq b:=(Za0 b).m
def Zpb:bc:=mS 269 [] true [.one (.bool)] [] (λa r=>Za0 (uT a 0)) (λX=>.int .u32 X) (λX=>[])
theorem Qt1:bj pG Zpb:=oS (.nil) Tryz.func269 Tryz.call269 [] [] 2
def Ot(c:bh)(oJ bad:Int):Tree bh:=
.lv (Cq (bf u32 c.B4.a0 (1:Int) !=(0:Int))) λ(x0:Int)=>.lv (Cq (bf u32 c.B4.a0 (2:Int) !=(0:Int))) λ(x1:Int)=>.lf ({X:=c.X,Pc:=c.B4.a1,B4:={a0:=iq u32 (nQ u32 (iq u32 (iq u32 (nQ u32 c.B4.a0 24) (wrap u32 (8*x0))) (wrap u32 (16*x1))) 2) 1,a1:=c.B4.a1,a2:=c.Pc,a3:=wrap u32 oJ,a4:=bad,a5:=c.B4.a5,a6:=c.B4.a6,a7:=c.B4.a7}})
def pP c oJ bad:=(Ot c oJ bad).m
def Zk3:bc:=mS 208 [] true [.agg bh.sig,.one (.int .i64),.one (.int .u32)] [] (λa r=>Ot (bh.of (aC a 0)) (aq a 1) (aq a 2)) (λX=>.agg (bh.cells X)) (λX=>[])
theorem VS:bj pG Zk3:=oS (.cons Qt1 (.nil)) Tryz.func208 Tryz.call208 [] [] 2
def I9(m:List Int)(addr size:Int):Tree Bool:=
let T1:Tree (Bool):=.cn (decide (wrap u32 size≠0)) (.br (dE addr (wrap u32 size)==0) (.lv (wE m) λ(x0:Int)=>.lf (decide (addr<wrap u32 (wrap i64 (128*x0))))) (.lf false));.br (size !=1) (.br (size !=4) (.lf false) T1) T1
def rS m addr size:=(I9 m addr size).m
abbrev Qcq m addr size:=(I9 m addr size).p
def Zai:bc:=mT 240 [] true [.one (.ints .u32),.one (.int .u32),.one (.int .i64)] [] (λa r=>I9 (eh .u32 a 0) (aq a 1) (aq a 2)) (λX=>.bool X) (λX=>[])
theorem Qk3:bj pG Zai:=oT (.cons Sd (.nil)) Tryz.func240 Tryz.call240 [] [] 2
def AG(m:List Int)(addr size:Int):Tree (Int×Bool):=
.an (Qcq m addr size) (.lv (rS m addr size) λ(x0:Bool)=>.br (!x0) (.lf (0,false)) (.cn (bT 1 1&&bJ 0 1&&decide (0<=wrap u32 (eU addr 4)/\wrap u32 (eU addr 4)<(m.length:Int))) (.br (size==1) (.cn (decide (0<=wrap u32 (8*dE addr 4))) (.lf (bf u32 (bg u32 (m.getD (dF (wrap u32 (eU addr 4))) 0) (wrap u32 (8*dE addr 4))) 255,true))) (.lf (m.getD (dF (wrap u32 (eU addr 4))) 0,true)))))
def kK m addr size:=(AG m addr size).m
abbrev VT m addr size:=(AG m addr size).p
def Zkt:bc:=mT 168 [] true [.one (.ints .u32),.one (.int .u32),.one (.int .i64)] [] (λa r=>AG (eh .u32 a 0) (aq a 1) (aq a 2)) (λX=>.dt [.int .u32 (X.1),.bool (X.2)]) (λX=>[])
theorem Qox:bj pG Zkt:=oT (.cons Qk3 (.nil)) Tryz.func168 Tryz.call168 [] [] 2
def GU(w:Int):Tree (gu×Bool):=
.lv (oR (wrap i64 (bg u32 w 24))) λ(x0:Int)=>let E5:=({Op:=0,A:=0,B:=0,C:=0,bn:=0}:gu);.br (x0==0) (.lf (E5,false)) (.br (x0==2) (let E3:=({Op:=wrap i64 (bg u32 w 24),A:=wrap i64 (bf u32 (bg u32 w 20) 15),B:=wrap i64 (bf u32 (bg u32 w 16) 15),C:=wrap i64 (bf u32 w 65535),bn:=0}:gu);.lv (DT E3) λ(x1:Bool)=>.br (!x1) (.lf (E5,false)) (.lf (E3,true))) (let T1:Tree ((gu×Bool)):=let E2:=({Op:=wrap i64 (bg u32 w 24),A:=wrap i64 (bf u32 (bg u32 w 20) 15),B:=wrap i64 (bf u32 (bg u32 w 16) 15),C:=0,bn:=wrap i32 (wrap i16 (bf u32 w 65535))}:gu);.lv (DT E2) λ(x2:Bool)=>.br (!x2) (.lf (E5,false)) (.lf (E2,true));.br (x0==3) T1 (.br (x0==7) T1 (let E4:=({Op:=wrap i64 (bg u32 w 24),A:=wrap i64 (bf u32 (bg u32 w 20) 15),B:=wrap i64 (bf u32 (bg u32 w 16) 15),C:=0,bn:=wrap i32 (bf u32 w 65535)}:gu);.lv (DT E4) λ(x4:Bool)=>.br (!x4) (.lf (E5,false)) (.lf (E4,true))))))
def rl w:=(GU w).m
def Zcx:bc:=mS 169 [] true [.one (.int .u32)] [] (λa r=>GU (aq a 0)) (λX=>.dt [.agg (gu.cells (X.1)),.bool (X.2)]) (λX=>[])
theorem Qrk:bj pG Zcx:=oS (.cons RX (.cons Qva (.nil))) Tryz.func169 Tryz.call169 [] [] 2
def Qzk(access:Int):Tree Bool:=
.br (decide (access>=1)) (.lf (decide (access<=3))) (.lf false)
def Lw access:=(Qzk access).m
def Zh8:bc:=mS 270 [] true [.one (.int .i64)] [] (λa r=>Qzk (aq a 0)) (λX=>.bool X) (λX=>[])
theorem Qvd:bj pG Zh8:=oS (.nil) Tryz.func270 Tryz.call270 [] [] 2
def Qye(c:bh):Tree Bool:=
.lf (bf u32 c.B4.a0 (5:Int)==(4:Int))
def TC c:=(Qye c).m
def Zim:bc:=mS 271 [] true [.agg bh.sig] [] (λa r=>Qye (bh.of (aC a 0))) (λX=>.bool X) (λX=>[])
theorem Zb1:bj pG Zim:=oS (.nil) Tryz.func271 Tryz.call271 [] [] 2
def LG(access:Int):Tree Int:=
.br (access==1) (.lf 4) (.br (access==3) (.lf 6) (.lf 5))
def tE access:=(LG access).m
def Z6e:bc:=mS 272 [] true [.one (.int .i64)] [] (λa r=>LG (aq a 0)) (λX=>.int .i64 X) (λX=>[])
theorem Qp7:bj pG Z6e:=oS (.nil) Tryz.func272 Tryz.call272 [] [] 2
def GZ(m:List Int)(root va access:Int):Tree rJ:=
.lv (tE access) λ(x0:Int)=>.lv (wE m) λ(x1:Int)=>.lv (Lw access) λ(x2:Bool)=>let E4:=({Addr:=0,F3:=0,F0:=x0}:rJ);.br (!x2) (.lf (E4)) (.br (decide (va>=4096)) (.lf (E4)) (.br (decide (root>=wrap u32 x1)) (.lf (E4)) (let E6:=wrap u32 (root*128)+wrap u32 (4*wrap u32 (eU va 128));let E3:=eU (wrap u32 E6) 4;.cn (bT 1 1&&bJ 0 1&&decide (0<=wrap u32 E3/\wrap u32 E3<(m.length:Int))) (let E5:=m.getD (dF (wrap u32 E3)) 0;.br (bf u32 E5 (1:Int)==(0:Int)) (.lf (E4)) (let T1:Tree (rJ):=.br (decide (bf u32 (bg u32 E5 8) 255>=wrap u32 x1)) (.lf (E4)) (.lf ({Addr:=wrap u32 (wrap u32 (bf u32 (bg u32 E5 8) (255:Int)*(128:Int))+dE va 128),F3:=wrap u32 E6,F0:=0}));let T2:Tree (rJ):=.br (access==1) (.br (bf u32 E5 (4:Int)==(0:Int)) (.lf (E4)) T1) T1;.br (access==3) (.br (bf u32 E5 (2:Int)==(0:Int)) (.lf (E4)) T2) T2)))))
def AH m root va access:=(GZ m root va access).m
abbrev Qun m root va access:=(GZ m root va access).p
def Zla:bc:=mT 273 [] true [.one (.ints .u32),.one (.int .u32),.one (.int .u32),.one (.int .i64)] [] (λa r=>GZ (eh .u32 a 0) (aq a 1) (aq a 2) (aq a 3)) (λX=>.agg (rJ.cells X)) (λX=>[])
theorem Zhv:bj pG Zla:=oT (.cons Qp7 (.cons Sd (.cons Qvd (.nil)))) Tryz.func273 Tryz.call273 [] [] 2
def Lz(m:List Int)(entry access:Int):Tree (List Int):=
.an (Qcq m entry 4) (.lv (rS m entry 4) λ(x0:Bool)=>.br (!x0) (.lf m) (let E3:=bT 1 1&&bJ 0 1&&decide (0<=wrap u32 (eU entry 4)/\wrap u32 (eU entry 4)<(m.length:Int));.cn E3 (.cn E3 (let E4:=dF (wrap u32 (eU entry 4));let E1:=dG m E4 (iq u32 (m.getD E4 0) 8);.br (access==3) (let E2:=bT 1 1&&bJ 0 1&&decide (0<=wrap u32 (eU entry 4)/\wrap u32 (eU entry 4)<(↑(dK E1):Int));.cn E2 (.cn E2 (.lf (dG E1 E4 (iq u32 (aK E1 E4 0) 16))))) (.lf E1)))))
def TA m entry access:=(Lz m entry access).m
abbrev Quc m entry access:=(Lz m entry access).p
def Zle:bc:=mT 274 [true,false,false] true [.one (.row 0),.one (.int .u32),.one (.int .i64)] [.arr 23 1 (.ints .u32)] (λa r=>Lz (gj .u32 r 0) (aq a 1) (aq a 2)) (λX=>.dt []) (λX=>[⟨false,23,1,.ints .u32 X⟩])
theorem Zev:bj pG Zle:=oT (.cons Qk3 (.nil)) Tryz.func274 Tryz.call274 [] [] 2
def G1(c:bh)(m:List Int)(va size access:Int):Tree (Int×Int×(List Int)):=
.lv (Lw access) λ(x0:Bool)=>.br (!x0) (.lf (0,5,m)) (let T1:Tree ((Int×Int×(List Int))):=.cn (decide (wrap u32 size≠0)) (.br (dE va (wrap u32 size) !=0) (.lf (0,3,m)) (.lv (TC c) λ(x1:Bool)=>.br (!x1) (.an (Qcq m va size) (.lv (rS m va size) λ(x2:Bool)=>.br (!x2) (.lv (tE access) λ(x3:Int)=>.lf (0,x3,m)) (.lf (va,0,m)))) (.an (Qun m c.B4.a6 va access) (.lv (AH m c.B4.a6 va access) λ(x4:rJ)=>.br (x4.F0 !=0) (.lf (0,x4.F0,m)) (.an (Quc m x4.F3 access) (.lv (TA m x4.F3 access) λ(x5:List Int)=>.lf (x4.Addr,0,x5)))))));.br (size !=1) (.br (size !=4) (.lf (0,5,m)) T1) T1)
def lF c m va size access:=(G1 c m va size access).m
abbrev Sg c m va size access:=(G1 c m va size access).p
def Zgz:bc:=mT 209 [false,true,false,false,false] true [.agg bh.sig,.one (.row 0),.one (.int .u32),.one (.int .i64),.one (.int .i64)] [.arr 23 1 (.ints .u32)] (λa r=>G1 (bh.of (aC a 0)) (gj .u32 r 0) (aq a 2) (aq a 3) (aq a 4)) (λX=>.dt [.int .u32 (X.1),.int .i64 (X.2.1)]) (λX=>[⟨false,23,1,.ints .u32 (X.2.2)⟩])
theorem Qut:bj pG Zgz:=oT (.cons Qvd (.cons Zb1 (.cons Qk3 (.cons Qp7 (.cons Zhv (.cons Zev (.nil))))))) Tryz.func209 Tryz.call209 [] [] 2
def Qkf(op:Int):Tree Bool:=
.br (decide (op>=57)) (.lf (decide (op<=64))) (.lf false)
def GR op:=(Qkf op).m
def Qwy:bc:=mS 210 [] true [.one (.int .i64)] [] (λa r=>Qkf (aq a 0)) (λX=>.bool X) (λX=>[])
theorem Qtx:bj pG Qwy:=oS (.nil) Tryz.func210 Tryz.call210 [] [] 2
def Ov(c:bh):Tree bh:=
.lv (Cq (bf u32 c.B4.a0 (8:Int) !=(0:Int))) λ(x0:Int)=>.lv (Cq (bf u32 c.B4.a0 (16:Int) !=(0:Int))) λ(x1:Int)=>.lf ({X:=c.X,Pc:=c.B4.a2,B4:={a0:=iq u32 (iq u32 (nQ u32 c.B4.a0 3) (wrap u32 (1*x0))) (wrap u32 (2*x1)),a1:=c.B4.a1,a2:=c.B4.a2,a3:=c.B4.a3,a4:=c.B4.a4,a5:=c.B4.a5,a6:=c.B4.a6,a7:=c.B4.a7}})
def TB c:=(Ov c).m
def Zd1:bc:=mS 275 [] true [.agg bh.sig] [] (λa r=>Ov (bh.of (aC a 0))) (λX=>.agg (bh.cells X)) (λX=>[])
theorem Z5x:bj pG Zd1:=oS (.cons Qt1 (.nil)) Tryz.func275 Tryz.call275 [] [] 2
def Jb(c:bh)(r v:Int):Tree bh:=
.br (decide (r>0)) (.br (decide (r<16)) (.cn (bJ 0 1&&decide (0<=r/\r<(↑16:Int))) (.lf ({X:=iS.of 0 (dG (iS.l c.X) r.toNat v),Pc:=c.Pc,B4:=c.B4}))) (.lf c)) (.lf c)
def lD c r v:=(Jb c r v).m
abbrev BC c r v:=(Jb c r v).p
def Zpm:bc:=mT 145 [] true [.agg bh.sig,.one (.int .i64),.one (.int .u32)] [] (λa r=>Jb (bh.of (aC a 0)) (aq a 1) (aq a 2)) (λX=>.agg (bh.cells X)) (λX=>[])
theorem MU:bj pG Zpm:=oT (.nil) Tryz.func145 Tryz.call145 [] [] 2
def LH(c:bh)(jo v:Int):Tree bh:=
let E4:=bJ 0 1&&decide (0<=jo/\jo<(↑8:Int));let T2:Tree (bh):=.cn E4 (.lf ({X:=c.X,Pc:=c.Pc,B4:=A8.of 0 (dG (A8.l c.B4) jo.toNat (bf u32 v 31))}));.br (jo==0) T2 (.br (jo==7) T2 (.br (jo==6) (.cn E4 (.lf ({X:=c.X,Pc:=c.Pc,B4:=A8.of 0 (dG (A8.l c.B4) jo.toNat (bf u32 v 255))}))) (let T3:Tree (bh):=.cn E4 (.lf ({X:=c.X,Pc:=c.Pc,B4:=A8.of 0 (dG (A8.l c.B4) jo.toNat (nQ u32 v 3))}));.br (jo==1) T3 (.br (jo==2) T3 (let T1:Tree (bh):=.cn E4 (.lf ({X:=c.X,Pc:=c.Pc,B4:=A8.of 0 (dG (A8.l c.B4) jo.toNat v)}));.br (jo==3) T1 (.br (jo==4) T1 (.br (jo==5) T1 (.lf c))))))))
def Oz c jo v:=(LH c jo v).m
abbrev Qr9 c jo v:=(LH c jo v).p
def Zfu:bc:=mT 276 [] true [.agg bh.sig,.one (.int .i64),.one (.int .u32)] [] (λa r=>LH (bh.of (aC a 0)) (aq a 1) (aq a 2)) (λX=>.agg (bh.cells X)) (λX=>[])
theorem Zbl:bj pG Zfu:=oT (.nil) Tryz.func276 Tryz.call276 [] [] 2
def Jn(c:bh)(i:gu):Tree (bh×kI):=
.br (i.Op==56) (.lv (pP c 7 0) λ(x0:bh)=>.lf (x0,{C0:=0,D0:=0,D9:=0,Value:=0})) (.br (i.Op==57) (.lv (TB c) λ(x1:bh)=>.lf (x1,{C0:=0,D0:=0,D9:=0,Value:=0})) (.br (i.Op==58) (.cn (bJ 0 1&&decide (0<=i.bn/\i.bn<(↑8:Int))) (let E3:=aK (A8.l c.B4) i.bn.toNat 0;.an (BC c i.A E3) (.lv (lD c i.A E3) λ(x2:bh)=>.lf ({X:=x2.X,Pc:=wrap u32 (x2.Pc+4),B4:=x2.B4},{C0:=0,D0:=0,D9:=0,Value:=0})))) (let E2:=bJ 0 1&&decide (0<=i.A/\i.A<(↑16:Int));.br (i.Op==59) (.cn E2 (let E4:=aK (iS.l c.X) i.A.toNat 0;.an (Qr9 c (wrap i64 i.bn) E4) (.lv (Oz c (wrap i64 i.bn) E4) λ(x3:bh)=>.lf ({X:=x3.X,Pc:=wrap u32 (x3.Pc+4),B4:=x3.B4},{C0:=0,D0:=0,D9:=0,Value:=0})))) (let E1:=({X:=c.X,Pc:=wrap u32 (c.Pc+4),B4:=c.B4}:bh);.br (i.Op==60) (.lf (E1,{C0:=1,D0:=wrap i64 i.bn,D9:=i.A,Value:=0})) (.br (i.Op==61) (.cn E2 (.lf (E1,{C0:=2,D0:=wrap i64 i.bn,D9:=0,Value:=aK (iS.l c.X) i.A.toNat 0}))) (.br (i.Op==62) (.lf (E1,{C0:=3,D0:=0,D9:=0,Value:=0})) (.br (i.Op==63) (.lf (E1,{C0:=5,D0:=0,D9:=0,Value:=0})) (.br (i.Op==64) (.lf (E1,{C0:=4,D0:=0,D9:=0,Value:=0})) (.lf (E1,{C0:=0,D0:=0,D9:=0,Value:=0}))))))))))
def TF c i:=(Jn c i).m
abbrev Qpo c i:=(Jn c i).p
def Zbb:bc:=mT 211 [] true [.agg bh.sig,.agg gu.sig] [] (λa r=>Jn (bh.of (aC a 0)) (gu.of (aC a 1))) (λX=>.dt [.agg (bh.cells (X.1)),.agg (kI.cells (X.2))]) (λX=>[])
theorem Z7i:bj pG Zbb:=oT (.cons VS (.cons Z5x (.cons MU (.cons Zbl (.nil))))) Tryz.func211 Tryz.call211 [] [] 2
def Qza(op a b:Int):Tree Bool:=
.br (op==40) (.lf (a==b)) (.br (op==41) (.lf (a !=b)) (.br (op==42) (.lf (decide (wrap i32 a<wrap i32 b))) (.br (op==43) (.lf (decide (wrap i32 a>=wrap i32 b))) (.br (op==44) (.lf (decide (a<b))) (.lf (decide (a>=b)))))))
def rm op a b:=(Qza op a b).m
def Zhc:bc:=mS 277 [] true [.one (.int .i64),.one (.int .u32),.one (.int .u32)] [] (λa r=>Qza (aq a 0) (aq a 1) (aq a 2)) (λX=>.bool X) (λX=>[])
theorem Zc1:bj pG Zhc:=oS (.nil) Tryz.func277 Tryz.call277 [] [] 2
def Ru(c:bh)(i:gu):Tree bh:=
.br (i.Op==48) (.an (BC c i.A (wrap u32 (c.Pc+4))) (.lv (lD c i.A (wrap u32 (c.Pc+4))) λ(x0:bh)=>.lf ({X:=x0.X,Pc:=wrap u32 (c.Pc+wrap u32 (4*wrap u32 i.bn)),B4:=x0.B4}))) (let E1:=bJ 0 1&&decide (0<=i.B/\i.B<(↑16:Int));.br (i.Op==49) (.cn E1 (.an (BC c i.A (wrap u32 (c.Pc+4))) (.lv (lD c i.A (wrap u32 (c.Pc+4))) λ(x1:bh)=>.lf ({X:=x1.X,Pc:=wrap u32 (aK (iS.l c.X) i.B.toNat 0+wrap u32 i.bn),B4:=x1.B4})))) (.cn (bJ 0 1&&decide (0<=i.A/\i.A<(↑16:Int))) (.cn E1 (.lv (rm i.Op (aK (iS.l c.X) i.A.toNat 0) (aK (iS.l c.X) i.B.toNat 0)) λ(x2:Bool)=>.br x2 (.lf ({X:=c.X,Pc:=wrap u32 (c.Pc+wrap u32 (4*wrap u32 i.bn)),B4:=c.B4})) (.lf ({X:=c.X,Pc:=wrap u32 (c.Pc+4),B4:=c.B4}))))))
def Z4t c i:=(Ru c i).m
abbrev Qu8 c i:=(Ru c i).p
def Zir:bc:=mT 212 [] true [.agg bh.sig,.agg gu.sig] [] (λa r=>Ru (bh.of (aC a 0)) (gu.of (aC a 1))) (λX=>.agg (bh.cells X)) (λX=>[])
theorem Ze6:bj pG Zir:=oT (.cons MU (.cons Zc1 (.nil))) Tryz.func212 Tryz.call212 [] [] 2
def Rt(x n:Int):Tree Int:=
.br (decide (n<1)) (.lf 0) (.br (decide (n>=32)) (.lf x) (.cn (decide (0<=wrap u64 n)) (.cn (decide (0<=wrap u64 (wrap i64 (n-1)))) (let E1:=bf u32 x (wrap u32 (eg u32 1 (wrap u64 n)-1));.br (bg u32 E1 (wrap u64 (wrap i64 (n-1)))==1) (.cn (decide (0<=wrap u64 n)) (.lf (iq u32 E1 (eg u32 4294967295 (wrap u64 n))))) (.lf E1)))))
def GS x n:=(Rt x n).m
abbrev Qb6 x n:=(Rt x n).p
def Qxz:bc:=mT 279 [] true [.one (.int .u32),.one (.int .i64)] [] (λa r=>Rt (aq a 0) (aq a 1)) (λX=>.int .u32 X) (λX=>[])
theorem Qvu:bj pG Qxz:=oT (.nil) Tryz.func279 Tryz.call279 [] [] 2
def Rv(c:bh)(m:List Int)(i:gu):Tree (bh×(List Int)):=
.cn (bJ 0 1&&decide (0<=i.B/\i.B<(↑16:Int))) (let E4:=wrap u32 (aK (iS.l c.X) i.B.toNat 0+wrap u32 i.bn);let E5:=aK (iS.l c.X) i.A.toNat 0;let E6:=bJ 0 1&&decide (0<=i.A/\i.A<(↑16:Int));let E7:=({X:=c.X,Pc:=wrap u32 (c.Pc+4),B4:=c.B4}:bh);let T1:Tree ((bh×(List Int))):=let T3:Tree ((bh×(List Int))):=.an (Sg c m E4 4 3) (.lv (lF c m E4 4 3) λ(x0:Int×Int×List Int)=>.br (x0.2.1 !=0) (.lv (pP c x0.2.1 E4) λ(x1:bh)=>.lf (x1,x0.2.2)) (.cn E6 (.an (Tu x0.2.2 x0.1 4 E5) (.lv (Bl x0.2.2 x0.1 4 E5) λ(x2:List Int)=>.lf (E7,x2)))));.br (i.Op==35) T3 (.br (i.Op==36) T3 (.an (Sg c m E4 4 2) (.lv (lF c m E4 4 2) λ(x6:Int×Int×List Int)=>.br (x6.2.1 !=0) (.lv (pP c x6.2.1 E4) λ(x7:bh)=>.lf (x7,x6.2.2)) (.an (VT x6.2.2 x6.1 4) (.lv (kK x6.2.2 x6.1 4) λ(x8:Int×Bool)=>.br (i.Op==33) (.an (Qb6 x8.1 8) (.lv (GS x8.1 8) λ(x9:Int)=>.an (BC c i.A x9) (.lv (lD c i.A x9) λ(jM:bh)=>.lf ({X:=jM.X,Pc:=wrap u32 (jM.Pc+4),B4:=jM.B4},x6.2.2)))) (.an (BC c i.A x8.1) (.lv (lD c i.A x8.1) λ(mr:bh)=>.lf ({X:=mr.X,Pc:=wrap u32 (mr.Pc+4),B4:=mr.B4},x6.2.2))))))));.br (i.Op==32) T1 (.br (i.Op==35) T1 (let T2:Tree ((bh×(List Int))):=.an (Sg c m E4 1 3) (.lv (lF c m E4 1 3) λ(EA:Int×Int×List Int)=>.br (EA.2.1 !=0) (.lv (pP c EA.2.1 E4) λ(x25:bh)=>.lf (x25,EA.2.2)) (.cn E6 (.an (Tu EA.2.2 EA.1 1 E5) (.lv (Bl EA.2.2 EA.1 1 E5) λ(x26:List Int)=>.lf (E7,x26)))));.br (i.Op==35) T2 (.br (i.Op==36) T2 (.an (Sg c m E4 1 2) (.lv (lF c m E4 1 2) λ(Gb:Int×Int×List Int)=>.br (Gb.2.1 !=0) (.lv (pP c Gb.2.1 E4) λ(x31:bh)=>.lf (x31,Gb.2.2)) (.an (VT Gb.2.2 Gb.1 1) (.lv (kK Gb.2.2 Gb.1 1) λ(VU:Int×Bool)=>.br (i.Op==33) (.an (Qb6 VU.1 8) (.lv (GS VU.1 8) λ(x33:Int)=>.an (BC c i.A x33) (.lv (lD c i.A x33) λ(x34:bh)=>.lf ({X:=x34.X,Pc:=wrap u32 (x34.Pc+4),B4:=x34.B4},Gb.2.2)))) (.an (BC c i.A VU.1) (.lv (lD c i.A VU.1) λ(x35:bh)=>.lf ({X:=x35.X,Pc:=wrap u32 (x35.Pc+4),B4:=x35.B4},Gb.2.2)))))))))))
def G2 c m i:=(Rv c m i).m
abbrev Qkz c m i:=(Rv c m i).p
def Z5j:bc:=mT 213 [false,true,false] true [.agg bh.sig,.one (.row 0),.agg gu.sig] [.arr 23 1 (.ints .u32)] (λa r=>Rv (bh.of (aC a 0)) (gj .u32 r 0) (gu.of (aC a 2))) (λX=>.agg (bh.cells (X.1))) (λX=>[⟨false,23,1,.ints .u32 (X.2)⟩])
theorem Z0u:bj pG Z5j:=oT (.cons Qut (.cons VS (.cons Z38 (.cons Qox (.cons Qvu (.cons MU (.nil))))))) Tryz.func213 Tryz.call213 [] [] 2
def Qz2(op:Int):Tree Int:=
.br (op==16) (.lf 1) (.br (op==17) (.lf 3) (.br (op==18) (.lf 4) (.br (op==19) (.lf 5) (.br (op==20) (.lf 6) (.br (op==21) (.lf 7) (.br (op==22) (.lf 8) (.br (op==23) (.lf 12) (.lf op))))))))
def Za7 op:=(Qz2 op).m
def Zez:bc:=mS 280 [] true [.one (.int .i64)] [] (λa r=>Qz2 (aq a 0)) (λX=>.int .i64 X) (λX=>[])
theorem Zbx:bj pG Zez:=oS (.nil) Tryz.func280 Tryz.call280 [] [] 2
def LD(a b:Int):Tree (Int×Int):=
.br (b==0) (.lf (4294967295,a)) (.cn (decide (wrap i64 (wrap i32 b)≠0)) (.cn (decide (wrap i64 (wrap i32 b)≠0)) (.lf (wrap u32 (wrap i64 (eU (wrap i64 (wrap i32 a)) (wrap i64 (wrap i32 b)))),wrap u32 (dE (wrap i64 (wrap i32 a)) (wrap i64 (wrap i32 b)))))))
def LB a b:=(LD a b).m
abbrev Qhm a b:=(LD a b).p
def Zd5:bc:=mT 281 [] true [.one (.int .u32),.one (.int .u32)] [] (λa r=>LD (aq a 0) (aq a 1)) (λX=>.dt [.int .u32 (X.1),.int .u32 (X.2)]) (λX=>[])
theorem Z6c:bj pG Zd5:=oT (.nil) Tryz.func281 Tryz.call281 [] [] 2
def Rs(op a b:Int):Tree (Int×Bool):=
.lv (Za7 op) λ(x0:Int)=>.br (x0==1) (.lf (wrap u32 (a+b),true)) (.br (x0==2) (.lf (wrap u32 (a-b),true)) (.br (x0==3) (.lf (bf u32 a b,true)) (.br (x0==4) (.lf (iq u32 a b,true)) (.br (x0==5) (.lf (jN u32 a b,true)) (.br (x0==6) (.lf (eg u32 a (bf u32 b 31),true)) (.br (x0==7) (.lf (bg u32 a (bf u32 b 31),true)) (.br (x0==8) (.lf (wrap u32 (bg i32 (wrap i32 a) (bf u32 b 31)),true)) (.br (x0==9) (.lf (wrap u32 (a*b),true)) (.br (x0==10) (.an (Qhm a b) (.lv (LB a b) λ(x1:Int×Int)=>.lf (x1.1,true))) (.br (x0==11) (.an (Qhm a b) (.lv (LB a b) λ(x2:Int×Int)=>.lf (x2.2,true))) (.br (x0==12) (.lv (Cq (decide (wrap i32 a<wrap i32 b))) λ(x3:Int)=>.lf (x3,true)) (.br (x0==13) (.lv (Cq (decide (a<b))) λ(x4:Int)=>.lf (x4,true)) (.lf (0,false))))))))))))))
def DZ op a b:=(Rs op a b).m
abbrev Qnx op a b:=(Rs op a b).p
def Zo7:bc:=mT 214 [] true [.one (.int .i64),.one (.int .u32),.one (.int .u32)] [] (λa r=>Rs (aq a 0) (aq a 1) (aq a 2)) (λX=>.dt [.int .u32 (X.1),.bool (X.2)]) (λX=>[])
theorem Zlh:bj pG Zo7:=oT (.cons Zbx (.cons Z6c (.cons Qt1 (.nil)))) Tryz.func214 Tryz.call214 [] [] 2
def Rw(c:bh)(m:List Int):Tree (bh×kI×(List Int)):=
.an (Sg c m c.Pc 4 1) (.lv (lF c m c.Pc 4 1) λ(x0:Int×Int×List Int)=>.br (x0.2.1 !=0) (.lv (pP c x0.2.1 c.Pc) λ(x1:bh)=>.lf (x1,{C0:=0,D0:=0,D9:=0,Value:=0},x0.2.2)) (.an (VT x0.2.2 x0.1 4) (.lv (kK x0.2.2 x0.1 4) λ(x2:Int×Bool)=>.lv (rl x2.1) λ(x3:gu×Bool)=>.br (!x3.2) (.lv (pP c 1 x2.1) λ(x4:bh)=>.lf (x4,{C0:=0,D0:=0,D9:=0,Value:=0},x0.2.2)) (.lv (GR x3.1.Op) λ(x5:Bool)=>let T1:Tree ((bh×kI×(List Int))):=.br (decide (x3.1.Op>=56)) (.an (Qpo c x3.1) (.lv (TF c x3.1) λ(x7:bh×kI)=>.lf (x7.1,x7.2,x0.2.2))) (.br (decide (x3.1.Op>=40)) (.an (Qu8 c x3.1) (.lv (Z4t c x3.1) λ(x8:bh)=>.lf (x8,{C0:=0,D0:=0,D9:=0,Value:=0},x0.2.2))) (.br (decide (x3.1.Op>=32)) (.an (Qkz c x0.2.2 x3.1) (.lv (G2 c x0.2.2 x3.1) λ(x9:bh×List Int)=>.lf (x9.1,{C0:=0,D0:=0,D9:=0,Value:=0},x9.2))) (.br (x3.1.Op==24) (.an (BC c x3.1.A (eg u32 (wrap u32 x3.1.bn) 16)) (.lv (lD c x3.1.A (eg u32 (wrap u32 x3.1.bn) 16)) λ(jM:bh)=>.lf ({X:=jM.X,Pc:=wrap u32 (jM.Pc+4),B4:=jM.B4},{C0:=0,D0:=0,D9:=0,Value:=0},x0.2.2))) (let E2:=aK (iS.l c.X) x3.1.B.toNat 0;let E3:=bJ 0 1&&decide (0<=x3.1.B/\x3.1.B<(↑16:Int));.br (decide (x3.1.Op<=13)) (.cn (bJ 0 1&&decide (0<=x3.1.C/\x3.1.C<(↑16:Int))) (.cn E3 (let E4:=aK (iS.l c.X) x3.1.C.toNat 0;.an (Qnx x3.1.Op E2 E4) (.lv (DZ x3.1.Op E2 E4) λ(mr:Int×Bool)=>.an (BC c x3.1.A mr.1) (.lv (lD c x3.1.A mr.1) λ(kS:bh)=>.lf ({X:=kS.X,Pc:=wrap u32 (kS.Pc+4),B4:=kS.B4},{C0:=0,D0:=0,D9:=0,Value:=0},x0.2.2)))))) (.cn E3 (.an (Qnx x3.1.Op E2 (wrap u32 x3.1.bn)) (.lv (DZ x3.1.Op E2 (wrap u32 x3.1.bn)) λ(lU:Int×Bool)=>.an (BC c x3.1.A lU.1) (.lv (lD c x3.1.A lU.1) λ(uz:bh)=>.lf ({X:=uz.X,Pc:=wrap u32 (uz.Pc+4),B4:=uz.B4},{C0:=0,D0:=0,D9:=0,Value:=0},x0.2.2)))))))));.br x5 (.br (bf u32 c.B4.a0 (1:Int)==(0:Int)) (.lv (pP c 2 x2.1) λ(x6:bh)=>.lf (x6,{C0:=0,D0:=0,D9:=0,Value:=0},x0.2.2)) T1) T1))))
def pQ c m:=(Rw c m).m
abbrev Qsi c m:=(Rw c m).p
def qE:bc:=mT 143 [false,true] true [.agg bh.sig,.one (.row 0)] [.arr 23 1 (.ints .u32)] (λa r=>Rw (bh.of (aC a 0)) (gj .u32 r 0)) (λX=>.dt [.agg (bh.cells (X.1)),.agg (kI.cells (X.2.1))]) (λX=>[⟨false,23,1,.ints .u32 (X.2.2)⟩])
theorem Z9i:bj pG qE:=oT (.cons Qut (.cons VS (.cons Qox (.cons Qrk (.cons Qtx (.cons Z7i (.cons Ze6 (.cons Z0u (.cons MU (.cons Zlh (.nil))))))))))) Tryz.func143 Tryz.call143 [] [] 2
end
noncomputable section
def S4(steps:Int):Tree Int:=
.lf (if 4000<if 0>steps then 0 else steps then 4000 else if 0>steps then 0 else steps)
def pO steps:=(S4 steps).m
def Z3g:bc:=mS 265 [] true [.one (.int .i64)] [] (λa r=>S4 (aq a 0)) (λX=>.int .i64 X) (λX=>[])
theorem Z0v:bj pG Z3g:=oS (.nil) Tryz.func265 Tryz.call265 [] [] 2
def Z98(t:iU)(now:Int):Tree Bool:=
.br t.D4 (.lf (decide (now>=t.C4))) (.lf false)
def Jl t now:=(Z98 t now).m
def Zod:bc:=mS 266 [] true [.agg iU.sig,.one (.int .u32)] [] (λa r=>Z98 (iU.of (aC a 0)) (aq a 1)) (λX=>.bool X) (λX=>[])
theorem Zjo:bj pG Zod:=oS (.nil) Tryz.func266 Tryz.call266 [] [] 2
def Qd6(m:au)(z:(Int)):Nat:=(32-z).toNat
def LW(m:au):Tree bh:=
.an (Qfd m) (.lv (Bn m) λ(x0:Int)=>.br (bf u32 m.B1.B4.a0 (2:Int)==(0:Int)) (.lf m.B1) (.br (x0==0) (.lf m.B1) (.lp inferInstance (Qd6 m 0+1) ((rZ/\rZ/\rE (x0:Int)/\rE (0:Int)/\True)/\(mE m (((ao.Nil (ao.ints u32 m.Mem)\/rE (1:Nat))/\rE m.Mem)) True)/\(rE (0:Int)/\rE (0:Int)/\rE (0:Int)/\rE (0:Int)/\rE (0:Int)/\rE (0:Int)/\rE (0:Int)/\rE (0:Int)/\rE (0:Int)/\rE (0:Int)/\rE (0:Int)/\rE (0:Int)/\rE (0:Int)/\rE (0:Int)/\rE (0:Int)/\rE (0:Int)/\rE (0:Int)/\rE (0:Int)/\rE (0:Int)/\rE (0:Int)/\rE (0:Int)/\rE (0:Int)/\rE (0:Int)/\rE (0:Int)/\rE (0:Int)/\True)/\True) 0 λ(v0:Int)=>.cn (decide (0<=wrap u64 v0)) (.br (bf u32 (bg u32 x0 (wrap u64 v0)) (1:Int)==(0:Int)) (.nx ((rZ/\rZ/\rE (x0:Int)/\rE ((wrap i64 (v0+1)):Int)/\True)/\(mE m (((ao.Nil (ao.ints u32 m.Mem)\/rE (1:Nat))/\rE m.Mem)) True)/\(rE (0:Int)/\rE (0:Int)/\rE (0:Int)/\rE (0:Int)/\rE (0:Int)/\rE (0:Int)/\rE (0:Int)/\rE (0:Int)/\rE (0:Int)/\rE (0:Int)/\rE (0:Int)/\rE (0:Int)/\rE (0:Int)/\rE (0:Int)/\rE (0:Int)/\rE (0:Int)/\rE (0:Int)/\rE (0:Int)/\rE (0:Int)/\rE (0:Int)/\rE (0:Int)/\rE (0:Int)/\rE (0:Int)/\rE (0:Int)/\rE (0:Int)/\True)/\True) (Sum.inl (wrap i64 (v0+1)))) (.lv (pP m.B1 (wrap i64 (16+v0)) 0) λ(x1:bh)=>.lf (Sum.inr x1))))))
def lT m:=(LW m).m
abbrev Q6j m:=(LW m).p
def Qt5:bu:={
 α:=(Int)
 F:=λst a=>([(1,.ptr 0 0 0),(2,.ptr 1 0 0),(3,(lk st 3)),(4,.int i64 a)],[⟨true,42,49,.gen [mB (cT st 1)]⟩,⟨true,28,25,.gen [[(cT st 2 0),(cT st 2 1),(cT st 2 2),(cT st 2 3),(cT st 2 4),(cT st 2 5),(cT st 2 6),(cT st 2 7),(cT st 2 8),(cT st 2 9),(cT st 2 10),(cT st 2 11),(cT st 2 12),(cT st 2 13),(cT st 2 14),(cT st 2 15),(cT st 2 16),(cT st 2 17),(cT st 2 18),(cT st 2 19),(cT st 2 20),(cT st 2 21),(cT st 2 22),(cT st 2 23),(cT st 2 24)]]⟩])
 a0:=λst=>(lk st 4).toInt
 jn:=λst=>[]++[(rX st 1 0),(rX st 2 1)]}
def Qny:List (Nat×bu):=[(5,Qt5)]
def Quj:bc:=mT 142 [] true [.agg au.sig] [] (λa r=>LW (au.of (aC a 0))) (λX=>.agg (bh.cells X)) (λX=>[])
theorem Qb4:bj pG Quj:=oT (.cons Qo6 (.cons VS (.nil))) Tryz.func142 Tryz.call142 [] Qny 3
def Qf(m:au):Tree Bool:=
.an (Q6j m) (.lv (lT m) λ(x0:bh)=>.br (bf u32 x0.B4.a0 (1:Int)==(0:Int)) (.lf false) (.an (VT m.Mem x0.Pc 4) (.lv (kK m.Mem x0.Pc 4) λ(x1:Int×Bool)=>.lv (rl x1.1) λ(x2:gu×Bool)=>.br x1.2 (.br x2.2 (.br (x2.1.Op==60) (.lf (x2.1.bn==2)) (.lf false)) (.lf false)) (.lf false))))
def pS m:=(Qf m).m
abbrev Qk0 m:=(Qf m).p
def Zia:bc:=mT 105 [] true [.agg au.sig] [] (λa r=>Qf (au.of (aC a 0))) (λX=>.bool X) (λX=>[])
theorem Qvn:bj pG Zia:=oT (.cons Qb4 (.cons Qox (.cons Qrk (.nil)))) Tryz.func105 Tryz.call105 [] [] 2
def RA(m:au):Tree Bool:=
.an (VI m) (.lv (nb m) λ(x0:Bool)=>.br x0 (.lf false) (.an (Qk0 m) (.lv (pS m) λ(x1:Bool)=>.lf x1)))
def Hd m:=(RA m).m
abbrev Qb7 m:=(RA m).p
def Qxa:bc:=mT 267 [] true [.agg au.sig] [] (λa r=>RA (au.of (aC a 0))) (λX=>.bool X) (λX=>[])
theorem Qv:bj pG Qxa:=oT (.cons Quh (.cons Qvn (.nil))) Tryz.func267 Tryz.call267 [] [] 2
def G5(c:iT)(port:Int):Tree (iT×Int):=
let T1:Tree ((iT×Int)):=.br (port==0) (.cn (decide ((0:Int)<=(1:Int)/\1<=(c.D1.length:Int)/\(c.D1.length:Int)<=(c.D1.length:Int))) (.cn (decide ((0:Int)<=(0:Int)/\0<(c.D1.length:Int))) (.lf ({D1:=dB (dF (c.D1.length:Int)-dF 1) (dC (dF 1) c.D1)},wrap u32 (↑(eW (c.D1.getD (dF 0) (0:UInt8))):Int))))) (.br (port==1) (.lf (c,wrap u32 (c.D1.length:Int))) (.lf (c,0)));.br (port==0) (.br ((c.D1.length:Int)==(0:Int)) (.lf (c,4294967295)) T1) T1
def Jd c port:=(G5 c port).m
theorem Qvz(c:iT)(port:Int):(G5 c port).p:=by
 unfold Tree.p G5
 repeat'(first|exact trivial|refine aa (λ_=>?_) (λ_=>?_)|refine ba ?_ ?_|refine cz ?_ ?_|refine ar (λ_ _=>?_)|refine fg ?_|refine ey ?_|refine And.intro ?_ ?_)
 all_goals(exact oI)
def Z0x:bc:=mS 215 [] true [.agg iT.sig,.one (.int .i64)] [] (λa r=>G5 (iT.of (aC a 0)) (aq a 1)) (λX=>.dt [.agg (iT.cells (X.1)),.int .u32 (X.2)]) (λX=>[])
theorem Qkx:bj pG Z0x:=oS (.nil) Tryz.func215 Tryz.call215 [] [] 2 (λ_ _ _=>by kernel_rfl) (λa r=>Qvz (iT.of (aC a 0)) (aq a 1)) (λ_ X=>by kernel_rfl)
def Vl(t:iU):Tree Int:=
.br t.D3 (.lf 1) (.lf 0)
def TY t:=(Vl t).m
def Z7s:bc:=mS 216 [] true [.agg iU.sig] [] (λa r=>Vl (iU.of (aC a 0))) (λX=>.int .u32 X) (λX=>[])
theorem Qod:bj pG Z7s:=oS (.nil) Tryz.func216 Tryz.call216 [] [] 2
def Vk(d0:fp)(port:Int):Tree Int:=
.br (port==4) (.lf d0.C1) (.br (port==5) (.lf d0.Frame) (.br (port==6) (.lf (wrap u32 d0.B7)) (.lf 0)))
def TX d0 port:=(Vk d0 port).m
def Zdp:bc:=mS 217 [] true [.agg fp.sig,.one (.int .i64)] [] (λa r=>Vk (fp.of (aC a 0)) (aq a 1)) (λX=>.int .u32 X) (λX=>[])
theorem Qrn:bj pG Zdp:=oS (.nil) Tryz.func217 Tryz.call217 [] [] 2
def OE(n:ia)(port:Int):Tree Int:=
.br (port==7) (.lf n.Frame) (.br (port==8) (.lf n.F1) (.br (port==9) (.br n.C5 (.br n.B5 (.lf (wrap u32 ((1:Int)+(2:Int)))) (.lf 1)) (.br n.B5 (.lf (wrap u32 ((0:Int)+(2:Int)))) (.lf 0))) (.lf 0)))
def OD n port:=(OE n port).m
def Zgk:bc:=mS 218 [] true [.agg ia.sig,.one (.int .i64)] [] (λa r=>OE (ia.of (aC a 0)) (aq a 1)) (λX=>.int .u32 X) (λX=>[])
theorem Qvx:bj pG Zgk:=oS (.nil) Tryz.func218 Tryz.call218 [] [] 2
def LP(b:gv)(port:Int):Tree Int:=
.br (port==10) (.lf b.C6) (.br (port==11) (.lv (LJ b) λ(x0:Int)=>.lf (wrap u32 x0)) (.lf 0))
def Jf b port:=(LP b port).m
def Z06:bc:=mS 219 [] true [.agg gv.sig,.one (.int .i64)] [] (λa r=>LP (gv.of (aC a 0)) (aq a 1)) (λX=>.int .u32 X) (λX=>[])
theorem Qkn:bj pG Z06:=oS (.cons Quv (.nil)) Tryz.func219 Tryz.call219 [] [] 2
def Gz(m:au)(port clock:Int):Tree (Int×au):=
.br (decide (port<=1)) (.lv (Jd m.A3 port) λ(x0:iT×Int)=>.lf (x0.2,{B1:=m.B1,Mem:=m.Mem,A3:=x0.1,A9:=m.A9,A7:=m.A7,C3:=m.C3,A2:=m.A2,A1:=m.A1,A4:=m.A4,A6:=m.A6})) (.br (port==2) (.lf (clock,m)) (.br (port==3) (.lv (TY m.A9) λ(x1:Int)=>.lf (x1,m)) (.br (decide (port<=6)) (.lv (TX m.A7 port) λ(x2:Int)=>.lf (x2,m)) (.br (decide (port<=9)) (.lv (OD m.C3 port) λ(x3:Int)=>.lf (x3,m)) (.lv (Jf m.A2 port) λ(x4:Int)=>.lf (x4,m))))))
def wI m port clock:=(Gz m port clock).m
def xE:bc:=mS 144 [true,false,false] true [.ptr 0,.one (.int .i64),.one (.int .u32)] [.box 42 49 (au.kN (.row 1)),.arr 23 1 (.ints .u32)] (λa r=>Gz (au.pZ (r.getD 0 default).cs (gj .u32 r 1)) (aq a 1) (aq a 2)) (λX=>.int .u32 (X.1)) (λX=>[⟨true,42,49,.gen [(au.ez (X.2) (.all 1))]⟩,⟨false,23,1,.ints .u32 (X.2).Mem⟩])
theorem Zqi:bj pG xE:=oS (.cons Qkx (.cons Qod (.cons Qrn (.cons Qvx (.cons Qkn (.nil)))))) Tryz.func144 Tryz.call144 [.row 23 1 (.ints .u32)] [] 2
def OG(deadline:Int):Tree iU:=
.br (deadline==0) (.lf ({D4:=false,C4:=0,D3:=false})) (.lf ({D4:=true,C4:=deadline,D3:=false}))
def OF deadline:=(OG deadline).m
def Zoj:bc:=mS 220 [] true [.one (.int .u32)] [] (λa r=>OG (aq a 0)) (λX=>.agg (iU.cells X)) (λX=>[])
theorem Z42:bj pG Zoj:=oS (.nil) Tryz.func220 Tryz.call220 [] [] 2
def Qup(x n:Int)(z:(Int)×(List Int)):Prop:=0<=z.1/\(z.2.length:Int)=z.1/\(z.1<=n\/z.1=0)
def Vj(x n:Int)(z:(Int)×(List Int)):Nat:=(n-z.1).toNat
def MI(x n:Int):Tree (List UInt8):=
.lp inferInstance (Vj x n (0,[])+1) ((rE (x:Int)/\rE (n:Int)/\True/\rE (0:Int)/\True)/\rE ([]:List Int)/\True) (0,[]) λ(v0:Int×List Int)=>.br (decide (v0.1<n)) (.cn (decide (0<=wrap u64 (wrap i64 (8*v0.1)))) (.cn (decide (1*(v0.2.length+1)<=140737488355328)) (.nx ((rE (x:Int)/\rE (n:Int)/\True/\rE ((wrap i64 (v0.1+1)):Int)/\True)/\rE ((v0.2++[wrap u8 (bg u32 x (wrap u64 (wrap i64 (8*v0.1))))]):List Int)/\True) (Sum.inl (wrap i64 (v0.1+1),v0.2++[wrap u8 (bg u32 x (wrap u64 (wrap i64 (8*v0.1))))]))))) (.lf (Sum.inr (bytesOf v0.2)))
def Xv x n:=(MI x n).m
def VV(x n:Int):Prop:=
n<=1000000000000
theorem Zfv(x n:Int)(hw:VV x n):(MI x n).p:=by
 simp only[VV]at hw
 unfold Tree.p MI
 repeat'(first|refine fy (inv:=Qup x n) (μ:=Vj x n) ?_ (cO _) (λ_ _=>?_)|exact trivial|refine aa (λ_=>?_) (λ_=>?_)|refine ba ?_ ?_|refine cz ?_ ?_|refine ar (λ_ _=>?_)|refine fg ?_|refine ey ?_|refine And.intro ?_ ?_)
 all_goals((try simp only[Qup,Vj]at*);exact oI)
def Zj9:bu:={
 α:=(Int)×(List Int)
 F:=λst a=>([(0,(lk st 0)),(1,(lk st 1)),(5,.all 0),(6,.int i64 a.1)],[⟨false,5,1,.ints u8 a.2⟩])
 a0:=λst=>((lk st 6).toInt,(oP st.rows (rN st 5)))
 jn:=λst=>[]++[(rX st 5 0)]}
def Zbc:List (Nat×bu):=[(3,Zj9)]
def Zol:bc:=mM 304 [] true [.one (.int .u32),.one (.int .i64)] [] (λa r=>VV (aq a 0) (aq a 1)) (λa r=>Xv (aq a 0) (aq a 1)) (λX=>.str X) (λX=>[])
theorem Zkq:bj pG Zol:=u5 drawn mN (.nil) Tryz.func304 Tryz.call304 (λa r=>MI (aq a 0) (aq a 1)) [] Zbc 3 (hp:=λa r h=>Zfv (aq a 0) (aq a 1) h)
def Xw(m:List Int)(frame:Int)(z:(Int)×(List Int)):Nat:=(32-z.1).toNat
def GY(m:List Int)(frame:Int):Tree ((List UInt8)×Bool):=
.br (decide (frame<0)) (.lf ([],false)) (.lv (wE m) λ(x0:Int)=>.br (decide (frame>=x0)) (.lf ([],false)) (.lp inferInstance (Xw m frame (0,[])+1) ((((ao.Nil (ao.ints u32 m)\/rE (1:Nat))/\rE (m:List Int))/\rE (frame:Int)/\True/\rE (0:Int)/\True)/\rE ([]:List Int)/\True) (0,[]) λ(v0:Int×List Int)=>.br (decide (v0.1<32)) (.cn (bT 1 1&&bJ 0 1&&decide (0<=wrap i64 (wrap i64 (frame*32)+v0.1)/\wrap i64 (wrap i64 (frame*32)+v0.1)<(m.length:Int))) (let E1:=m.getD (dF (wrap i64 (wrap i64 (frame*32)+v0.1))) 0;.an (VV E1 4) (.lv (Xv E1 4) λ(x1:List UInt8)=>.cn (decide (1*(v0.2.length+dK (Q2 x1))<=140737488355328)) (.nx ((((ao.Nil (ao.ints u32 m)\/rE (1:Nat))/\rE (m:List Int))/\rE (frame:Int)/\True/\rE ((wrap i64 (v0.1+1)):Int)/\True)/\rE ((v0.2++Q2 x1):List Int)/\True) (Sum.inl (wrap i64 (v0.1+1),v0.2++Q2 x1)))))) (.lf (Sum.inr (bytesOf v0.2,true)))))
def Lq m frame:=(GY m frame).m
abbrev Qgf m frame:=(GY m frame).p
def Zif:bu:={
 α:=(Int)×(List Int)
 F:=λst a=>([(0,(lk st 0)),(1,(lk st 1)),(6,.all 0),(7,.int i64 a.1)],[⟨false,5,1,.ints u8 a.2⟩])
 a0:=λst=>((lk st 7).toInt,(oP st.rows (rN st 6)))
 jn:=λst=>[]++[(rX st 6 0)]}
def Z7f:List (Nat×bu):=[(5,Zif)]
def Zk0:bc:=mT 283 [] true [.one (.ints .u32),.one (.int .i64)] [] (λa r=>GY (eh .u32 a 0) (aq a 1)) (λX=>.dt [.str (X.1),.bool (X.2)]) (λX=>[])
theorem Qze:bj pG Zk0:=oT (.cons Sd (.cons Zkq (.nil))) Tryz.func283 Tryz.call283 [] Z7f 3
def Qrf(d0:fp)(dh:Int):Tree (dx×Bool):=
.br (d0.B7 !=1) (.lf ({C0:=0,At:=0,C1:=0,C9:=[]},false)) (.br (d0.D5==1) (.lf ({C0:=3,At:=dh,C1:=d0.B6,C9:=[]},true)) (.br (d0.D5==2) (.lf ({C0:=4,At:=dh,C1:=d0.B6,C9:=d0.B8},true)) (.lf ({C0:=0,At:=0,C1:=0,C9:=[]},false))))
def XP d0 dh:=(Qrf d0 dh).m
def Z7m:bc:=mS 284 [] true [.agg fp.sig,.one (.int .u64)] [] (λa r=>Qrf (fp.of (aC a 0)) (aq a 1)) (λX=>.dt [.agg (dx.cells (X.1)),.bool (X.2)]) (λX=>[])
theorem Z1y:bj pG Z7m:=oS (.nil) Tryz.func284 Tryz.call284 [] [] 2
def G6(d0:fp)(m:List Int)(port v dh:Int):Tree (fp×(List dx)):=
.br (port==4) (.lf ({ag:=d0.ag,C1:=v,Frame:=d0.Frame,B7:=d0.B7,D5:=d0.D5,B6:=d0.B6,B2:=d0.B2,B8:=d0.B8},[])) (.br (port==5) (.lf ({ag:=d0.ag,C1:=d0.C1,Frame:=v,B7:=d0.B7,D5:=d0.D5,B6:=d0.B6,B2:=d0.B2,B8:=d0.B8},[])) (.br (port !=6) (.lf (d0,[])) (let T1:Tree ((fp×(List dx))):=.br (d0.B7==0) (let T2:Tree ((fp×(List dx))):=.lf ({ag:=d0.ag,C1:=d0.C1,Frame:=d0.Frame,B7:=3,D5:=d0.D5,B6:=d0.B6,B2:=d0.B2,B8:=d0.B8},[]);.br (decide (d0.C1>=d0.ag)) T2 (.lv (nS m d0.Frame) λ(x0:Bool)=>.br (!x0) T2 (.br (v==2) (.an (Qgf m (wrap i64 d0.Frame)) (.lv (Lq m (wrap i64 d0.Frame)) λ(x1:List UInt8×Bool)=>let E4:=({ag:=d0.ag,C1:=d0.C1,Frame:=d0.Frame,B7:=1,D5:=wrap i64 v,B6:=d0.C1,B2:=d0.Frame,B8:=x1.1}:fp);.lv (XP E4 dh) λ(x2:dx×Bool)=>.lf (E4,[x2.1]))) (let E5:=({ag:=d0.ag,C1:=d0.C1,Frame:=d0.Frame,B7:=1,D5:=wrap i64 v,B6:=d0.C1,B2:=d0.Frame,B8:=[]}:fp);.lv (XP E5 dh) λ(x3:dx×Bool)=>.lf (E5,[x3.1]))))) (.lf (d0,[]));.br (v==0) (let T3:Tree ((fp×(List dx))):=.lf ({ag:=d0.ag,C1:=d0.C1,Frame:=d0.Frame,B7:=0,D5:=d0.D5,B6:=d0.B6,B2:=d0.B2,B8:=d0.B8},[]);.br (d0.B7==2) T3 (.br (d0.B7==3) T3 (.br (v==1) T1 (.br (v==2) T1 (.lf (d0,[])))))) (.br (v==1) T1 (.br (v==2) T1 (.lf (d0,[])))))))
def OI d0 m port v dh:=(G6 d0 m port v dh).m
abbrev Qfj d0 m port v dh:=(G6 d0 m port v dh).p
def Z7h:bc:=mT 221 [] true [.agg fp.sig,.one (.ints .u32),.one (.int .i64),.one (.int .u32),.one (.int .u64)] [] (λa r=>G6 (fp.of (aC a 0)) (eh .u32 a 1) (aq a 2) (aq a 3) (aq a 4)) (λX=>.dt [.agg (fp.cells (X.1)),.sl 4 (.av .ay (X.2)) true]) (λX=>[])
theorem Qo9:bj pG Z7h:=oT (.cons Se (.cons Qze (.cons Z1y (.nil)))) Tryz.func221 Tryz.call221 [.sl (.av .ay) true] [] 2
def LK(n:ia)(m:List Int)(port v dh:Int):Tree (ia×(List dx)):=
.br (port==7) (.lf ({Frame:=v,E0:=n.E0,C5:=n.C5,B9:=n.B9,B5:=n.B5,F1:=n.F1},[])) (.br (port==8) (.lf ({Frame:=n.Frame,E0:=v,C5:=n.C5,B9:=n.B9,B5:=n.B5,F1:=n.F1},[])) (.br (port !=9) (.lf (n,[])) (.br (v==0) (.lf ({Frame:=n.Frame,E0:=n.E0,C5:=n.C5,B9:=n.B9,B5:=false,F1:=0},[])) (let T1:Tree ((ia×(List dx))):=.br (v==2) (.lv (nS m n.Frame) λ(x2:Bool)=>.br x2 (.br (!n.C5) (.br (!n.B5) (.lf ({Frame:=n.Frame,E0:=n.E0,C5:=true,B9:=n.Frame,B5:=n.B5,F1:=n.F1},[])) (.lf (n,[]))) (.lf (n,[]))) (.lf (n,[]))) (.lf (n,[]));.br (v==1) (.br (decide (n.E0>=1)) (.br (decide (n.E0<=128)) (.lv (nS m n.Frame) λ(x0:Bool)=>.br x0 (.an (Qgf m (wrap i64 n.Frame)) (.lv (Lq m (wrap i64 n.Frame)) λ(x1:List UInt8×Bool)=>.cn (decide ((0:Int)<=(0:Int)/\0<=n.E0/\n.E0<=(x1.1.length:Int))) (.lf (n,[{C0:=2,At:=dh,C1:=0,C9:=dB (dF n.E0-dF 0) (dC (dF 0) x1.1)}])))) T1) T1) T1) T1))))
def TR n m port v dh:=(LK n m port v dh).m
abbrev Qhf n m port v dh:=(LK n m port v dh).p
def Zaz:bc:=mT 222 [] true [.agg ia.sig,.one (.ints .u32),.one (.int .i64),.one (.int .u32),.one (.int .u64)] [] (λa r=>LK (ia.of (aC a 0)) (eh .u32 a 1) (aq a 2) (aq a 3) (aq a 4)) (λX=>.dt [.agg (ia.cells (X.1)),.sl 4 (.av .ay (X.2)) true]) (λX=>[])
theorem Qr8:bj pG Zaz:=oT (.cons Se (.cons Qze (.nil))) Tryz.func222 Tryz.call222 [.sl (.av .ay) true] [] 2
def XX(b:gv)(m:List Int)(port v:Int)(z:(Int)×(List Int)):Nat:=(32-z.1).toNat
def Bm(b:gv)(m:List Int)(port v:Int):Tree (gv×(List Int)):=
let T1:Tree ((gv×(List Int))):=.br (port==11) (.br (decide (v<32)) (.cn (decide (0<=v)) (.lf ({C6:=b.C6,C2:=nQ u32 b.C2 (eg u32 1 v)},m))) (.lf (b,m))) (.lf (b,m));.br (port==10) (.lv (nS m v) λ(x0:Bool)=>.br x0 (.cn (decide (0<=v)) (.br (bf u32 (bg u32 b.C2 v) (1:Int)==(0:Int)) (.cn (decide (0<=v)) (.lp inferInstance (XX b m port v (0,m)+1) ((True/\rE (v:Int)/\rZ/\rZ/\rE (0:Int)/\True)/\rE (m:List Int)/\(rE b.C6/\rE ((iq u32 b.C2 (eg u32 1 v)):Int)/\True)/\(rE (0:Int)/\rE (0:Int)/\True)/\True) (0,m) λ(v0:Int×List Int)=>.br (decide (v0.1<32)) (let E2:=wrap i64 (wrap i64 v*32)+v0.1;.cn (bT 1 1&&bJ 0 1&&decide (0<=wrap i64 E2/\wrap i64 E2<(v0.2.length:Int))) (.nx ((True/\rE (v:Int)/\rZ/\rZ/\rE ((wrap i64 (v0.1+1)):Int)/\True)/\rE ((dG v0.2 (dF (wrap i64 (wrap i64 (wrap i64 v*32)+v0.1))) 0):List Int)/\(rE b.C6/\rE ((iq u32 b.C2 (eg u32 1 v)):Int)/\True)/\(rE (0:Int)/\rE (0:Int)/\True)/\True) (Sum.inl (wrap i64 (v0.1+1),dG v0.2 (dF (wrap i64 E2)) 0)))) (.lf (Sum.inr ({C6:=b.C6,C2:=iq u32 b.C2 (eg u32 1 v)},v0.2))))) T1)) T1) T1
def AI b m port v:=(Bm b m port v).m
abbrev Qm5 b m port v:=(Bm b m port v).p
def Zfj:bu:={
 α:=(Int)×(List Int)
 F:=λst a=>([(1,.all 0),(3,(lk st 3)),(4,.ptr 1 0 0),(8,.ptr 2 0 0),(9,.int i64 a.1)],[⟨false,23,1,.ints u32 a.2⟩,⟨true,39,2,.gen [[(cT st 4 0),(cT st 4 1)]]⟩,⟨true,39,2,.gen [[(cT st 8 0),(cT st 8 1)]]⟩])
 a0:=λst=>((lk st 9).toInt,(oP st.rows 0))
 jn:=λst=>[0]++[(rX st 4 1),(rX st 8 2)]}
def Z74:List (Nat×bu):=[(4,Zfj)]
def Zks:bc:=mT 223 [false,true,false,false] true [.agg gv.sig,.one (.row 0),.one (.int .i64),.one (.int .u32)] [.arr 23 1 (.ints .u32)] (λa r=>Bm (gv.of (aC a 0)) (gj .u32 r 0) (aq a 2) (aq a 3)) (λX=>.agg (gv.cells (X.1))) (λX=>[⟨false,23,1,.ints .u32 (X.2)⟩])
theorem Qzd:bj pG Zks:=oT (.cons Se (.nil)) Tryz.func223 Tryz.call223 [] Z74 3
def Fa(m:au)(port v:Int):Tree ((List dx)×au):=
.br (port==0) (.lf ([{C0:=1,At:=m.A1,C1:=0,C9:=[(λ(n:Int)=>eX n.toNat) (wrap u8 v)]}],m)) (.br (decide (port<=2)) (.lf ([],m)) (.br (port==3) (.lv (OF v) λ(x0:iU)=>.lf ([],{B1:=m.B1,Mem:=m.Mem,A3:=m.A3,A9:=x0,A7:=m.A7,C3:=m.C3,A2:=m.A2,A1:=m.A1,A4:=m.A4,A6:=m.A6})) (.br (decide (port<=6)) (.an (Qfj m.A7 m.Mem port v m.A1) (.lv (OI m.A7 m.Mem port v m.A1) λ(x1:fp×List dx)=>.lf (x1.2,{B1:=m.B1,Mem:=m.Mem,A3:=m.A3,A9:=m.A9,A7:=x1.1,C3:=m.C3,A2:=m.A2,A1:=m.A1,A4:=m.A4,A6:=m.A6}))) (.br (decide (port<=9)) (.an (Qhf m.C3 m.Mem port v m.A1) (.lv (TR m.C3 m.Mem port v m.A1) λ(x2:ia×List dx)=>.lf (x2.2,{B1:=m.B1,Mem:=m.Mem,A3:=m.A3,A9:=m.A9,A7:=m.A7,C3:=x2.1,A2:=m.A2,A1:=m.A1,A4:=m.A4,A6:=m.A6}))) (.an (Qm5 m.A2 m.Mem port v) (.lv (AI m.A2 m.Mem port v) λ(x3:gv×List Int)=>.lf ([],{B1:=m.B1,Mem:=x3.2,A3:=m.A3,A9:=m.A9,A7:=m.A7,C3:=m.C3,A2:=x3.1,A1:=m.A1,A4:=m.A4,A6:=m.A6})))))))
def AJ m port v:=(Fa m port v).m
abbrev Qyl m port v:=(Fa m port v).p
def Zqa:bc:=mT 146 [true,false,false] true [.ptr 0,.one (.int .i64),.one (.int .u32)] [.box 42 49 (au.kN (.row 1)),.arr 23 1 (.ints .u32)] (λa r=>Fa (au.pZ (r.getD 0 default).cs (gj .u32 r 1)) (aq a 1) (aq a 2)) (λX=>.sl 4 (.av .ay (X.1)) true) (λX=>[⟨true,42,49,.gen [(au.ez (X.2) (.all 1))]⟩,⟨false,23,1,.ints .u32 (X.2).Mem⟩])
theorem Zju:bj pG Zqa:=oT (.cons Z42 (.cons Qo9 (.cons Qr8 (.cons Qzd (.nil))))) Tryz.func146 Tryz.call146 [.sl (.av .ay) true,.row 23 1 (.ints .u32)] [] 2
def KJ(m:au)(clock:Int):Tree ((List dx)×au):=
.an (Q6j m) (.lv (lT m) λ(x0:bh)=>.an (Qsi x0 m.Mem) (.lv (pQ x0 m.Mem) λ(x1:bh×kI×List Int)=>let E1:=({B1:=x1.1,Mem:=x1.2.2,A3:=m.A3,A9:=m.A9,A7:=m.A7,C3:=m.C3,A2:=m.A2,A1:=m.A1,A4:=false,A6:=m.A6}:au);.br (x1.2.1.C0==1) (.lv (wI E1 x1.2.1.D0 clock) λ(x2:Int×au)=>.an (BC x2.2.B1 x1.2.1.D9 x2.1) (.lv (lD x2.2.B1 x1.2.1.D9 x2.1) λ(x3:bh)=>.lf ([],{B1:=x3,Mem:=x2.2.Mem,A3:=x2.2.A3,A9:=x2.2.A9,A7:=x2.2.A7,C3:=x2.2.C3,A2:=x2.2.A2,A1:=wrap u64 (x2.2.A1+1),A4:=x2.2.A4,A6:=x2.2.A6}))) (.br (x1.2.1.C0==2) (.an (Qyl E1 x1.2.1.D0 x1.2.1.Value) (.lv (AJ E1 x1.2.1.D0 x1.2.1.Value) λ(x4:List dx×au)=>.lf (x4.1,{B1:=x4.2.B1,Mem:=x4.2.Mem,A3:=x4.2.A3,A9:=x4.2.A9,A7:=x4.2.A7,C3:=x4.2.C3,A2:=x4.2.A2,A1:=wrap u64 (x4.2.A1+1),A4:=x4.2.A4,A6:=x4.2.A6}))) (.br (x1.2.1.C0==3) (.lf ([],{B1:=x1.1,Mem:=x1.2.2,A3:=m.A3,A9:=m.A9,A7:=m.A7,C3:=m.C3,A2:=m.A2,A1:=wrap u64 (m.A1+1),A4:=true,A6:=m.A6})) (.br (x1.2.1.C0==4) (.lf ([],{B1:=x1.1,Mem:=x1.2.2,A3:=m.A3,A9:=m.A9,A7:=m.A7,C3:=m.C3,A2:=m.A2,A1:=wrap u64 (m.A1+1),A4:=false,A6:=true})) (.lf ([],{B1:=x1.1,Mem:=x1.2.2,A3:=m.A3,A9:=m.A9,A7:=m.A7,C3:=m.C3,A2:=m.A2,A1:=wrap u64 (m.A1+1),A4:=false,A6:=m.A6})))))))
def ga m clock:=(KJ m clock).m
abbrev Qfq m clock:=(KJ m clock).p
def Z5s:bc:=mT 89 [true,false] true [.ptr 0,.one (.int .u32)] [.box 42 49 (au.kN (.row 1)),.arr 23 1 (.ints .u32)] (λa r=>KJ (au.pZ (r.getD 0 default).cs (gj .u32 r 1)) (aq a 1)) (λX=>.sl 4 (.av .ay (X.1)) true) (λX=>[⟨true,42,49,.gen [(au.ez (X.2) (.all 1))]⟩,⟨false,23,1,.ints .u32 (X.2).Mem⟩])
theorem Z32:bj pG Z5s:=oT (.cons Qb4 (.cons Z9i (.cons Zqi (.cons MU (.cons Zju (.nil)))))) Tryz.func89 Tryz.call89 [.sl (.av .ay) true,.row 23 1 (.ints .u32)] [] 2
end
noncomputable section
instance Sh {α β:Type} [Inhabited β]:Inhabited (α⊕β):=⟨.inr default⟩
def OS(m:cw)(port clock:Int):Tree (Int×cw):=
.br (decide (port<=1)) (.lv (Jd m.A0.A3 port) λ(x0:iT×Int)=>.lf (x0.2,{A0:={B1:=m.A0.B1,Mem:=m.A0.Mem,A3:=x0.1,A9:=m.A0.A9,A7:=m.A0.A7,C3:=m.A0.C3,A2:=m.A0.A2,A1:=m.A0.A1,A4:=m.A0.A4,A6:=m.A0.A6},B3:=m.B3,C7:=m.C7,B0:=m.B0})) (.br (port==2) (.lf (clock,m)) (.br (port==3) (.lv (TY m.A0.A9) λ(x1:Int)=>.lf (x1,m)) (.br (decide (port<=6)) (.lv (TX m.A0.A7 port) λ(x2:Int)=>.lf (x2,m)) (.br (decide (port<=9)) (.lv (OD m.A0.C3 port) λ(x3:Int)=>.lf (x3,m)) (.lv (Jf m.A0.A2 port) λ(x4:Int)=>.lf (x4,m))))))
def Yb m port clock:=(OS m port clock).m
def Zkw:bc:=mS 144 [true,false,false] true [.ptr 0,.one (.int .i64),.one (.int .u32)] [.box 154 52 (cw.kN (.row 1) (.row 2) (.row 3)),.arr 23 1 (.ints .u32),.arr 103 4 (.av .ab),.arr 72 3 (.av .bd)] (λa r=>OS (cw.pZ (r.getD 0 default).cs (gj .u32 r 1) (jO .ab r 2) (jO .bd r 3)) (aq a 1) (aq a 2)) (λX=>.int .u32 (X.1)) (λX=>[⟨true,154,52,.gen [(cw.ez (X.2) (.all 1) (.all 2) (.all 3))]⟩,⟨false,23,1,.ints .u32 (X.2).A0.Mem⟩,⟨false,103,4,.av .ab (X.2).C7⟩,⟨false,72,3,.av .bd (X.2).B0⟩])
theorem Zhn:bj pG Zkw:=oS (.cons Qkx (.cons Qod (.cons Qrn (.cons Qvx (.cons Qkn (.nil)))))) Tryz.func144 Tryz.call144 [.row 23 1 (.ints .u32),.row 103 4 (.av .ab),.row 72 3 (.av .bd)] [] 2
def L0(m:cw)(port v:Int):Tree ((List dx)×cw):=
.br (port==0) (.lf ([{C0:=1,At:=m.A0.A1,C1:=0,C9:=[(λ(n:Int)=>eX n.toNat) (wrap u8 v)]}],m)) (.br (decide (port<=2)) (.lf ([],m)) (.br (port==3) (.lv (OF v) λ(x0:iU)=>.lf ([],{A0:={B1:=m.A0.B1,Mem:=m.A0.Mem,A3:=m.A0.A3,A9:=x0,A7:=m.A0.A7,C3:=m.A0.C3,A2:=m.A0.A2,A1:=m.A0.A1,A4:=m.A0.A4,A6:=m.A0.A6},B3:=m.B3,C7:=m.C7,B0:=m.B0})) (.br (decide (port<=6)) (.an (Qfj m.A0.A7 m.A0.Mem port v m.A0.A1) (.lv (OI m.A0.A7 m.A0.Mem port v m.A0.A1) λ(x1:fp×List dx)=>.lf (x1.2,{A0:={B1:=m.A0.B1,Mem:=m.A0.Mem,A3:=m.A0.A3,A9:=m.A0.A9,A7:=x1.1,C3:=m.A0.C3,A2:=m.A0.A2,A1:=m.A0.A1,A4:=m.A0.A4,A6:=m.A0.A6},B3:=m.B3,C7:=m.C7,B0:=m.B0}))) (.br (decide (port<=9)) (.an (Qhf m.A0.C3 m.A0.Mem port v m.A0.A1) (.lv (TR m.A0.C3 m.A0.Mem port v m.A0.A1) λ(x2:ia×List dx)=>.lf (x2.2,{A0:={B1:=m.A0.B1,Mem:=m.A0.Mem,A3:=m.A0.A3,A9:=m.A0.A9,A7:=m.A0.A7,C3:=x2.1,A2:=m.A0.A2,A1:=m.A0.A1,A4:=m.A0.A4,A6:=m.A0.A6},B3:=m.B3,C7:=m.C7,B0:=m.B0}))) (.an (Qm5 m.A0.A2 m.A0.Mem port v) (.lv (AI m.A0.A2 m.A0.Mem port v) λ(x3:gv×List Int)=>.lf ([],{A0:={B1:=m.A0.B1,Mem:=x3.2,A3:=m.A0.A3,A9:=m.A0.A9,A7:=m.A0.A7,C3:=m.A0.C3,A2:=x3.1,A1:=m.A0.A1,A4:=m.A0.A4,A6:=m.A0.A6},B3:=m.B3,C7:=m.C7,B0:=m.B0})))))))
def Yc m port v:=(L0 m port v).m
abbrev Qru m port v:=(L0 m port v).p
def Zer:bc:=mT 146 [true,false,false] true [.ptr 0,.one (.int .i64),.one (.int .u32)] [.box 154 52 (cw.kN (.row 1) (.row 2) (.row 3)),.arr 23 1 (.ints .u32),.arr 103 4 (.av .ab),.arr 72 3 (.av .bd)] (λa r=>L0 (cw.pZ (r.getD 0 default).cs (gj .u32 r 1) (jO .ab r 2) (jO .bd r 3)) (aq a 1) (aq a 2)) (λX=>.sl 4 (.av .ay (X.1)) true) (λX=>[⟨true,154,52,.gen [(cw.ez (X.2) (.all 1) (.all 2) (.all 3))]⟩,⟨false,23,1,.ints .u32 (X.2).A0.Mem⟩,⟨false,103,4,.av .ab (X.2).C7⟩,⟨false,72,3,.av .bd (X.2).B0⟩])
theorem Zd7:bj pG Zer:=oT (.cons Z42 (.cons Qo9 (.cons Qr8 (.cons Qzd (.nil))))) Tryz.func146 Tryz.call146 [.sl (.av .ay) true,.row 23 1 (.ints .u32),.row 103 4 (.av .ab),.row 72 3 (.av .bd)] [] 2
def L3(m:cw)(clock:Int):Tree ((List dx)×cw):=
.an (Q6j m.A0) (.lv (lT m.A0) λ(x0:bh)=>.an (Qsi x0 m.A0.Mem) (.lv (pQ x0 m.A0.Mem) λ(x1:bh×kI×List Int)=>let E1:=({B1:=x1.1,Mem:=x1.2.2,A3:=m.A0.A3,A9:=m.A0.A9,A7:=m.A0.A7,C3:=m.A0.C3,A2:=m.A0.A2,A1:=m.A0.A1,A4:=false,A6:=m.A0.A6}:au);.br (x1.2.1.C0==1) (.lv (Yb {A0:=E1,B3:=m.B3,C7:=m.C7,B0:=m.B0} x1.2.1.D0 clock) λ(x2:Int×cw)=>.an (BC x2.2.A0.B1 x1.2.1.D9 x2.1) (.lv (lD x2.2.A0.B1 x1.2.1.D9 x2.1) λ(x3:bh)=>.lf ([],{A0:={B1:=x3,Mem:=x2.2.A0.Mem,A3:=x2.2.A0.A3,A9:=x2.2.A0.A9,A7:=x2.2.A0.A7,C3:=x2.2.A0.C3,A2:=x2.2.A0.A2,A1:=wrap u64 (x2.2.A0.A1+1),A4:=x2.2.A0.A4,A6:=x2.2.A0.A6},B3:=x2.2.B3,C7:=x2.2.C7,B0:=x2.2.B0}))) (.br (x1.2.1.C0==2) (.an (Qru {A0:=E1,B3:=m.B3,C7:=m.C7,B0:=m.B0} x1.2.1.D0 x1.2.1.Value) (.lv (Yc {A0:=E1,B3:=m.B3,C7:=m.C7,B0:=m.B0} x1.2.1.D0 x1.2.1.Value) λ(x4:List dx×cw)=>.lf (x4.1,{A0:={B1:=x4.2.A0.B1,Mem:=x4.2.A0.Mem,A3:=x4.2.A0.A3,A9:=x4.2.A0.A9,A7:=x4.2.A0.A7,C3:=x4.2.A0.C3,A2:=x4.2.A0.A2,A1:=wrap u64 (x4.2.A0.A1+1),A4:=x4.2.A0.A4,A6:=x4.2.A0.A6},B3:=x4.2.B3,C7:=x4.2.C7,B0:=x4.2.B0}))) (.br (x1.2.1.C0==3) (.lf ([],{A0:={B1:=x1.1,Mem:=x1.2.2,A3:=m.A0.A3,A9:=m.A0.A9,A7:=m.A0.A7,C3:=m.A0.C3,A2:=m.A0.A2,A1:=wrap u64 (m.A0.A1+1),A4:=true,A6:=m.A0.A6},B3:=m.B3,C7:=m.C7,B0:=m.B0})) (.br (x1.2.1.C0==4) (.lf ([],{A0:={B1:=x1.1,Mem:=x1.2.2,A3:=m.A0.A3,A9:=m.A0.A9,A7:=m.A0.A7,C3:=m.A0.C3,A2:=m.A0.A2,A1:=wrap u64 (m.A0.A1+1),A4:=false,A6:=true},B3:=m.B3,C7:=m.C7,B0:=m.B0})) (.lf ([],{A0:={B1:=x1.1,Mem:=x1.2.2,A3:=m.A0.A3,A9:=m.A0.A9,A7:=m.A0.A7,C3:=m.A0.C3,A2:=m.A0.A2,A1:=wrap u64 (m.A0.A1+1),A4:=false,A6:=m.A0.A6},B3:=m.B3,C7:=m.C7,B0:=m.B0})))))))
def L2 m clock:=(L3 m clock).m
abbrev VW m clock:=(L3 m clock).p
def Qzr:bc:=mT 89 [true,false] true [.ptr 0,.one (.int .u32)] [.box 154 52 (cw.kN (.row 1) (.row 2) (.row 3)),.arr 23 1 (.ints .u32),.arr 103 4 (.av .ab),.arr 72 3 (.av .bd)] (λa r=>L3 (cw.pZ (r.getD 0 default).cs (gj .u32 r 1) (jO .ab r 2) (jO .bd r 3)) (aq a 1)) (λX=>.sl 4 (.av .ay (X.1)) true) (λX=>[⟨true,154,52,.gen [(cw.ez (X.2) (.all 1) (.all 2) (.all 3))]⟩,⟨false,23,1,.ints .u32 (X.2).A0.Mem⟩,⟨false,103,4,.av .ab (X.2).C7⟩,⟨false,72,3,.av .bd (X.2).B0⟩])
theorem Qwo:bj pG Qzr:=oT (.cons Qb4 (.cons Z9i (.cons Zhn (.cons MU (.cons Zd7 (.nil)))))) Tryz.func89 Tryz.call89 [.sl (.av .ay) true,.row 23 1 (.ints .u32),.row 103 4 (.av .ab),.row 72 3 (.av .bd)] [] 2
def WS(r:cw)(steps clock:Int)(z:(Int)×cw):Nat:=(z.2.B0.length-z.1).toNat
def NB(r:cw)(steps clock:Int)(v0:Int×cw)(z:(Int)×cw×(List dx)):Nat:=(4000-z.1).toNat
def IK(r:cw)(steps clock:Int):Tree (cw×(List dx)):=
.an (Qlv r) (.lv (Ua r) λ(x0:cw)=>.lv (pR x0.A0) λ(x1:Bool)=>.br (!x1) (.lf (x0,[])) (.lp inferInstance (WS r steps clock (0,{A0:=x0.A0,B3:=if clock>x0.B3 then clock else x0.B3,C7:=x0.C7,B0:=x0.B0})+1) ((rE (steps:Int)/\rZ/\rZ/\rE (0:Int)/\True)/\(mE x0.A0 True (rE ((if clock>x0.B3 then clock else x0.B3):Int)/\True/\True/\True))/\rE x0.A0.Mem/\rE x0.C7/\rE x0.B0/\(mE zM True (rE (0:Int)/\True/\True/\True))/\True) (0,{A0:=x0.A0,B3:=if clock>x0.B3 then clock else x0.B3,C7:=x0.C7,B0:=x0.B0}) λ(v0:Int×cw)=>.br (decide (v0.1<(v0.2.B0.length:Int))) (.cn (bT 3 3&&bJ 0 3&&decide (0<=v0.1/\v0.1<(v0.2.B0.length:Int))) (let E1:=v0.2.B0.getD v0.1.toNat (RK.cq RK.bd);.an (Qgx v0.2 E1) (.lv (OT v0.2 E1) λ(x2:cw)=>.nx ((rE (steps:Int)/\rZ/\rZ/\rE ((wrap i64 (v0.1+1)):Int)/\True)/\(mE x2.A0 True (rE x2.B3/\True/\True/\True))/\rE x2.A0.Mem/\rE x2.C7/\rE x2.B0/\(mE zM True (rE (0:Int)/\True/\True/\True))/\True) (Sum.inl (wrap i64 (v0.1+1),x2))))) (.lp inferInstance (NB r steps clock v0 (0,{A0:=v0.2.A0,B3:=v0.2.B3,C7:=v0.2.C7,B0:=[]},[])+1) ((rE (steps:Int)/\rZ/\rZ/\True/\rE (0:Int)/\True)/\(mE v0.2.A0 True (rE v0.2.B3/\True/\True/\True))/\rE v0.2.A0.Mem/\rE v0.2.C7/\rE ([]:List (RK.T RK.bd))/\(mE zM True (rE (0:Int)/\True/\True/\True))/\rE ([]:List (RK.T RK.ay))/\True) (0,{A0:=v0.2.A0,B3:=v0.2.B3,C7:=v0.2.C7,B0:=[]},[]) λ(v1:Int×cw×List dx)=>.lv (pO steps) λ(x3:Int)=>.br (decide (v1.1<x3)) (.lv (Jl v1.2.1.A0.A9 v1.2.1.B3) λ(x4:Bool)=>.br x4 (.an (Qgx v1.2.1 {C0:=2,N:=0,C9:=[]}) (.lv (OT v1.2.1 {C0:=2,N:=0,C9:=[]}) λ(x5:cw)=>.an (VI x5.A0) (.lv (nb x5.A0) λ(x6:Bool)=>.br x6 (.lf (Sum.inr (Sum.inr (x5,v1.2.2)))) (.an (Qb7 x5.A0) (.lv (Hd x5.A0) λ(x7:Bool)=>.br x7 (.cn (decide (40*(x5.C7.length+1)<=140737488355328)) (.an (VW {A0:=x5.A0,B3:=x5.B3,C7:=x5.C7++[{At:=x5.A0.A1,C8:={C0:=1,N:=x5.B3,C9:=[]}}],B0:=x5.B0} x5.B3) (.lv (L2 {A0:=x5.A0,B3:=x5.B3,C7:=x5.C7++[{At:=x5.A0.A1,C8:={C0:=1,N:=x5.B3,C9:=[]}}],B0:=x5.B0} x5.B3) λ(x8:List dx×cw)=>.cn (decide (40*(v1.2.2.length+x8.1.length)<=140737488355328)) (.nx ((rE (steps:Int)/\rZ/\rZ/\True/\rE ((wrap i64 (v1.1+1)):Int)/\True)/\(mE x8.2.A0 True (rE ((wrap u32 (x8.2.B3+1)):Int)/\True/\True/\True))/\rE x8.2.A0.Mem/\rE x8.2.C7/\rE x8.2.B0/\(mE zM True (rE (0:Int)/\True/\True/\True))/\rE ((v1.2.2++x8.1):List (RK.T RK.ay))/\True) (Sum.inl (wrap i64 (v1.1+1),{A0:=x8.2.A0,B3:=wrap u32 (x8.2.B3+1),C7:=x8.2.C7,B0:=x8.2.B0},v1.2.2++x8.1)))))) (.an (VW x5 x5.B3) (.lv (L2 x5 x5.B3) λ(x9:List dx×cw)=>.cn (decide (40*(v1.2.2.length+x9.1.length)<=140737488355328)) (.nx ((rE (steps:Int)/\rZ/\rZ/\True/\rE ((wrap i64 (v1.1+1)):Int)/\True)/\(mE x9.2.A0 True (rE ((wrap u32 (x9.2.B3+1)):Int)/\True/\True/\True))/\rE x9.2.A0.Mem/\rE x9.2.C7/\rE x9.2.B0/\(mE zM True (rE (0:Int)/\True/\True/\True))/\rE ((v1.2.2++x9.1):List (RK.T RK.ay))/\True) (Sum.inl (wrap i64 (v1.1+1),{A0:=x9.2.A0,B3:=wrap u32 (x9.2.B3+1),C7:=x9.2.C7,B0:=x9.2.B0},v1.2.2++x9.1)))))))))) (.an (VI v1.2.1.A0) (.lv (nb v1.2.1.A0) λ(jM:Bool)=>.br jM (.lf (Sum.inr (Sum.inr (v1.2.1,v1.2.2)))) (.an (Qb7 v1.2.1.A0) (.lv (Hd v1.2.1.A0) λ(mr:Bool)=>.br mr (.cn (decide (40*(v1.2.1.C7.length+1)<=140737488355328)) (.an (VW {A0:=v1.2.1.A0,B3:=v1.2.1.B3,C7:=v1.2.1.C7++[{At:=v1.2.1.A0.A1,C8:={C0:=1,N:=v1.2.1.B3,C9:=[]}}],B0:=v1.2.1.B0} v1.2.1.B3) (.lv (L2 {A0:=v1.2.1.A0,B3:=v1.2.1.B3,C7:=v1.2.1.C7++[{At:=v1.2.1.A0.A1,C8:={C0:=1,N:=v1.2.1.B3,C9:=[]}}],B0:=v1.2.1.B0} v1.2.1.B3) λ(kS:List dx×cw)=>.cn (decide (40*(v1.2.2.length+kS.1.length)<=140737488355328)) (.nx ((rE (steps:Int)/\rZ/\rZ/\True/\rE ((wrap i64 (v1.1+1)):Int)/\True)/\(mE kS.2.A0 True (rE ((wrap u32 (kS.2.B3+1)):Int)/\True/\True/\True))/\rE kS.2.A0.Mem/\rE kS.2.C7/\rE kS.2.B0/\(mE zM True (rE (0:Int)/\True/\True/\True))/\rE ((v1.2.2++kS.1):List (RK.T RK.ay))/\True) (Sum.inl (wrap i64 (v1.1+1),{A0:=kS.2.A0,B3:=wrap u32 (kS.2.B3+1),C7:=kS.2.C7,B0:=kS.2.B0},v1.2.2++kS.1)))))) (.an (VW v1.2.1 v1.2.1.B3) (.lv (L2 v1.2.1 v1.2.1.B3) λ(lU:List dx×cw)=>.cn (decide (40*(v1.2.2.length+lU.1.length)<=140737488355328)) (.nx ((rE (steps:Int)/\rZ/\rZ/\True/\rE ((wrap i64 (v1.1+1)):Int)/\True)/\(mE lU.2.A0 True (rE ((wrap u32 (lU.2.B3+1)):Int)/\True/\True/\True))/\rE lU.2.A0.Mem/\rE lU.2.C7/\rE lU.2.B0/\(mE zM True (rE (0:Int)/\True/\True/\True))/\rE ((v1.2.2++lU.1):List (RK.T RK.ay))/\True) (Sum.inl (wrap i64 (v1.1+1),{A0:=lU.2.A0,B3:=wrap u32 (lU.2.B3+1),C7:=lU.2.C7,B0:=lU.2.B0},v1.2.2++lU.1)))))))))) (.lf (Sum.inr (Sum.inr (v1.2.1,v1.2.2)))))))
def Ub r steps clock:=(IK r steps clock).m
abbrev Qlb r steps clock:=(IK r steps clock).p
def Z08:bu:={
 α:=(Int)×cw
 F:=λst a=>([(1,(lk st 1)),(3,.ptr 0 0 0),(6,.ptr 4 0 0),(8,.int i64 a.1)],[⟨true,154,52,.gen [[.int u32 a.2.A0.B1.X.a0,.int u32 a.2.A0.B1.X.a1,.int u32 a.2.A0.B1.X.a2,.int u32 a.2.A0.B1.X.a3,.int u32 a.2.A0.B1.X.a4,.int u32 a.2.A0.B1.X.a5,.int u32 a.2.A0.B1.X.a6,.int u32 a.2.A0.B1.X.a7,.int u32 a.2.A0.B1.X.a8,.int u32 a.2.A0.B1.X.a9,.int u32 a.2.A0.B1.X.kq,.int u32 a.2.A0.B1.X.kr,.int u32 a.2.A0.B1.X.a12,.int u32 a.2.A0.B1.X.ku,.int u32 a.2.A0.B1.X.kv,.int u32 a.2.A0.B1.X.ky,.int u32 a.2.A0.B1.Pc,.int u32 a.2.A0.B1.B4.a0,.int u32 a.2.A0.B1.B4.a1,.int u32 a.2.A0.B1.B4.a2,.int u32 a.2.A0.B1.B4.a3,.int u32 a.2.A0.B1.B4.a4,.int u32 a.2.A0.B1.B4.a5,.int u32 a.2.A0.B1.B4.a6,.int u32 a.2.A0.B1.B4.a7,.all 1,.str a.2.A0.A3.D1,.bool a.2.A0.A9.D4,.int u32 a.2.A0.A9.C4,.bool a.2.A0.A9.D3,.int u32 a.2.A0.A7.ag,.int u32 a.2.A0.A7.C1,.int u32 a.2.A0.A7.Frame,.int i64 a.2.A0.A7.B7,.int i64 a.2.A0.A7.D5,.int u32 a.2.A0.A7.B6,.int u32 a.2.A0.A7.B2,.str a.2.A0.A7.B8,.int u32 a.2.A0.C3.Frame,.int u32 a.2.A0.C3.E0,.bool a.2.A0.C3.C5,.int u32 a.2.A0.C3.B9,.bool a.2.A0.C3.B5,.int u32 a.2.A0.C3.F1,.int u32 a.2.A0.A2.C6,.int u32 a.2.A0.A2.C2,.int u64 a.2.A0.A1,.bool a.2.A0.A4,.bool a.2.A0.A6,.int u32 a.2.B3,.all 2,.all 3]]⟩,⟨false,23,1,.ints u32 a.2.A0.Mem⟩,⟨false,103,4,.av RK.ab a.2.C7⟩,⟨false,72,3,.av RK.bd a.2.B0⟩,⟨true,154,52,.gen [[(cT st 6 0),(cT st 6 1),(cT st 6 2),(cT st 6 3),(cT st 6 4),(cT st 6 5),(cT st 6 6),(cT st 6 7),(cT st 6 8),(cT st 6 9),(cT st 6 10),(cT st 6 11),(cT st 6 12),(cT st 6 13),(cT st 6 14),(cT st 6 15),(cT st 6 16),(cT st 6 17),(cT st 6 18),(cT st 6 19),(cT st 6 20),(cT st 6 21),(cT st 6 22),(cT st 6 23),(cT st 6 24),(cT st 6 25),(cT st 6 26),(cT st 6 27),(cT st 6 28),(cT st 6 29),(cT st 6 30),(cT st 6 31),(cT st 6 32),(cT st 6 33),(cT st 6 34),(cT st 6 35),(cT st 6 36),(cT st 6 37),(cT st 6 38),(cT st 6 39),(cT st 6 40),(cT st 6 41),(cT st 6 42),(cT st 6 43),(cT st 6 44),(cT st 6 45),(cT st 6 46),(cT st 6 47),(cT st 6 48),(cT st 6 49),(cT st 6 50),(cT st 6 51)]]⟩])
 a0:=λst=>((lk st 8).toInt,(⟨(mR (cT st 3) (oP st.rows (lz (cT st 3 25) 1000000))),(cT st 3 49).toInt,(tz RK.ab st.rows (lz (cT st 3 50) 1000000)),(tz RK.bd st.rows (lz (cT st 3 51) 1000000))⟩:cw))
 jn:=λst=>[]++[(rX st 3 0),(lz (cT st 3 25) (st.rows.length+1)),(lz (cT st 3 50) (st.rows.length+2)),(lz (cT st 3 51) (st.rows.length+3)),(rX st 6 4)]}
def Z0o:bu:={
 α:=(Int)×cw×(List dx)
 F:=λst a=>([(1,(lk st 1)),(3,.ptr 0 0 0),(6,.ptr 4 0 0),(9,.all 5),(10,.int i64 a.1)],[⟨true,154,52,.gen [[.int u32 a.2.1.A0.B1.X.a0,.int u32 a.2.1.A0.B1.X.a1,.int u32 a.2.1.A0.B1.X.a2,.int u32 a.2.1.A0.B1.X.a3,.int u32 a.2.1.A0.B1.X.a4,.int u32 a.2.1.A0.B1.X.a5,.int u32 a.2.1.A0.B1.X.a6,.int u32 a.2.1.A0.B1.X.a7,.int u32 a.2.1.A0.B1.X.a8,.int u32 a.2.1.A0.B1.X.a9,.int u32 a.2.1.A0.B1.X.kq,.int u32 a.2.1.A0.B1.X.kr,.int u32 a.2.1.A0.B1.X.a12,.int u32 a.2.1.A0.B1.X.ku,.int u32 a.2.1.A0.B1.X.kv,.int u32 a.2.1.A0.B1.X.ky,.int u32 a.2.1.A0.B1.Pc,.int u32 a.2.1.A0.B1.B4.a0,.int u32 a.2.1.A0.B1.B4.a1,.int u32 a.2.1.A0.B1.B4.a2,.int u32 a.2.1.A0.B1.B4.a3,.int u32 a.2.1.A0.B1.B4.a4,.int u32 a.2.1.A0.B1.B4.a5,.int u32 a.2.1.A0.B1.B4.a6,.int u32 a.2.1.A0.B1.B4.a7,.all 1,.str a.2.1.A0.A3.D1,.bool a.2.1.A0.A9.D4,.int u32 a.2.1.A0.A9.C4,.bool a.2.1.A0.A9.D3,.int u32 a.2.1.A0.A7.ag,.int u32 a.2.1.A0.A7.C1,.int u32 a.2.1.A0.A7.Frame,.int i64 a.2.1.A0.A7.B7,.int i64 a.2.1.A0.A7.D5,.int u32 a.2.1.A0.A7.B6,.int u32 a.2.1.A0.A7.B2,.str a.2.1.A0.A7.B8,.int u32 a.2.1.A0.C3.Frame,.int u32 a.2.1.A0.C3.E0,.bool a.2.1.A0.C3.C5,.int u32 a.2.1.A0.C3.B9,.bool a.2.1.A0.C3.B5,.int u32 a.2.1.A0.C3.F1,.int u32 a.2.1.A0.A2.C6,.int u32 a.2.1.A0.A2.C2,.int u64 a.2.1.A0.A1,.bool a.2.1.A0.A4,.bool a.2.1.A0.A6,.int u32 a.2.1.B3,.all 2,.all 3]]⟩,⟨false,23,1,.ints u32 a.2.1.A0.Mem⟩,⟨false,103,4,.av RK.ab a.2.1.C7⟩,⟨false,72,3,.av RK.bd a.2.1.B0⟩,⟨true,154,52,.gen [[(cT st 6 0),(cT st 6 1),(cT st 6 2),(cT st 6 3),(cT st 6 4),(cT st 6 5),(cT st 6 6),(cT st 6 7),(cT st 6 8),(cT st 6 9),(cT st 6 10),(cT st 6 11),(cT st 6 12),(cT st 6 13),(cT st 6 14),(cT st 6 15),(cT st 6 16),(cT st 6 17),(cT st 6 18),(cT st 6 19),(cT st 6 20),(cT st 6 21),(cT st 6 22),(cT st 6 23),(cT st 6 24),(cT st 6 25),(cT st 6 26),(cT st 6 27),(cT st 6 28),(cT st 6 29),(cT st 6 30),(cT st 6 31),(cT st 6 32),(cT st 6 33),(cT st 6 34),(cT st 6 35),(cT st 6 36),(cT st 6 37),(cT st 6 38),(cT st 6 39),(cT st 6 40),(cT st 6 41),(cT st 6 42),(cT st 6 43),(cT st 6 44),(cT st 6 45),(cT st 6 46),(cT st 6 47),(cT st 6 48),(cT st 6 49),(cT st 6 50),(cT st 6 51)]]⟩,⟨false,137,4,.av RK.ay a.2.2⟩])
 a0:=λst=>((lk st 10).toInt,(⟨(mR (cT st 3) (oP st.rows (lz (cT st 3 25) 1000000))),(cT st 3 49).toInt,(tz RK.ab st.rows (lz (cT st 3 50) 1000000)),(tz RK.bd st.rows (lz (cT st 3 51) 1000000))⟩:cw),(tz RK.ay st.rows (rN st 9)))
 jn:=λst=>[]++[(rX st 3 0),(lz (cT st 3 25) (st.rows.length+1)),(lz (cT st 3 50) (st.rows.length+2)),(lz (cT st 3 51) (st.rows.length+3)),(rX st 6 4),(rX st 9 5)]}
def Qvq:List (Nat×bu):=[(6,Z08),(12,Z0o)]
def Z4d:bc:=mT 201 [] true [.agg cw.sig,.one (.int .i64),.one (.int .u32)] [] (λa r=>IK (cw.of (aC a 0)) (aq a 1) (aq a 2)) (λX=>.dt [.agg (cw.ez (X.1) (.all 0) (.all 1) (.all 2)),.all 3]) (λX=>[⟨false,23,1,.ints .u32 (X.1).A0.Mem⟩,⟨false,103,4,.av .ab (X.1).C7⟩,⟨false,72,3,.av .bd (X.1).B0⟩,⟨false,137,4,.av .ay (X.2)⟩])
theorem Qzx:bj pG Z4d:=oT (.cons Qyh (.cons Qt2 (.cons Z6z (.cons Z0v (.cons Zjo (.cons Quh (.cons Qv (.cons Qwo (.nil))))))))) Tryz.func201 Tryz.call201 [.row 23 1 (.ints .u32),.row 103 4 (.av .ab),.row 72 3 (.av .bd),.row 137 4 (.av .ay)] Qvq 3

import Derived.Test.YtaemmjbkndlkeaaGreatMigrateOneYz
open Nat renaming blt->bN,beq->bX,lt_succ_self->cN
open List renaming length->dF,replicate->cO,take->cU,drop->cV,set->dB,getD->aV
open Int renaming toNat->dA,tdiv->eF,tmod->cZ
set_option maxRecDepth 100000
set_option linter.all false
namespace Go.Proofs.YtaemmjbkndlkeaaGreat
open Go Go.GD Go.IntKind
noncomputable section
def Ln(m:List Int):Tree (List Int):=
.cn (bN (0:Nat) (1:Nat)&&bX (1:Nat) (1:Nat)&&List.all [D.int u32 (0:Int)] D.plain&&decide ((0:Int)<=(m.length:Int)/\(m.length:Int)<=(m.length:Int)/\(m.length:Int)<=(9223372036854775807:Int)/\(↑(4:Nat):Int)*(m.length:Int)<=(140737488355328:Int))) (let E1:=dF (cO (dA (m.length:Int)) (0:Int));.lf (cU (Min.min (m.length) E1) m++cV (Min.min (m.length) E1) (cO (dA (m.length:Int)) (0:Int))))
def Xu m:=(Ln m).m
abbrev Qx m:=(Ln m).p
def Znp:ba:=mT 116 [] true [.one (.ints .u32)] [] (λa r=>Ln (dh .u32 a 0)) (λX=>.all 0) (λX=>[⟨false,25,1,.ints .u32 X⟩])
theorem Zi8:bm pG Znp:=oT (.nil) Tryz.func116 Tryz.call116 [.row 25 1 (.ints .u32)] [] 2
def J8(m:bd):Tree bd:=
.an (Qx m.Mem) (.lv (Xu m.Mem) λ(x0:List Int)=>.lf ({B4:=m.B4,Mem:=x0,B1:=m.B1,B8:=m.B8,B7:=m.B7,D2:=m.D2,A6:=m.A6,B6:=m.B6,B2:=m.B2,B5:=m.B5}))
def Ta m:=(J8 m).m
abbrev Qrv m:=(J8 m).p
def Zqe:ba:=mT 74 [] true [.agg bd.sig] [] (λa r=>J8 (bd.of (aC a 0))) (λX=>.agg (bd.cq X (.all 0))) (λX=>[⟨false,25,1,.ints .u32 X.Mem⟩])
theorem Zm9:bm pG Zqe:=oT (.cons Zi8 (.nil)) Tryz.func74 Tryz.call74 [.row 25 1 (.ints .u32)] [] 2
def Qu8(n k:Int)(z:(Int)×(List Int)):Prop:=0<=z.1/\(z.2.length:Int)=z.1/\(z.1<=k\/z.1=0)
def TH(n k:Int)(z:(Int)×(List Int)):Nat:=(k-z.1).toNat
def LB(n k:Int):Tree (List UInt8):=
.lp inferInstance (TH n k (0,[])+1) ((rE (n:Int)/\rE (k:Int)/\True/\rE (0:Int)/\True)/\rE ([]:List Int)/\True) (0,[]) λ(v0:Int×List Int)=>.br (decide (v0.1<k)) (.lv (TJ n (wrap i64 (eF v0.1 9))) λ(x0:Int)=>.cn (decide (1*(v0.2.length+1)<=140737488355328)) (.nx ((rE (n:Int)/\rE (k:Int)/\True/\rE ((wrap i64 (v0.1+1)):Int)/\True)/\rE ((v0.2++[wrap u8 x0]):List Int)/\True) (Sum.inl (wrap i64 (v0.1+1),v0.2++[wrap u8 x0])))) (.lf (Sum.inr (bytesOf v0.2)))
def XS n k:=(LB n k).m
def OS(n k:Int):Prop:=
k<=1000000000000
theorem Zcv(n k:Int)(hw:OS n k):(LB n k).p:=by
 simp only[OS]at hw
 unfold Tree.p LB
 repeat'(first|refine fp (inv:=Qu8 n k) (μ:=TH n k) ?_ (cN _) (λ_ _=>?_)|exact trivial|refine ae (λ_=>?_) (λ_=>?_)|refine ax ?_ ?_|refine c9 ?_ ?_|refine aq (λ_ _=>?_)|refine e6 ?_|refine bh ?_|refine And.intro ?_ ?_)
 all_goals((try simp only[Qu8,TH]at*);exact nE)
def Zjr:cg:={
 α:=(Int)×(List Int)
 F:=λst a=>([(0,(lk st 0)),(1,(lk st 1)),(5,.all 0),(6,.int i64 a.1)],[⟨false,5,1,.ints u8 a.2⟩])
 a0:=λst=>((lk st 6).toInt,(Q3 st.rows (rN st 5)))
 ji:=λst=>[]++[(rX st 5 0)]}
def Z8m:List (Nat×cg):=[(3,Zjr)]
def Zmf:ba:=kY 81 [] true [.one (.int .i64),.one (.int .i64)] [] (λa r=>OS (au a 0) (au a 1)) (λa r=>XS (au a 0) (au a 1)) (λX=>.str X) (λX=>[])
theorem Zj3:bm pG Zmf:=uL drawn jt (.cons Quz (.nil)) Tryz.func81 Tryz.call81 (λa r=>LB (au a 0) (au a 1)) [] Z8m 3 (hp:=λa r h=>Zcv (au a 0) (au a 1) h)
def ZJ(m:List Int):Tree Int:=
.br (cZ (m.length:Int) (32:Int) !=(0:Int)) (.lf 0) (.br (decide ((m.length:Int)>(1024:Int))) (.lf 0) (.lf (wrap i64 (eF (m.length:Int) 32))))
def u7 m:=(ZJ m).m
def Zjq:ba:=mS 36 [] true [.one (.ints .u32)] [] (λa r=>ZJ (dh .u32 a 0)) (λX=>.int .i64 X) (λX=>[])
theorem RG:bm pG Zjq:=oS (.nil) Tryz.func36 Tryz.call36 [] [] 2
def Qn4(c:iK):Tree Bool:=
.lf (decide ((c.D9.length:Int)<=(16:Int)))
def Qj2 c:=(Qn4 c).m
def Qzv:ba:=mS 82 [] true [.agg iK.sig] [] (λa r=>Qn4 (iK.of (aC a 0))) (λX=>.bool X) (λX=>[])
theorem Qy7:bm pG Qzv:=oS (.nil) Tryz.func82 Tryz.call82 [] [] 2
def W0(t:iS):Tree Bool:=
.br t.F1 (.br t.E0 (.lf false) (.br t.F1 (.lf (t.D3 !=0)) (.br t.E0 (.lf true) (.lf (t.D3==0))))) (.br t.F1 (.lf (t.D3 !=0)) (.br t.E0 (.lf true) (.lf (t.D3==0))))
def SZ t:=(W0 t).m
def Z75:ba:=mS 83 [] true [.agg iS.sig] [] (λa r=>W0 (iS.of (aC a 0))) (λX=>.bool X) (λX=>[])
theorem Z2m:bm pG Z75:=oS (.nil) Tryz.func83 Tryz.call83 [] [] 2
def W4(d0:fu)(bj:Int):Tree Bool:=
.br (decide (d0.ab>64)) (.lf false) (.br (decide (d0.C7<0)) (.lf false) (.br (decide (d0.C7>3)) (.lf false) (.br (d0.C7 !=1) (.br (d0.F6==0) (.br (d0.C5==0) (.br (d0.C6==0) (.lf (decide (d0.C9=[]))) (.lf false)) (.lf false)) (.lf false)) (.br (decide (d0.C5>=d0.ab)) (.lf false) (.br (decide (wrap i64 d0.C6>=bj)) (.lf false) (.br (d0.F6==1) (.br (decide (d0.C9=[])) (.lf true) (.br (d0.F6==2) (.lf ((d0.C9.length:Int)==(128:Int))) (.lf false))) (.br (d0.F6==2) (.lf ((d0.C9.length:Int)==(128:Int))) (.lf false))))))))
def S1 d0 bj:=(W4 d0 bj).m
def Z8c:ba:=mS 84 [] true [.agg fu.sig,.one (.int .i64)] [] (λa r=>W4 (fu.of (aC a 0)) (au a 1)) (λX=>.bool X) (λX=>[])
theorem Z7a:bm pG Z8c:=oS (.nil) Tryz.func84 Tryz.call84 [] [] 2
def W3(n:gw)(bj:Int):Tree Bool:=
let T1:Tree (Bool):=.br n.C4 (.br (decide (n.F9>=1)) (.lf (decide (n.F9<=128))) (.lf false)) (.lf (n.F9==0));.br n.D1 (.br n.C4 (.lf false) (.br (decide (wrap i64 n.D4>=bj)) (.lf false) (.br (!n.D1) (.br (n.D4 !=0) (.lf false) T1) T1))) (.br (!n.D1) (.br (n.D4 !=0) (.lf false) T1) T1)
def S0 n bj:=(W3 n bj).m
def Zcz:ba:=mS 85 [] true [.agg gw.sig,.one (.int .i64)] [] (λa r=>W3 (gw.of (aC a 0)) (au a 1)) (λX=>.bool X) (λX=>[])
theorem Z9k:bm pG Zcz:=oS (.nil) Tryz.func85 Tryz.call85 [] [] 2
def Qhx(b:gb)(bj:Int)(z:(Int)):Prop:=0<=z/\z<=32
def S4(b:gb)(bj:Int)(z:(Int)):Nat:=(32-z).toNat
def Lc(b:gb)(bj:Int):Tree Bool:=
.lp inferInstance (S4 b bj 0+1) ((rE (bj:Int)/\rZ/\rE (0:Int)/\True)/\(rE b.A2/\rE b.D0/\True)/\True) 0 λ(v0:Int)=>.br (decide (v0<32)) (.cn (decide (0<=wrap u64 v0)) (let T1:Tree ((Int)⊕(Bool)):=.nx ((rE (bj:Int)/\rZ/\rE ((wrap i64 (v0+1)):Int)/\True)/\(rE b.A2/\rE b.D0/\True)/\True) (Sum.inl (wrap i64 (v0+1)));.br (bb u32 (bc u32 b.D0 (wrap u64 v0)) (1:Int)==(1:Int)) (.br (decide (v0>=bj)) (.lf (Sum.inr false)) T1) T1)) (.lf (Sum.inr true))
def S5 b bj:=(Lc b bj).m
theorem Qup(b:gb)(bj:Int):(Lc b bj).p:=by
 unfold Tree.p Lc
 repeat'(first|refine fp (inv:=Qhx b bj) (μ:=S4 b bj) ?_ (cN _) (λ_ _=>?_)|exact trivial|refine ae (λ_=>?_) (λ_=>?_)|refine ax ?_ ?_|refine c9 ?_ ?_|refine aq (λ_ _=>?_)|refine e6 ?_|refine bh ?_|refine And.intro ?_ ?_)
 all_goals((try simp only[Qhx,S4]at*);exact nE)
def Qw1:cg:={
 α:=(Int)
 F:=λst a=>([(1,(lk st 1)),(2,.ptr 0 0 0),(5,.int i64 a)],[⟨true,40,2,.gen [[(cT st 2 0),(cT st 2 1)]]⟩])
 a0:=λst=>(lk st 5).toInt
 ji:=λst=>[]++[(rX st 2 0)]}
def Qtg:List (Nat×cg):=[(2,Qw1)]
def Qz2:ba:=mS 86 [] true [.agg gb.sig,.one (.int .i64)] [] (λa r=>Lc (gb.of (aC a 0)) (au a 1)) (λX=>.bool X) (λX=>[])
theorem Qxe:bm pG Qz2:=oS (.nil) Tryz.func86 Tryz.call86 [] Qtg 3 (λ_ _ _=>by kernel_rfl) (λa r=>Qup (gb.of (aC a 0)) (au a 1)) (λ_ X=>by kernel_rfl)
def Xl(m:bd):Tree Bool:=
.lv (u7 m.Mem) λ(x0:Int)=>.br (decide (x0<1)) (.lf false) (.br (m.B4.X.a0 !=0) (.lf false) (.br (decide (m.B4.C3.a0>31)) (.lf false) (.br (decide (m.B4.C3.a7>31)) (.lf false) (.br (decide (m.B4.C3.a6>255)) (.lf false) (.br (cZ m.B4.C3.a1 (4:Int) !=(0:Int)) (.lf false) (.lv (Qj2 m.B1) λ(x1:Bool)=>.br (!x1) (.lf false) (.lv (SZ m.B8) λ(x2:Bool)=>.br (!x2) (.lf false) (.lv (S1 m.B7 x0) λ(x3:Bool)=>.br (!x3) (.lf false) (.lv (S0 m.D2 x0) λ(x4:Bool)=>.br (!x4) (.lf false) (.lv (S5 m.A6 x0) λ(x5:Bool)=>.br (!x5) (.lf false) (.br (decide (m.B6<=1152921504606846976)) (.br m.B2 (.lf (!m.B5)) (.lf true)) (.lf false))))))))))))
def Ix m:=(Xl m).m
def Zqs:ba:=mS 34 [] true [.agg bd.sig] [] (λa r=>Xl (bd.of (aC a 0))) (λX=>.bool X) (λX=>[])
theorem Zlz:bm pG Zqs:=oS (.cons RG (.cons Qy7 (.cons Z2m (.cons Z7a (.cons Z9k (.cons Qxe (.nil))))))) Tryz.func34 Tryz.call34 [] [] 2
def QU(is:Bool)(n:Int):Tree Int:=
.br is (.cn (decide (0<=wrap u64 n)) (.lf (eu u32 1 (wrap u64 n)))) (.lf 0)
def Dy is n:=(QU is n).m
abbrev RH is n:=(QU is n).p
def Znn:ba:=mT 255 [] true [.one (.bool),.one (.int .i64)] [] (λa r=>QU (kq a 0) (au a 1)) (λX=>.int .u32 X) (λX=>[])
theorem Zj5:bm pG Znn:=oT (.nil) Tryz.func255 Tryz.call255 [] [] 2
def Qjq(t:iS):Tree Bool:=
.lf t.E0
def Xo t:=(Qjq t).m
def Qv2:ba:=mS 256 [] true [.agg iS.sig] [] (λa r=>Qjq (iS.of (aC a 0))) (λX=>.bool X) (λX=>[])
theorem Qtx:bm pG Qv2:=oS (.nil) Tryz.func256 Tryz.call256 [] [] 2
def Qgn(c:iK):Tree Bool:=
.lf (decide ((c.D9.length:Int)>(0:Int)))
def S3 c:=(Qgn c).m
def Qqk:ba:=mS 257 [] true [.agg iK.sig] [] (λa r=>Qgn (iK.of (aC a 0))) (λX=>.bool X) (λX=>[])
theorem Qq9:bm pG Qqk:=oS (.nil) Tryz.func257 Tryz.call257 [] [] 2
def Qlw(d0:fu):Tree Bool:=
.br (d0.C7==2) (.lf true) (.lf (d0.C7==3))
def Xp d0:=(Qlw d0).m
def Qxk:ba:=mS 258 [] true [.agg fu.sig] [] (λa r=>Qlw (fu.of (aC a 0))) (λX=>.bool X) (λX=>[])
theorem Quv:bm pG Qxk:=oS (.nil) Tryz.func258 Tryz.call258 [] [] 2
def Qmk(n:gw):Tree Bool:=
.lf n.C4
def Xq n:=(Qmk n).m
def Qzn:ba:=mS 259 [] true [.agg gw.sig] [] (λa r=>Qmk (gw.of (aC a 0))) (λX=>.bool X) (λX=>[])
theorem Qvv:bm pG Qzn:=oS (.nil) Tryz.func259 Tryz.call259 [] [] 2
def Qrb(b:gb)(z:(Int)×(Int)):Prop:=0<=z.2/\z.2<=32
def Qh9(b:gb)(z:(Int)×(Int)):Nat:=(32-z.2).toNat
def Vm(b:gb):Tree Int:=
.lp inferInstance (Qh9 b (0,0)+1) ((rZ/\rE (0:Int)/\rE (0:Int)/\True)/\(rE b.A2/\rE b.D0/\True)/\True) (0,0) λ(v0:Int×Int)=>.br (decide (v0.2<32)) (.cn (decide (0<=wrap u64 v0.2)) (.nx ((rZ/\rE ((wrap i64 (v0.1+wrap i64 (bb u32 (bc u32 b.D0 (wrap u64 v0.2)) 1))):Int)/\rE ((wrap i64 (v0.2+1)):Int)/\True)/\(rE b.A2/\rE b.D0/\True)/\True) (Sum.inl (wrap i64 (v0.1+wrap i64 (bb u32 (bc u32 b.D0 (wrap u64 v0.2)) 1)),wrap i64 (v0.2+1))))) (.lf (Sum.inr v0.1))
def K5 b:=(Vm b).m
theorem Zag(b:gb):(Vm b).p:=by
 unfold Tree.p Vm
 repeat'(first|refine fp (inv:=Qrb b) (μ:=Qh9 b) ?_ (cN _) (λ_ _=>?_)|exact trivial|refine ae (λ_=>?_) (λ_=>?_)|refine ax ?_ ?_|refine c9 ?_ ?_|refine aq (λ_ _=>?_)|refine e6 ?_|refine bh ?_|refine And.intro ?_ ?_)
 all_goals((try simp only[Qrb,Qh9]at*);exact nE)
def Zg6:cg:={
 α:=(Int)×(Int)
 F:=λst a=>([(1,.ptr 0 0 0),(3,.int i64 a.1),(4,.int i64 a.2)],[⟨true,40,2,.gen [[(cT st 1 0),(cT st 1 1)]]⟩])
 a0:=λst=>((lk st 3).toInt,(lk st 4).toInt)
 ji:=λst=>[]++[(rX st 1 0)]}
def Z4w:List (Nat×cg):=[(3,Zg6)]
def Zkn:ba:=mS 225 [] true [.agg gb.sig] [] (λa r=>Vm (gb.of (aC a 0))) (λX=>.int .i64 X) (λX=>[])
theorem Qx8:bm pG Zkn:=oS (.nil) Tryz.func225 Tryz.call225 [] Z4w 3 (λ_ _ _=>by kernel_rfl) (λa r=>Zag (gb.of (aC a 0))) (λ_ X=>by kernel_rfl)
def Xg(b:gb):Tree Bool:=
.lv (K5 b) λ(x0:Int)=>.lf (wrap u64 x0 !=wrap u64 b.A2)
def N2 b:=(Xg b).m
def Qr1:ba:=mS 260 [] true [.agg gb.sig] [] (λa r=>Xg (gb.of (aC a 0))) (λX=>.bool X) (λX=>[])
theorem Qq6:bm pG Qr1:=oS (.cons Qx8 (.nil)) Tryz.func260 Tryz.call260 [] [] 2
def QV(m:bd):Tree Int:=
.lv (Xo m.B8) λ(x0:Bool)=>.an (RH x0 0) (.lv (Dy x0 0) λ(x1:Int)=>.lv (S3 m.B1) λ(x2:Bool)=>.an (RH x2 1) (.lv (Dy x2 1) λ(x3:Int)=>.lv (Xp m.B7) λ(x4:Bool)=>.an (RH x4 2) (.lv (Dy x4 2) λ(x5:Int)=>.lv (Xq m.D2) λ(x6:Bool)=>.an (RH x6 3) (.lv (Dy x6 3) λ(x7:Int)=>.lv (N2 m.A6) λ(x8:Bool)=>.an (RH x8 4) (.lv (Dy x8 4) λ(x9:Int)=>.lf (iG u32 (iG u32 (iG u32 (iG u32 x1 x3) x5) x7) x9))))))
def N4 m:=(QV m).m
abbrev Qu0 m:=(QV m).p
def Zhe:ba:=mT 210 [] true [.agg bd.sig] [] (λa r=>QV (bd.of (aC a 0))) (λX=>.int .u32 X) (λX=>[])
theorem Zde:bm pG Zhe:=oT (.cons Zj5 (.cons Qtx (.cons Qq9 (.cons Quv (.cons Qvv (.cons Qq6 (.nil))))))) Tryz.func210 Tryz.call210 [] [] 2
def Lj(m:bd):Tree Int:=
.an (Qu0 m) (.lv (N4 m) λ(x0:Int)=>.lf (bb u32 x0 m.B4.C3.a7))
def AN m:=(Lj m).m
abbrev Qh1 m:=(Lj m).p
def Z99:ba:=mT 156 [] true [.agg bd.sig] [] (λa r=>Lj (bd.of (aC a 0))) (λX=>.int .u32 X) (λX=>[])
theorem Qqx:bm pG Z99:=oT (.cons Zde (.nil)) Tryz.func156 Tryz.call156 [] [] 2
def Ll(m:bd):Tree Bool:=
.br m.B2 (.an (Qh1 m) (.lv (AN m) λ(x0:Int)=>.lf (x0==0))) (.lf false)
def Iz m:=(Ll m).m
abbrev Qon m:=(Ll m).p
def Zmo:ba:=mT 117 [] true [.agg bd.sig] [] (λa r=>Ll (bd.of (aC a 0))) (λX=>.bool X) (λX=>[])
theorem Zjg:bm pG Zmo:=oT (.cons Qqx (.nil)) Tryz.func117 Tryz.call117 [] [] 2
def S9(m:bd):Tree Bool:=
.lv (Ix m) λ(x0:Bool)=>.br (!x0) (.lf true) (.br m.B5 (.lf true) (.an (Qon m) (.lv (Iz m) λ(x1:Bool)=>.br x1 (.lf true) (.lf (decide (m.B6>=1152921504606846976))))))
def Gx m:=(S9 m).m
abbrev Z9o m:=(S9 m).p
end
noncomputable section
def KS(m:List Int)(addr size v:Int):Tree (List Int):=
let E1:=bX 1 1&&bN 0 1&&decide (0<=wrap u32 (eF addr 4)/\wrap u32 (eF addr 4)<(m.length:Int));let E2:=dA (wrap u32 (eF addr 4));.br (size==4) (.cn E1 (.lf (dB m E2 v))) (.cn E1 (let E3:=decide (0<=wrap u32 (8*cZ addr 4));.cn E3 (.cn E3 (.cn E1 (.lf (dB m E2 (iG u32 (oD u32 (m.getD E2 0) (eu u32 255 (wrap u32 (8*cZ addr 4)))) (eu u32 (bb u32 v 255) (wrap u32 (8*cZ addr 4))))))))))
def Ir m addr size v:=(KS m addr size v).m
abbrev Qls m addr size v:=(KS m addr size v).p
def Zqy:ba:=mT 221 [true,false,false,false] true [.one (.row 0),.one (.int .u32),.one (.int .i64),.one (.int .u32)] [.arr 25 1 (.ints .u32)] (λa r=>KS (cw .u32 r 0) (au a 1) (au a 2) (au a 3)) (λX=>.dw []) (λX=>[⟨false,25,1,.ints .u32 X⟩])
theorem Z6o:bm pG Zqy:=oT (.nil) Tryz.func221 Tryz.call221 [] [] 2
def Zax(b:Bool):Tree Int:=
.br b (.lf 1) (.lf 0)
def BQ b:=(Zax b).m
def Zsk:ba:=mS 211 [] true [.one (.bool)] [] (λa r=>Zax (kq a 0)) (λX=>.int .u32 X) (λX=>[])
theorem Qus:bm pG Zsk:=oS (.nil) Tryz.func211 Tryz.call211 [] [] 2
def NN(c:bn)(ou bad:Int):Tree bn:=
.lv (BQ (bb u32 c.C3.a0 (1:Int) !=(0:Int))) λ(x0:Int)=>.lv (BQ (bb u32 c.C3.a0 (2:Int) !=(0:Int))) λ(x1:Int)=>.lf ({X:=c.X,Pc:=c.C3.a1,C3:={a0:=iG u32 (oD u32 (iG u32 (iG u32 (oD u32 c.C3.a0 24) (wrap u32 (8*x0))) (wrap u32 (16*x1))) 2) 1,a1:=c.C3.a1,a2:=c.Pc,a3:=wrap u32 ou,a4:=bad,a5:=c.C3.a5,a6:=c.C3.a6,a7:=c.C3.a7}})
def pD c ou bad:=(NN c ou bad).m
def Zme:ba:=mS 157 [] true [.agg bn.sig,.one (.int .i64),.one (.int .u32)] [] (λa r=>NN (bn.of (aC a 0)) (au a 1) (au a 2)) (λX=>.agg (bn.cells X)) (λX=>[])
theorem Vn:bm pG Zme:=oS (.cons Qus (.nil)) Tryz.func157 Tryz.call157 [] [] 2
def Ip(m:List Int)(addr size:Int):Tree Bool:=
let T1:Tree (Bool):=.cn (decide (wrap u32 size≠0)) (.br (cZ addr (wrap u32 size)==0) (.lv (u7 m) λ(x0:Int)=>.lf (decide (addr<wrap u32 (wrap i64 (128*x0))))) (.lf false));.br (size !=1) (.br (size !=4) (.lf false) T1) T1
def ub m addr size:=(Ip m addr size).m
abbrev Qd7 m addr size:=(Ip m addr size).p
def Zf5:ba:=mT 214 [] true [.one (.ints .u32),.one (.int .u32),.one (.int .i64)] [] (λa r=>Ip (dh .u32 a 0) (au a 1) (au a 2)) (λX=>.bool X) (λX=>[])
theorem Qmf:bm pG Zf5:=oT (.cons RG (.nil)) Tryz.func214 Tryz.call214 [] [] 2
def Dv(m:List Int)(addr size:Int):Tree (Int×Bool):=
.an (Qd7 m addr size) (.lv (ub m addr size) λ(x0:Bool)=>.br (!x0) (.lf (0,false)) (.cn (bX 1 1&&bN 0 1&&decide (0<=wrap u32 (eF addr 4)/\wrap u32 (eF addr 4)<(m.length:Int))) (.br (size==1) (.cn (decide (0<=wrap u32 (8*cZ addr 4))) (.lf (bb u32 (bc u32 (m.getD (dA (wrap u32 (eF addr 4))) 0) (wrap u32 (8*cZ addr 4))) 255,true))) (.lf (m.getD (dA (wrap u32 (eF addr 4))) 0,true)))))
def oF m addr size:=(Dv m addr size).m
abbrev U9 m addr size:=(Dv m addr size).p
def Zn5:ba:=mT 159 [] true [.one (.ints .u32),.one (.int .u32),.one (.int .i64)] [] (λa r=>Dv (dh .u32 a 0) (au a 1) (au a 2)) (λX=>.dw [.int .u32 (X.1),.bool (X.2)]) (λX=>[])
theorem Qri:bm pG Zn5:=oT (.cons Qmf (.nil)) Tryz.func159 Tryz.call159 [] [] 2
def KM(w:Int):Tree (gr×Bool):=
.lv (oE (wrap i64 (bc u32 w 24))) λ(x0:Int)=>let E5:=({Op:=0,A:=0,B:=0,C:=0,bw:=0}:gr);.br (x0==0) (.lf (E5,false)) (.br (x0==2) (let E3:=({Op:=wrap i64 (bc u32 w 24),A:=wrap i64 (bb u32 (bc u32 w 20) 15),B:=wrap i64 (bb u32 (bc u32 w 16) 15),C:=wrap i64 (bb u32 w 65535),bw:=0}:gr);.lv (Er E3) λ(x1:Bool)=>.br (!x1) (.lf (E5,false)) (.lf (E3,true))) (let T1:Tree ((gr×Bool)):=let E2:=({Op:=wrap i64 (bc u32 w 24),A:=wrap i64 (bb u32 (bc u32 w 20) 15),B:=wrap i64 (bb u32 (bc u32 w 16) 15),C:=0,bw:=wrap i32 (wrap i16 (bb u32 w 65535))}:gr);.lv (Er E2) λ(x2:Bool)=>.br (!x2) (.lf (E5,false)) (.lf (E2,true));.br (x0==3) T1 (.br (x0==7) T1 (let E4:=({Op:=wrap i64 (bc u32 w 24),A:=wrap i64 (bb u32 (bc u32 w 20) 15),B:=wrap i64 (bb u32 (bc u32 w 16) 15),C:=0,bw:=wrap i32 (bb u32 w 65535)}:gr);.lv (Er E4) λ(x4:Bool)=>.br (!x4) (.lf (E5,false)) (.lf (E4,true))))))
def AI w:=(KM w).m
def Zdo:ba:=mS 160 [] true [.one (.int .u32)] [] (λa r=>KM (au a 0)) (λX=>.dw [.agg (gr.cells (X.1)),.bool (X.2)]) (λX=>[])
theorem Qu6:bm pG Zdo:=oS (.cons Rp (.cons Qx3 (.nil))) Tryz.func160 Tryz.call160 [] [] 2
def Z1c(access:Int):Tree Bool:=
.br (decide (access>=1)) (.lf (decide (access<=3))) (.lf false)
def NJ access:=(Z1c access).m
def Zj1:ba:=mS 212 [] true [.one (.int .i64)] [] (λa r=>Z1c (au a 0)) (λX=>.bool X) (λX=>[])
theorem Qxv:bm pG Zj1:=oS (.nil) Tryz.func212 Tryz.call212 [] [] 2
def Z1r(c:bn):Tree Bool:=
.lf (bb u32 c.C3.a0 (5:Int)==(4:Int))
def WS c:=(Z1r c).m
def Zk6:ba:=mS 213 [] true [.agg bn.sig] [] (λa r=>Z1r (bn.of (aC a 0))) (λX=>.bool X) (λX=>[])
theorem Zfa:bm pG Zk6:=oS (.nil) Tryz.func213 Tryz.call213 [] [] 2
def K1(access:Int):Tree Int:=
.br (access==1) (.lf 4) (.br (access==3) (.lf 6) (.lf 5))
def BP access:=(K1 access).m
def Zaf:ba:=mS 215 [] true [.one (.int .i64)] [] (λa r=>K1 (au a 0)) (λX=>.int .i64 X) (λX=>[])
theorem Qrn:bm pG Zaf:=oS (.nil) Tryz.func215 Tryz.call215 [] [] 2
def Gs(m:List Int)(root va access:Int):Tree rj:=
.lv (BP access) λ(x0:Int)=>.lv (u7 m) λ(x1:Int)=>.lv (NJ access) λ(x2:Bool)=>let E4:=({Addr:=0,G1:=0,G0:=x0}:rj);.br (!x2) (.lf (E4)) (.br (decide (va>=4096)) (.lf (E4)) (.br (decide (root>=wrap u32 x1)) (.lf (E4)) (let E6:=wrap u32 (root*128)+wrap u32 (4*wrap u32 (eF va 128));let E3:=eF (wrap u32 E6) 4;.cn (bX 1 1&&bN 0 1&&decide (0<=wrap u32 E3/\wrap u32 E3<(m.length:Int))) (let E5:=m.getD (dA (wrap u32 E3)) 0;.br (bb u32 E5 (1:Int)==(0:Int)) (.lf (E4)) (let T1:Tree (rj):=.br (decide (bb u32 (bc u32 E5 8) 255>=wrap u32 x1)) (.lf (E4)) (.lf ({Addr:=wrap u32 (wrap u32 (bb u32 (bc u32 E5 8) (255:Int)*(128:Int))+cZ va 128),G1:=wrap u32 E6,G0:=0}));let T2:Tree (rj):=.br (access==1) (.br (bb u32 E5 (4:Int)==(0:Int)) (.lf (E4)) T1) T1;.br (access==3) (.br (bb u32 E5 (2:Int)==(0:Int)) (.lf (E4)) T2) T2)))))
def Aa m root va access:=(Gs m root va access).m
abbrev Qwx m root va access:=(Gs m root va access).p
def Zl9:ba:=mT 216 [] true [.one (.ints .u32),.one (.int .u32),.one (.int .u32),.one (.int .i64)] [] (λa r=>Gs (dh .u32 a 0) (au a 1) (au a 2) (au a 3)) (λX=>.agg (rj.cells X)) (λX=>[])
theorem Zhk:bm pG Zl9:=oT (.cons Qrn (.cons RG (.cons Qxv (.nil)))) Tryz.func216 Tryz.call216 [] [] 2
def KV(m:List Int)(entry access:Int):Tree (List Int):=
.an (Qd7 m entry 4) (.lv (ub m entry 4) λ(x0:Bool)=>.br (!x0) (.lf m) (let E3:=bX 1 1&&bN 0 1&&decide (0<=wrap u32 (eF entry 4)/\wrap u32 (eF entry 4)<(m.length:Int));.cn E3 (.cn E3 (let E4:=dA (wrap u32 (eF entry 4));let E1:=dB m E4 (iG u32 (m.getD E4 0) 8);.br (access==3) (let E2:=bX 1 1&&bN 0 1&&decide (0<=wrap u32 (eF entry 4)/\wrap u32 (eF entry 4)<(↑(dF E1):Int));.cn E2 (.cn E2 (.lf (dB E1 E4 (iG u32 (aV E1 E4 0) 16))))) (.lf E1)))))
def SP m entry access:=(KV m entry access).m
abbrev Qxr m entry access:=(KV m entry access).p
def Zn8:ba:=mT 217 [true,false,false] true [.one (.row 0),.one (.int .u32),.one (.int .i64)] [.arr 25 1 (.ints .u32)] (λa r=>KV (cw .u32 r 0) (au a 1) (au a 2)) (λX=>.dw []) (λX=>[⟨false,25,1,.ints .u32 X⟩])
theorem Zkt:bm pG Zn8:=oT (.cons Qmf (.nil)) Tryz.func217 Tryz.call217 [] [] 2
def Iu(c:bn)(m:List Int)(va size access:Int):Tree (Int×Int×(List Int)):=
.lv (NJ access) λ(x0:Bool)=>.br (!x0) (.lf (0,5,m)) (let T1:Tree ((Int×Int×(List Int))):=.cn (decide (wrap u32 size≠0)) (.br (cZ va (wrap u32 size) !=0) (.lf (0,3,m)) (.lv (WS c) λ(x1:Bool)=>.br (!x1) (.an (Qd7 m va size) (.lv (ub m va size) λ(x2:Bool)=>.br (!x2) (.lv (BP access) λ(x3:Int)=>.lf (0,x3,m)) (.lf (va,0,m)))) (.an (Qwx m c.C3.a6 va access) (.lv (Aa m c.C3.a6 va access) λ(x4:rj)=>.br (x4.G0 !=0) (.lf (0,x4.G0,m)) (.an (Qxr m x4.G1 access) (.lv (SP m x4.G1 access) λ(x5:List Int)=>.lf (x4.Addr,0,x5)))))));.br (size !=1) (.br (size !=4) (.lf (0,5,m)) T1) T1)
def lD c m va size access:=(Iu c m va size access).m
abbrev RI c m va size access:=(Iu c m va size access).p
def Zia:ba:=mT 158 [false,true,false,false,false] true [.agg bn.sig,.one (.row 0),.one (.int .u32),.one (.int .i64),.one (.int .i64)] [.arr 25 1 (.ints .u32)] (λa r=>Iu (bn.of (aC a 0)) (cw .u32 r 0) (au a 2) (au a 3) (au a 4)) (λX=>.dw [.int .u32 (X.1),.int .i64 (X.2.1)]) (λX=>[⟨false,25,1,.ints .u32 (X.2.2)⟩])
theorem Qw6:bm pG Zia:=oT (.cons Qxv (.cons Zfa (.cons Qmf (.cons Qrn (.cons Zhk (.cons Zkt (.nil))))))) Tryz.func158 Tryz.call158 [] [] 2
def Qn3(op:Int):Tree Bool:=
.br (decide (op>=57)) (.lf (decide (op<=64))) (.lf false)
def KI op:=(Qn3 op).m
def Qye:ba:=mS 161 [] true [.one (.int .i64)] [] (λa r=>Qn3 (au a 0)) (λX=>.bool X) (λX=>[])
theorem Qy6:bm pG Qye:=oS (.nil) Tryz.func161 Tryz.call161 [] [] 2
def NP(c:bn):Tree bn:=
.lv (BQ (bb u32 c.C3.a0 (8:Int) !=(0:Int))) λ(x0:Int)=>.lv (BQ (bb u32 c.C3.a0 (16:Int) !=(0:Int))) λ(x1:Int)=>.lf ({X:=c.X,Pc:=c.C3.a2,C3:={a0:=iG u32 (iG u32 (oD u32 c.C3.a0 3) (wrap u32 (1*x0))) (wrap u32 (2*x1)),a1:=c.C3.a1,a2:=c.C3.a2,a3:=c.C3.a3,a4:=c.C3.a4,a5:=c.C3.a5,a6:=c.C3.a6,a7:=c.C3.a7}})
def SQ c:=(NP c).m
def Zdx:ba:=mS 218 [] true [.agg bn.sig] [] (λa r=>NP (bn.of (aC a 0))) (λX=>.agg (bn.cells X)) (λX=>[])
theorem Z9r:bm pG Zdx:=oS (.cons Qus (.nil)) Tryz.func218 Tryz.call218 [] [] 2
def It(c:bn)(r v:Int):Tree bn:=
.br (decide (r>0)) (.br (decide (r<16)) (.cn (bN 0 1&&decide (0<=r/\r<(↑16:Int))) (.lf ({X:=iv.of 0 (dB (iv.l c.X) r.toNat v),Pc:=c.Pc,C3:=c.C3}))) (.lf c)) (.lf c)
def ll c r v:=(It c r v).m
abbrev Db c r v:=(It c r v).p
def Zt:ba:=mT 121 [] true [.agg bn.sig,.one (.int .i64),.one (.int .u32)] [] (λa r=>It (bn.of (aC a 0)) (au a 1) (au a 2)) (λX=>.agg (bn.cells X)) (λX=>[])
theorem RJ:bm pG Zt:=oT (.nil) Tryz.func121 Tryz.call121 [] [] 2
def K3(c:bn)(jj v:Int):Tree bn:=
let E4:=bN 0 1&&decide (0<=jj/\jj<(↑8:Int));let T2:Tree (bn):=.cn E4 (.lf ({X:=c.X,Pc:=c.Pc,C3:=A8.of 0 (dB (A8.l c.C3) jj.toNat (bb u32 v 31))}));.br (jj==0) T2 (.br (jj==7) T2 (.br (jj==6) (.cn E4 (.lf ({X:=c.X,Pc:=c.Pc,C3:=A8.of 0 (dB (A8.l c.C3) jj.toNat (bb u32 v 255))}))) (let T3:Tree (bn):=.cn E4 (.lf ({X:=c.X,Pc:=c.Pc,C3:=A8.of 0 (dB (A8.l c.C3) jj.toNat (oD u32 v 3))}));.br (jj==1) T3 (.br (jj==2) T3 (let T1:Tree (bn):=.cn E4 (.lf ({X:=c.X,Pc:=c.Pc,C3:=A8.of 0 (dB (A8.l c.C3) jj.toNat v)}));.br (jj==3) T1 (.br (jj==4) T1 (.br (jj==5) T1 (.lf c))))))))
def NT c jj v:=(K3 c jj v).m
abbrev Qtz c jj v:=(K3 c jj v).p
def Zhg:ba:=mT 219 [] true [.agg bn.sig,.one (.int .i64),.one (.int .u32)] [] (λa r=>K3 (bn.of (aC a 0)) (au a 1) (au a 2)) (λX=>.agg (bn.cells X)) (λX=>[])
theorem Zga:bm pG Zhg:=oT (.nil) Tryz.func219 Tryz.call219 [] [] 2
def QR(c:bn)(i:gr):Tree (bn×kZ):=
.br (i.Op==56) (.lv (pD c 7 0) λ(x0:bn)=>.lf (x0,{C2:=0,D8:=0,F8:=0,Value:=0})) (.br (i.Op==57) (.lv (SQ c) λ(x1:bn)=>.lf (x1,{C2:=0,D8:=0,F8:=0,Value:=0})) (.br (i.Op==58) (.cn (bN 0 1&&decide (0<=i.bw/\i.bw<(↑8:Int))) (let E3:=aV (A8.l c.C3) i.bw.toNat 0;.an (Db c i.A E3) (.lv (ll c i.A E3) λ(x2:bn)=>.lf ({X:=x2.X,Pc:=wrap u32 (x2.Pc+4),C3:=x2.C3},{C2:=0,D8:=0,F8:=0,Value:=0})))) (let E2:=bN 0 1&&decide (0<=i.A/\i.A<(↑16:Int));.br (i.Op==59) (.cn E2 (let E4:=aV (iv.l c.X) i.A.toNat 0;.an (Qtz c (wrap i64 i.bw) E4) (.lv (NT c (wrap i64 i.bw) E4) λ(x3:bn)=>.lf ({X:=x3.X,Pc:=wrap u32 (x3.Pc+4),C3:=x3.C3},{C2:=0,D8:=0,F8:=0,Value:=0})))) (let E1:=({X:=c.X,Pc:=wrap u32 (c.Pc+4),C3:=c.C3}:bn);.br (i.Op==60) (.lf (E1,{C2:=1,D8:=wrap i64 i.bw,F8:=i.A,Value:=0})) (.br (i.Op==61) (.cn E2 (.lf (E1,{C2:=2,D8:=wrap i64 i.bw,F8:=0,Value:=aV (iv.l c.X) i.A.toNat 0}))) (.br (i.Op==62) (.lf (E1,{C2:=3,D8:=0,F8:=0,Value:=0})) (.br (i.Op==63) (.lf (E1,{C2:=5,D8:=0,F8:=0,Value:=0})) (.br (i.Op==64) (.lf (E1,{C2:=4,D8:=0,F8:=0,Value:=0})) (.lf (E1,{C2:=0,D8:=0,F8:=0,Value:=0}))))))))))
def WW c i:=(QR c i).m
abbrev Qs6 c i:=(QR c i).p
def Zdi:ba:=mT 162 [] true [.agg bn.sig,.agg gr.sig] [] (λa r=>QR (bn.of (aC a 0)) (gr.of (aC a 1))) (λX=>.dw [.agg (bn.cells (X.1)),.agg (kZ.cells (X.2))]) (λX=>[])
theorem Za9:bm pG Zdi:=oT (.cons Vn (.cons Z9r (.cons RJ (.cons Zga (.nil))))) Tryz.func162 Tryz.call162 [] [] 2
def Z1v(op a b:Int):Tree Bool:=
.br (op==40) (.lf (a==b)) (.br (op==41) (.lf (a !=b)) (.br (op==42) (.lf (decide (wrap i32 a<wrap i32 b))) (.br (op==43) (.lf (decide (wrap i32 a>=wrap i32 b))) (.br (op==44) (.lf (decide (a<b))) (.lf (decide (a>=b)))))))
def pU op a b:=(Z1v op a b).m
def Zkb:ba:=mS 220 [] true [.one (.int .i64),.one (.int .u32),.one (.int .u32)] [] (λa r=>Z1v (au a 0) (au a 1) (au a 2)) (λX=>.bool X) (λX=>[])
theorem Zd8:bm pG Zkb:=oS (.nil) Tryz.func220 Tryz.call220 [] [] 2
def Qk(c:bn)(i:gr):Tree bn:=
.br (i.Op==48) (.an (Db c i.A (wrap u32 (c.Pc+4))) (.lv (ll c i.A (wrap u32 (c.Pc+4))) λ(x0:bn)=>.lf ({X:=x0.X,Pc:=wrap u32 (c.Pc+wrap u32 (4*wrap u32 i.bw)),C3:=x0.C3}))) (let E1:=bN 0 1&&decide (0<=i.B/\i.B<(↑16:Int));.br (i.Op==49) (.cn E1 (.an (Db c i.A (wrap u32 (c.Pc+4))) (.lv (ll c i.A (wrap u32 (c.Pc+4))) λ(x1:bn)=>.lf ({X:=x1.X,Pc:=wrap u32 (aV (iv.l c.X) i.B.toNat 0+wrap u32 i.bw),C3:=x1.C3})))) (.cn (bN 0 1&&decide (0<=i.A/\i.A<(↑16:Int))) (.cn E1 (.lv (pU i.Op (aV (iv.l c.X) i.A.toNat 0) (aV (iv.l c.X) i.B.toNat 0)) λ(x2:Bool)=>.br x2 (.lf ({X:=c.X,Pc:=wrap u32 (c.Pc+wrap u32 (4*wrap u32 i.bw)),C3:=c.C3})) (.lf ({X:=c.X,Pc:=wrap u32 (c.Pc+4),C3:=c.C3}))))))
def Z50 c i:=(Qk c i).m
abbrev Qwq c i:=(Qk c i).p
def Zlr:ba:=mT 163 [] true [.agg bn.sig,.agg gr.sig] [] (λa r=>Qk (bn.of (aC a 0)) (gr.of (aC a 1))) (λX=>.agg (bn.cells X)) (λX=>[])
theorem Zib:bm pG Zlr:=oT (.cons RJ (.cons Zd8 (.nil))) Tryz.func163 Tryz.call163 [] [] 2
def QQ(x n:Int):Tree Int:=
.br (decide (n<1)) (.lf 0) (.br (decide (n>=32)) (.lf x) (.cn (decide (0<=wrap u64 n)) (.cn (decide (0<=wrap u64 (wrap i64 (n-1)))) (let E1:=bb u32 x (wrap u32 (eu u32 1 (wrap u64 n)-1));.br (bc u32 E1 (wrap u64 (wrap i64 (n-1)))==1) (.cn (decide (0<=wrap u64 n)) (.lf (iG u32 E1 (eu u32 4294967295 (wrap u64 n))))) (.lf E1)))))
def Gn x n:=(QQ x n).m
abbrev Qc8 x n:=(QQ x n).p
def Qz:ba:=mT 222 [] true [.one (.int .u32),.one (.int .i64)] [] (λa r=>QQ (au a 0) (au a 1)) (λX=>.int .u32 X) (λX=>[])
theorem Qya:bm pG Qz:=oT (.nil) Tryz.func222 Tryz.call222 [] [] 2
def Qa(c:bn)(m:List Int)(i:gr):Tree (bn×(List Int)):=
.cn (bN 0 1&&decide (0<=i.B/\i.B<(↑16:Int))) (let E4:=wrap u32 (aV (iv.l c.X) i.B.toNat 0+wrap u32 i.bw);let E5:=aV (iv.l c.X) i.A.toNat 0;let E6:=bN 0 1&&decide (0<=i.A/\i.A<(↑16:Int));let E7:=({X:=c.X,Pc:=wrap u32 (c.Pc+4),C3:=c.C3}:bn);let T1:Tree ((bn×(List Int))):=let T3:Tree ((bn×(List Int))):=.an (RI c m E4 4 3) (.lv (lD c m E4 4 3) λ(x0:Int×Int×List Int)=>.br (x0.2.1 !=0) (.lv (pD c x0.2.1 E4) λ(x1:bn)=>.lf (x1,x0.2.2)) (.cn E6 (.an (Qls x0.2.2 x0.1 4 E5) (.lv (Ir x0.2.2 x0.1 4 E5) λ(x2:List Int)=>.lf (E7,x2)))));.br (i.Op==35) T3 (.br (i.Op==36) T3 (.an (RI c m E4 4 2) (.lv (lD c m E4 4 2) λ(x6:Int×Int×List Int)=>.br (x6.2.1 !=0) (.lv (pD c x6.2.1 E4) λ(x7:bn)=>.lf (x7,x6.2.2)) (.an (U9 x6.2.2 x6.1 4) (.lv (oF x6.2.2 x6.1 4) λ(x8:Int×Bool)=>.br (i.Op==33) (.an (Qc8 x8.1 8) (.lv (Gn x8.1 8) λ(x9:Int)=>.an (Db c i.A x9) (.lv (ll c i.A x9) λ(mi:bn)=>.lf ({X:=mi.X,Pc:=wrap u32 (mi.Pc+4),C3:=mi.C3},x6.2.2)))) (.an (Db c i.A x8.1) (.lv (ll c i.A x8.1) λ(na:bn)=>.lf ({X:=na.X,Pc:=wrap u32 (na.Pc+4),C3:=na.C3},x6.2.2))))))));.br (i.Op==32) T1 (.br (i.Op==35) T1 (let T2:Tree ((bn×(List Int))):=.an (RI c m E4 1 3) (.lv (lD c m E4 1 3) λ(DO:Int×Int×List Int)=>.br (DO.2.1 !=0) (.lv (pD c DO.2.1 E4) λ(x25:bn)=>.lf (x25,DO.2.2)) (.cn E6 (.an (Qls DO.2.2 DO.1 1 E5) (.lv (Ir DO.2.2 DO.1 1 E5) λ(x26:List Int)=>.lf (E7,x26)))));.br (i.Op==35) T2 (.br (i.Op==36) T2 (.an (RI c m E4 1 2) (.lv (lD c m E4 1 2) λ(FB:Int×Int×List Int)=>.br (FB.2.1 !=0) (.lv (pD c FB.2.1 E4) λ(x31:bn)=>.lf (x31,FB.2.2)) (.an (U9 FB.2.2 FB.1 1) (.lv (oF FB.2.2 FB.1 1) λ(Vo:Int×Bool)=>.br (i.Op==33) (.an (Qc8 Vo.1 8) (.lv (Gn Vo.1 8) λ(x33:Int)=>.an (Db c i.A x33) (.lv (ll c i.A x33) λ(x34:bn)=>.lf ({X:=x34.X,Pc:=wrap u32 (x34.Pc+4),C3:=x34.C3},FB.2.2)))) (.an (Db c i.A Vo.1) (.lv (ll c i.A Vo.1) λ(x35:bn)=>.lf ({X:=x35.X,Pc:=wrap u32 (x35.Pc+4),C3:=x35.C3},FB.2.2)))))))))))
def Gt c m i:=(Qa c m i).m
abbrev Qn2 c m i:=(Qa c m i).p
def Z4q:ba:=mT 164 [false,true,false] true [.agg bn.sig,.one (.row 0),.agg gr.sig] [.arr 25 1 (.ints .u32)] (λa r=>Qa (bn.of (aC a 0)) (cw .u32 r 0) (gr.of (aC a 2))) (λX=>.agg (bn.cells (X.1))) (λX=>[⟨false,25,1,.ints .u32 (X.2)⟩])
theorem Z2c:bm pG Z4q:=oT (.cons Qw6 (.cons Vn (.cons Z6o (.cons Qri (.cons Qya (.cons RJ (.nil))))))) Tryz.func164 Tryz.call164 [] [] 2
def Z0w(op:Int):Tree Int:=
.br (op==16) (.lf 1) (.br (op==17) (.lf 3) (.br (op==18) (.lf 4) (.br (op==19) (.lf 5) (.br (op==20) (.lf 6) (.br (op==21) (.lf 7) (.br (op==22) (.lf 8) (.br (op==23) (.lf 12) (.lf op))))))))
def Zcl op:=(Z0w op).m
def Zgj:ba:=mS 223 [] true [.one (.int .i64)] [] (λa r=>Z0w (au a 0)) (λX=>.int .i64 X) (λX=>[])
theorem Zg7:bm pG Zgj:=oS (.nil) Tryz.func223 Tryz.call223 [] [] 2
def KZ(a b:Int):Tree (Int×Int):=
.br (b==0) (.lf (4294967295,a)) (.cn (decide (wrap i64 (wrap i32 b)≠0)) (.cn (decide (wrap i64 (wrap i32 b)≠0)) (.lf (wrap u32 (wrap i64 (eF (wrap i64 (wrap i32 a)) (wrap i64 (wrap i32 b)))),wrap u32 (cZ (wrap i64 (wrap i32 a)) (wrap i64 (wrap i32 b)))))))
def KX a b:=(KZ a b).m
abbrev Qkn a b:=(KZ a b).p
def Zew:ba:=mT 224 [] true [.one (.int .u32),.one (.int .u32)] [] (λa r=>KZ (au a 0) (au a 1)) (λX=>.dw [.int .u32 (X.1),.int .u32 (X.2)]) (λX=>[])
theorem Z8p:bm pG Zew:=oT (.nil) Tryz.func224 Tryz.call224 [] [] 2
def QP(op a b:Int):Tree (Int×Bool):=
.lv (Zcl op) λ(x0:Int)=>.br (x0==1) (.lf (wrap u32 (a+b),true)) (.br (x0==2) (.lf (wrap u32 (a-b),true)) (.br (x0==3) (.lf (bb u32 a b,true)) (.br (x0==4) (.lf (iG u32 a b,true)) (.br (x0==5) (.lf (rh u32 a b,true)) (.br (x0==6) (.lf (eu u32 a (bb u32 b 31),true)) (.br (x0==7) (.lf (bc u32 a (bb u32 b 31),true)) (.br (x0==8) (.lf (wrap u32 (bc i32 (wrap i32 a) (bb u32 b 31)),true)) (.br (x0==9) (.lf (wrap u32 (a*b),true)) (.br (x0==10) (.an (Qkn a b) (.lv (KX a b) λ(x1:Int×Int)=>.lf (x1.1,true))) (.br (x0==11) (.an (Qkn a b) (.lv (KX a b) λ(x2:Int×Int)=>.lf (x2.2,true))) (.br (x0==12) (.lv (BQ (decide (wrap i32 a<wrap i32 b))) λ(x3:Int)=>.lf (x3,true)) (.br (x0==13) (.lv (BQ (decide (a<b))) λ(x4:Int)=>.lf (x4,true)) (.lf (0,false))))))))))))))
def Dw op a b:=(QP op a b).m
abbrev Qrg op a b:=(QP op a b).p
def Zqn:ba:=mT 165 [] true [.one (.int .i64),.one (.int .u32),.one (.int .u32)] [] (λa r=>QP (au a 0) (au a 1) (au a 2)) (λX=>.dw [.int .u32 (X.1),.bool (X.2)]) (λX=>[])
theorem Zm8:bm pG Zqn:=oT (.cons Zg7 (.cons Z8p (.cons Qus (.nil)))) Tryz.func165 Tryz.call165 [] [] 2
def QS(c:bn)(m:List Int):Tree (bn×kZ×(List Int)):=
.an (RI c m c.Pc 4 1) (.lv (lD c m c.Pc 4 1) λ(x0:Int×Int×List Int)=>.br (x0.2.1 !=0) (.lv (pD c x0.2.1 c.Pc) λ(x1:bn)=>.lf (x1,{C2:=0,D8:=0,F8:=0,Value:=0},x0.2.2)) (.an (U9 x0.2.2 x0.1 4) (.lv (oF x0.2.2 x0.1 4) λ(x2:Int×Bool)=>.lv (AI x2.1) λ(x3:gr×Bool)=>.br (!x3.2) (.lv (pD c 1 x2.1) λ(x4:bn)=>.lf (x4,{C2:=0,D8:=0,F8:=0,Value:=0},x0.2.2)) (.lv (KI x3.1.Op) λ(x5:Bool)=>let T1:Tree ((bn×kZ×(List Int))):=.br (decide (x3.1.Op>=56)) (.an (Qs6 c x3.1) (.lv (WW c x3.1) λ(x7:bn×kZ)=>.lf (x7.1,x7.2,x0.2.2))) (.br (decide (x3.1.Op>=40)) (.an (Qwq c x3.1) (.lv (Z50 c x3.1) λ(x8:bn)=>.lf (x8,{C2:=0,D8:=0,F8:=0,Value:=0},x0.2.2))) (.br (decide (x3.1.Op>=32)) (.an (Qn2 c x0.2.2 x3.1) (.lv (Gt c x0.2.2 x3.1) λ(x9:bn×List Int)=>.lf (x9.1,{C2:=0,D8:=0,F8:=0,Value:=0},x9.2))) (.br (x3.1.Op==24) (.an (Db c x3.1.A (eu u32 (wrap u32 x3.1.bw) 16)) (.lv (ll c x3.1.A (eu u32 (wrap u32 x3.1.bw) 16)) λ(mi:bn)=>.lf ({X:=mi.X,Pc:=wrap u32 (mi.Pc+4),C3:=mi.C3},{C2:=0,D8:=0,F8:=0,Value:=0},x0.2.2))) (let E2:=aV (iv.l c.X) x3.1.B.toNat 0;let E3:=bN 0 1&&decide (0<=x3.1.B/\x3.1.B<(↑16:Int));.br (decide (x3.1.Op<=13)) (.cn (bN 0 1&&decide (0<=x3.1.C/\x3.1.C<(↑16:Int))) (.cn E3 (let E4:=aV (iv.l c.X) x3.1.C.toNat 0;.an (Qrg x3.1.Op E2 E4) (.lv (Dw x3.1.Op E2 E4) λ(na:Int×Bool)=>.an (Db c x3.1.A na.1) (.lv (ll c x3.1.A na.1) λ(pL:bn)=>.lf ({X:=pL.X,Pc:=wrap u32 (pL.Pc+4),C3:=pL.C3},{C2:=0,D8:=0,F8:=0,Value:=0},x0.2.2)))))) (.cn E3 (.an (Qrg x3.1.Op E2 (wrap u32 x3.1.bw)) (.lv (Dw x3.1.Op E2 (wrap u32 x3.1.bw)) λ(Ar:Int×Bool)=>.an (Db c x3.1.A Ar.1) (.lv (ll c x3.1.A Ar.1) λ(Fv:bn)=>.lf ({X:=Fv.X,Pc:=wrap u32 (Fv.Pc+4),C3:=Fv.C3},{C2:=0,D8:=0,F8:=0,Value:=0},x0.2.2)))))))));.br x5 (.br (bb u32 c.C3.a0 (1:Int)==(0:Int)) (.lv (pD c 2 x2.1) λ(x6:bn)=>.lf (x6,{C2:=0,D8:=0,F8:=0,Value:=0},x0.2.2)) T1) T1))))
def AK c m:=(QS c m).m
abbrev Z5p c m:=(QS c m).p
def yD:ba:=mT 119 [false,true] true [.agg bn.sig,.one (.row 0)] [.arr 25 1 (.ints .u32)] (λa r=>QS (bn.of (aC a 0)) (cw .u32 r 0)) (λX=>.dw [.agg (bn.cells (X.1)),.agg (kZ.cells (X.2.1))]) (λX=>[⟨false,25,1,.ints .u32 (X.2.2)⟩])
theorem Zrk:bm pG yD:=oT (.cons Qw6 (.cons Vn (.cons Qri (.cons Qu6 (.cons Qy6 (.cons Za9 (.cons Zib (.cons Z2c (.cons RJ (.cons Zm8 (.nil))))))))))) Tryz.func119 Tryz.call119 [] [] 2
end
noncomputable section
def NZ(m:List Int)(frame:Int):Tree Bool:=
.lv (u7 m) λ(x0:Int)=>.lf (decide (wrap u64 frame<wrap u64 x0))
def tk m frame:=(NZ m frame).m
def Zm5:ba:=mS 226 [] true [.one (.ints .u32),.one (.int .u32)] [] (λa r=>NZ (dh .u32 a 0) (au a 1)) (λX=>.bool X) (λX=>[])
theorem Rw:bm pG Zm5:=oS (.cons RG (.nil)) Tryz.func226 Tryz.call226 [] [] 2
def Qei(m:bd)(z:(Int)):Nat:=(32-z).toNat
def Lm(m:bd):Tree bn:=
.an (Qh1 m) (.lv (AN m) λ(x0:Int)=>.br (bb u32 m.B4.C3.a0 (2:Int)==(0:Int)) (.lf m.B4) (.br (x0==0) (.lf m.B4) (.lp inferInstance (Qei m 0+1) ((rZ/\rZ/\rE (x0:Int)/\rE (0:Int)/\True)/\(mE m (((ah.Nil (ah.ints u32 m.Mem)\/rE (1:Nat))/\rE m.Mem)) True)/\(rE (0:Int)/\rE (0:Int)/\rE (0:Int)/\rE (0:Int)/\rE (0:Int)/\rE (0:Int)/\rE (0:Int)/\rE (0:Int)/\rE (0:Int)/\rE (0:Int)/\rE (0:Int)/\rE (0:Int)/\rE (0:Int)/\rE (0:Int)/\rE (0:Int)/\rE (0:Int)/\rE (0:Int)/\rE (0:Int)/\rE (0:Int)/\rE (0:Int)/\rE (0:Int)/\rE (0:Int)/\rE (0:Int)/\rE (0:Int)/\rE (0:Int)/\True)/\True) 0 λ(v0:Int)=>.cn (decide (0<=wrap u64 v0)) (.br (bb u32 (bc u32 x0 (wrap u64 v0)) (1:Int)==(0:Int)) (.nx ((rZ/\rZ/\rE (x0:Int)/\rE ((wrap i64 (v0+1)):Int)/\True)/\(mE m (((ah.Nil (ah.ints u32 m.Mem)\/rE (1:Nat))/\rE m.Mem)) True)/\(rE (0:Int)/\rE (0:Int)/\rE (0:Int)/\rE (0:Int)/\rE (0:Int)/\rE (0:Int)/\rE (0:Int)/\rE (0:Int)/\rE (0:Int)/\rE (0:Int)/\rE (0:Int)/\rE (0:Int)/\rE (0:Int)/\rE (0:Int)/\rE (0:Int)/\rE (0:Int)/\rE (0:Int)/\rE (0:Int)/\rE (0:Int)/\rE (0:Int)/\rE (0:Int)/\rE (0:Int)/\rE (0:Int)/\rE (0:Int)/\rE (0:Int)/\True)/\True) (Sum.inl (wrap i64 (v0+1)))) (.lv (pD m.B4 (wrap i64 (16+v0)) 0) λ(x1:bn)=>.lf (Sum.inr x1))))))
def pV m:=(Lm m).m
abbrev Qaz m:=(Lm m).p
def Qvk:cg:={
 α:=(Int)
 F:=λst a=>([(1,.ptr 0 0 0),(2,.ptr 1 0 0),(3,(lk st 3)),(4,.int i64 a)],[⟨true,43,49,.gen [mB (cT st 1)]⟩,⟨true,29,25,.gen [[(cT st 2 0),(cT st 2 1),(cT st 2 2),(cT st 2 3),(cT st 2 4),(cT st 2 5),(cT st 2 6),(cT st 2 7),(cT st 2 8),(cT st 2 9),(cT st 2 10),(cT st 2 11),(cT st 2 12),(cT st 2 13),(cT st 2 14),(cT st 2 15),(cT st 2 16),(cT st 2 17),(cT st 2 18),(cT st 2 19),(cT st 2 20),(cT st 2 21),(cT st 2 22),(cT st 2 23),(cT st 2 24)]]⟩])
 a0:=λst=>(lk st 4).toInt
 ji:=λst=>[]++[(rX st 1 0),(rX st 2 1)]}
def Qr7:List (Nat×cg):=[(5,Qvk)]
def Qwj:ba:=mT 118 [] true [.agg bd.sig] [] (λa r=>Lm (bd.of (aC a 0))) (λX=>.agg (bn.cells X)) (λX=>[])
theorem Qkp:bm pG Qwj:=oT (.cons Qqx (.cons Vn (.nil))) Tryz.func118 Tryz.call118 [] Qr7 3
def Gv(c:iK)(port:Int):Tree (iK×Int):=
let T1:Tree ((iK×Int)):=.br (port==0) (.cn (decide ((0:Int)<=(1:Int)/\1<=(c.D9.length:Int)/\(c.D9.length:Int)<=(c.D9.length:Int))) (.cn (decide ((0:Int)<=(0:Int)/\0<(c.D9.length:Int))) (.lf ({D9:=cU (dA (c.D9.length:Int)-dA 1) (cV (dA 1) c.D9)},wrap u32 (↑(UInt8.toNat (c.D9.getD (dA 0) (0:UInt8))):Int))))) (.br (port==1) (.lf (c,wrap u32 (c.D9.length:Int))) (.lf (c,0)));.br (port==0) (.br ((c.D9.length:Int)==(0:Int)) (.lf (c,4294967295)) T1) T1
def K6 c port:=(Gv c port).m
theorem Qxq(c:iK)(port:Int):(Gv c port).p:=by
 unfold Tree.p Gv
 repeat'(first|exact trivial|refine ae (λ_=>?_) (λ_=>?_)|refine ax ?_ ?_|refine c9 ?_ ?_|refine aq (λ_ _=>?_)|refine e6 ?_|refine bh ?_|refine And.intro ?_ ?_)
 all_goals(exact nE)
def Z34:ba:=mS 166 [] true [.agg iK.sig,.one (.int .i64)] [] (λa r=>Gv (iK.of (aC a 0)) (au a 1)) (λX=>.dw [.agg (iK.cells (X.1)),.int .u32 (X.2)]) (λX=>[])
theorem Z0h:bm pG Z34:=oS (.nil) Tryz.func166 Tryz.call166 [] [] 2 (λ_ _ _=>by kernel_rfl) (λa r=>Qxq (iK.of (aC a 0)) (au a 1)) (λ_ X=>by kernel_rfl)
def UL(t:iS):Tree Int:=
.br t.E0 (.lf 1) (.lf 0)
def Xt t:=(UL t).m
def Z93:ba:=mS 167 [] true [.agg iS.sig] [] (λa r=>UL (iS.of (aC a 0))) (λX=>.int .u32 X) (λX=>[])
theorem Z4l:bm pG Z93:=oS (.nil) Tryz.func167 Tryz.call167 [] [] 2
def UK(d0:fu)(port:Int):Tree Int:=
.br (port==4) (.lf d0.C8) (.br (port==5) (.lf d0.Frame) (.br (port==6) (.lf (wrap u32 d0.C7)) (.lf 0)))
def Xs d0 port:=(UK d0 port).m
def Zfl:ba:=mS 168 [] true [.agg fu.sig,.one (.int .i64)] [] (λa r=>UK (fu.of (aC a 0)) (au a 1)) (λX=>.int .u32 X) (λX=>[])
theorem Z8v:bm pG Zfl:=oS (.nil) Tryz.func168 Tryz.call168 [] [] 2
def NY(n:gw)(port:Int):Tree Int:=
.br (port==7) (.lf n.Frame) (.br (port==8) (.lf n.F9) (.br (port==9) (.br n.D1 (.br n.C4 (.lf (wrap u32 ((1:Int)+(2:Int)))) (.lf 1)) (.br n.C4 (.lf (wrap u32 ((0:Int)+(2:Int)))) (.lf 0))) (.lf 0)))
def SY n port:=(NY n port).m
def Zjx:ba:=mS 169 [] true [.agg gw.sig,.one (.int .i64)] [] (λa r=>NY (gw.of (aC a 0)) (au a 1)) (λX=>.int .u32 X) (λX=>[])
theorem Zg:bm pG Zjx:=oS (.nil) Tryz.func169 Tryz.call169 [] [] 2
def Lb(b:gb)(port:Int):Tree Int:=
.br (port==10) (.lf b.A2) (.br (port==11) (.lv (K5 b) λ(x0:Int)=>.lf (wrap u32 x0)) (.lf 0))
def La b port:=(Lb b port).m
def Z3:ba:=mS 170 [] true [.agg gb.sig,.one (.int .i64)] [] (λa r=>Lb (gb.of (aC a 0)) (au a 1)) (λX=>.int .u32 X) (λX=>[])
theorem Qzc:bm pG Z3:=oS (.cons Qx8 (.nil)) Tryz.func170 Tryz.call170 [] [] 2
def MW(m:bd)(port clock:Int):Tree (Int×bd):=
.br (decide (port<=1)) (.lv (K6 m.B1 port) λ(x0:iK×Int)=>.lf (x0.2,{B4:=m.B4,Mem:=m.Mem,B1:=x0.1,B8:=m.B8,B7:=m.B7,D2:=m.D2,A6:=m.A6,B6:=m.B6,B2:=m.B2,B5:=m.B5})) (.br (port==2) (.lf (clock,m)) (.br (port==3) (.lv (Xt m.B8) λ(x1:Int)=>.lf (x1,m)) (.br (decide (port<=6)) (.lv (Xs m.B7 port) λ(x2:Int)=>.lf (x2,m)) (.br (decide (port<=9)) (.lv (SY m.D2 port) λ(x3:Int)=>.lf (x3,m)) (.lv (La m.A6 port) λ(x4:Int)=>.lf (x4,m))))))
def Dz m port clock:=(MW m port clock).m
def vD:ba:=mS 120 [true,false,false] true [.ptr 0,.one (.int .i64),.one (.int .u32)] [.box 43 49 (bd.ic (.row 1)),.arr 25 1 (.ints .u32)] (λa r=>MW (bd.iy (r.getD 0 default).cs (cw .u32 r 1)) (au a 1) (au a 2)) (λX=>.int .u32 (X.1)) (λX=>[⟨true,43,49,.gen [(bd.cq (X.2) (.all 1))]⟩,⟨false,25,1,.ints .u32 (X.2).Mem⟩])
theorem Zs3:bm pG vD:=oS (.cons Z0h (.cons Z4l (.cons Z8v (.cons Zg (.cons Qzc (.nil)))))) Tryz.func120 Tryz.call120 [.row 25 1 (.ints .u32)] [] 2
def W7(deadline:Int):Tree iS:=
.br (deadline==0) (.lf ({F1:=false,D3:=0,E0:=false})) (.lf ({F1:=true,D3:=deadline,E0:=false}))
def W6 deadline:=(W7 deadline).m
def Zs6:ba:=mS 171 [] true [.one (.int .u32)] [] (λa r=>W7 (au a 0)) (λX=>.agg (iS.cells X)) (λX=>[])
theorem Zld:bm pG Zs6:=oS (.nil) Tryz.func171 Tryz.call171 [] [] 2
def Qx5(x n:Int)(z:(Int)×(List Int)):Prop:=0<=z.1/\(z.2.length:Int)=z.1/\(z.1<=n\/z.1=0)
def UJ(x n:Int)(z:(Int)×(List Int)):Nat:=(n-z.1).toNat
def L5(x n:Int):Tree (List UInt8):=
.lp inferInstance (UJ x n (0,[])+1) ((rE (x:Int)/\rE (n:Int)/\True/\rE (0:Int)/\True)/\rE ([]:List Int)/\True) (0,[]) λ(v0:Int×List Int)=>.br (decide (v0.1<n)) (.cn (decide (0<=wrap u64 (wrap i64 (8*v0.1)))) (.cn (decide (1*(v0.2.length+1)<=140737488355328)) (.nx ((rE (x:Int)/\rE (n:Int)/\True/\rE ((wrap i64 (v0.1+1)):Int)/\True)/\rE ((v0.2++[wrap u8 (bc u32 x (wrap u64 (wrap i64 (8*v0.1))))]):List Int)/\True) (Sum.inl (wrap i64 (v0.1+1),v0.2++[wrap u8 (bc u32 x (wrap u64 (wrap i64 (8*v0.1))))]))))) (.lf (Sum.inr (bytesOf v0.2)))
def WJ x n:=(L5 x n).m
def Vp(x n:Int):Prop:=
n<=1000000000000
theorem Zj0(x n:Int)(hw:Vp x n):(L5 x n).p:=by
 simp only[Vp]at hw
 unfold Tree.p L5
 repeat'(first|refine fp (inv:=Qx5 x n) (μ:=UJ x n) ?_ (cN _) (λ_ _=>?_)|exact trivial|refine ae (λ_=>?_) (λ_=>?_)|refine ax ?_ ?_|refine c9 ?_ ?_|refine aq (λ_ _=>?_)|refine e6 ?_|refine bh ?_|refine And.intro ?_ ?_)
 all_goals((try simp only[Qx5,UJ]at*);exact nE)
def Zm2:cg:={
 α:=(Int)×(List Int)
 F:=λst a=>([(0,(lk st 0)),(1,(lk st 1)),(5,.all 0),(6,.int i64 a.1)],[⟨false,5,1,.ints u8 a.2⟩])
 a0:=λst=>((lk st 6).toInt,(Q3 st.rows (rN st 5)))
 ji:=λst=>[]++[(rX st 5 0)]}
def Zeb:List (Nat×cg):=[(3,Zm2)]
def Zra:ba:=kY 206 [] true [.one (.int .u32),.one (.int .i64)] [] (λa r=>Vp (au a 0) (au a 1)) (λa r=>WJ (au a 0) (au a 1)) (λX=>.str X) (λX=>[])
theorem Zl6:bm pG Zra:=uL drawn jt (.nil) Tryz.func206 Tryz.call206 (λa r=>L5 (au a 0) (au a 1)) [] Zeb 3 (hp:=λa r h=>Zj0 (au a 0) (au a 1) h)
def WK(m:List Int)(frame:Int)(z:(Int)×(List Int)):Nat:=(32-z.1).toNat
def Gr(m:List Int)(frame:Int):Tree ((List UInt8)×Bool):=
.br (decide (frame<0)) (.lf ([],false)) (.lv (u7 m) λ(x0:Int)=>.br (decide (frame>=x0)) (.lf ([],false)) (.lp inferInstance (WK m frame (0,[])+1) ((((ah.Nil (ah.ints u32 m)\/rE (1:Nat))/\rE (m:List Int))/\rE (frame:Int)/\True/\rE (0:Int)/\True)/\rE ([]:List Int)/\True) (0,[]) λ(v0:Int×List Int)=>.br (decide (v0.1<32)) (.cn (bX 1 1&&bN 0 1&&decide (0<=wrap i64 (wrap i64 (frame*32)+v0.1)/\wrap i64 (wrap i64 (frame*32)+v0.1)<(m.length:Int))) (let E1:=m.getD (dA (wrap i64 (wrap i64 (frame*32)+v0.1))) 0;.an (Vp E1 4) (.lv (WJ E1 4) λ(x1:List UInt8)=>.cn (decide (1*(v0.2.length+dF (oU x1))<=140737488355328)) (.nx ((((ah.Nil (ah.ints u32 m)\/rE (1:Nat))/\rE (m:List Int))/\rE (frame:Int)/\True/\rE ((wrap i64 (v0.1+1)):Int)/\True)/\rE ((v0.2++oU x1):List Int)/\True) (Sum.inl (wrap i64 (v0.1+1),v0.2++oU x1)))))) (.lf (Sum.inr (bytesOf v0.2,true)))))
def KN m frame:=(Gr m frame).m
abbrev ZL m frame:=(Gr m frame).p
def Zip:cg:={
 α:=(Int)×(List Int)
 F:=λst a=>([(0,(lk st 0)),(1,(lk st 1)),(6,.all 0),(7,.int i64 a.1)],[⟨false,5,1,.ints u8 a.2⟩])
 a0:=λst=>((lk st 7).toInt,(Q3 st.rows (rN st 6)))
 ji:=λst=>[]++[(rX st 6 0)]}
def Z9z:List (Nat×cg):=[(5,Zip)]
def Zl8:ba:=mT 149 [] true [.one (.ints .u32),.one (.int .i64)] [] (λa r=>Gr (dh .u32 a 0) (au a 1)) (λX=>.dw [.str (X.1),.bool (X.2)]) (λX=>[])
theorem Z1x:bm pG Zl8:=oT (.cons RG (.cons Zl6 (.nil))) Tryz.func149 Tryz.call149 [] Z9z 3
def Quk(d0:fu)(gj:Int):Tree (il×Bool):=
.br (d0.C7 !=1) (.lf ({C2:=0,At:=0,C8:=0,F0:=[]},false)) (.br (d0.F6==1) (.lf ({C2:=3,At:=gj,C8:=d0.C5,F0:=[]},true)) (.br (d0.F6==2) (.lf ({C2:=4,At:=gj,C8:=d0.C5,F0:=d0.C9},true)) (.lf ({C2:=0,At:=0,C8:=0,F0:=[]},false))))
def Xb d0 gj:=(Quk d0 gj).m
def Zab:ba:=mS 227 [] true [.agg fu.sig,.one (.int .u64)] [] (λa r=>Quk (fu.of (aC a 0)) (au a 1)) (λX=>.dw [.agg (il.cells (X.1)),.bool (X.2)]) (λX=>[])
theorem Z63:bm pG Zab:=oS (.nil) Tryz.func227 Tryz.call227 [] [] 2
def K7(d0:fu)(m:List Int)(port v gj:Int):Tree (fu×(List il)):=
.br (port==4) (.lf ({ab:=d0.ab,C8:=v,Frame:=d0.Frame,C7:=d0.C7,F6:=d0.F6,C5:=d0.C5,C6:=d0.C6,C9:=d0.C9},[])) (.br (port==5) (.lf ({ab:=d0.ab,C8:=d0.C8,Frame:=v,C7:=d0.C7,F6:=d0.F6,C5:=d0.C5,C6:=d0.C6,C9:=d0.C9},[])) (.br (port !=6) (.lf (d0,[])) (let T1:Tree ((fu×(List il))):=.br (d0.C7==0) (let T2:Tree ((fu×(List il))):=.lf ({ab:=d0.ab,C8:=d0.C8,Frame:=d0.Frame,C7:=3,F6:=d0.F6,C5:=d0.C5,C6:=d0.C6,C9:=d0.C9},[]);.br (decide (d0.C8>=d0.ab)) T2 (.lv (tk m d0.Frame) λ(x0:Bool)=>.br (!x0) T2 (.br (v==2) (.an (ZL m (wrap i64 d0.Frame)) (.lv (KN m (wrap i64 d0.Frame)) λ(x1:List UInt8×Bool)=>.lv (Xb {ab:=d0.ab,C8:=d0.C8,Frame:=d0.Frame,C7:=1,F6:=wrap i64 v,C5:=d0.C8,C6:=d0.Frame,C9:=x1.1} gj) λ(x2:il×Bool)=>.lf ({ab:=d0.ab,C8:=d0.C8,Frame:=d0.Frame,C7:=1,F6:=wrap i64 v,C5:=d0.C8,C6:=d0.Frame,C9:=x1.1},[x2.1]))) (.lv (Xb {ab:=d0.ab,C8:=d0.C8,Frame:=d0.Frame,C7:=1,F6:=wrap i64 v,C5:=d0.C8,C6:=d0.Frame,C9:=[]} gj) λ(x3:il×Bool)=>.lf ({ab:=d0.ab,C8:=d0.C8,Frame:=d0.Frame,C7:=1,F6:=wrap i64 v,C5:=d0.C8,C6:=d0.Frame,C9:=[]},[x3.1]))))) (.lf (d0,[]));.br (v==0) (let T3:Tree ((fu×(List il))):=.lf ({ab:=d0.ab,C8:=d0.C8,Frame:=d0.Frame,C7:=0,F6:=d0.F6,C5:=d0.C5,C6:=d0.C6,C9:=d0.C9},[]);.br (d0.C7==2) T3 (.br (d0.C7==3) T3 (.br (v==1) T1 (.br (v==2) T1 (.lf (d0,[])))))) (.br (v==1) T1 (.br (v==2) T1 (.lf (d0,[])))))))
def W9 d0 m port v gj:=(K7 d0 m port v gj).m
abbrev Qpt d0 m port v gj:=(K7 d0 m port v gj).p
def Za:ba:=mT 172 [] true [.agg fu.sig,.one (.ints .u32),.one (.int .i64),.one (.int .u32),.one (.int .u64)] [] (λa r=>K7 (fu.of (aC a 0)) (dh .u32 a 1) (au a 2) (au a 3) (au a 4)) (λX=>.dw [.agg (fu.cells (X.1)),.sl 4 (.ai .bz (X.2)) true]) (λX=>[])
theorem Z5f:bm pG Za:=oT (.cons Rw (.cons Z1x (.cons Z63 (.nil)))) Tryz.func172 Tryz.call172 [.sl (.ai .bz) true] [] 2
def K8(n:gw)(m:List Int)(port v gj:Int):Tree (gw×(List il)):=
.br (port==7) (.lf ({Frame:=v,F7:=n.F7,D1:=n.D1,D4:=n.D4,C4:=n.C4,F9:=n.F9},[])) (.br (port==8) (.lf ({Frame:=n.Frame,F7:=v,D1:=n.D1,D4:=n.D4,C4:=n.C4,F9:=n.F9},[])) (.br (port !=9) (.lf (n,[])) (.br (v==0) (.lf ({Frame:=n.Frame,F7:=n.F7,D1:=n.D1,D4:=n.D4,C4:=false,F9:=0},[])) (let T1:Tree ((gw×(List il))):=.br (v==2) (.lv (tk m n.Frame) λ(x2:Bool)=>.br x2 (.br (!n.D1) (.br (!n.C4) (.lf ({Frame:=n.Frame,F7:=n.F7,D1:=true,D4:=n.Frame,C4:=n.C4,F9:=n.F9},[])) (.lf (n,[]))) (.lf (n,[]))) (.lf (n,[]))) (.lf (n,[]));.br (v==1) (.br (decide (n.F7>=1)) (.br (decide (n.F7<=128)) (.lv (tk m n.Frame) λ(x0:Bool)=>.br x0 (.an (ZL m (wrap i64 n.Frame)) (.lv (KN m (wrap i64 n.Frame)) λ(x1:List UInt8×Bool)=>.cn (decide ((0:Int)<=(0:Int)/\0<=n.F7/\n.F7<=(x1.1.length:Int))) (.lf (n,[{C2:=2,At:=gj,C8:=0,F0:=cU (dA n.F7-dA 0) (cV (dA 0) x1.1)}])))) T1) T1) T1) T1))))
def Xd n m port v gj:=(K8 n m port v gj).m
abbrev Qru n m port v gj:=(K8 n m port v gj).p
def Ze5:ba:=mT 173 [] true [.agg gw.sig,.one (.ints .u32),.one (.int .i64),.one (.int .u32),.one (.int .u64)] [] (λa r=>K8 (gw.of (aC a 0)) (dh .u32 a 1) (au a 2) (au a 3) (au a 4)) (λX=>.dw [.agg (gw.cells (X.1)),.sl 4 (.ai .bz (X.2)) true]) (λX=>[])
theorem Z91:bm pG Ze5:=oT (.cons Rw (.cons Z1x (.nil))) Tryz.func173 Tryz.call173 [.sl (.ai .bz) true] [] 2
def Xi(b:gb)(m:List Int)(port v:Int)(z:(Int)×(List Int)):Nat:=(32-z.1).toNat
def AL(b:gb)(m:List Int)(port v:Int):Tree (gb×(List Int)):=
let T1:Tree ((gb×(List Int))):=.br (port==11) (.br (decide (v<32)) (.cn (decide (0<=v)) (.lf ({A2:=b.A2,D0:=oD u32 b.D0 (eu u32 1 v)},m))) (.lf (b,m))) (.lf (b,m));.br (port==10) (.lv (tk m v) λ(x0:Bool)=>.br x0 (.cn (decide (0<=v)) (.br (bb u32 (bc u32 b.D0 v) (1:Int)==(0:Int)) (.cn (decide (0<=v)) (.lp inferInstance (Xi b m port v (0,m)+1) ((True/\rE (v:Int)/\rZ/\rZ/\rE (0:Int)/\True)/\rE (m:List Int)/\(rE b.A2/\rE ((iG u32 b.D0 (eu u32 1 v)):Int)/\True)/\(rE (0:Int)/\rE (0:Int)/\True)/\True) (0,m) λ(v0:Int×List Int)=>.br (decide (v0.1<32)) (let E2:=wrap i64 (wrap i64 v*32)+v0.1;.cn (bX 1 1&&bN 0 1&&decide (0<=wrap i64 E2/\wrap i64 E2<(v0.2.length:Int))) (.nx ((True/\rE (v:Int)/\rZ/\rZ/\rE ((wrap i64 (v0.1+1)):Int)/\True)/\rE ((dB v0.2 (dA (wrap i64 (wrap i64 (wrap i64 v*32)+v0.1))) 0):List Int)/\(rE b.A2/\rE ((iG u32 b.D0 (eu u32 1 v)):Int)/\True)/\(rE (0:Int)/\rE (0:Int)/\True)/\True) (Sum.inl (wrap i64 (v0.1+1),dB v0.2 (dA (wrap i64 E2)) 0)))) (.lf (Sum.inr ({A2:=b.A2,D0:=iG u32 b.D0 (eu u32 1 v)},v0.2))))) T1)) T1) T1
def AM b m port v:=(AL b m port v).m
abbrev Qwv b m port v:=(AL b m port v).p
def Zjn:cg:={
 α:=(Int)×(List Int)
 F:=λst a=>([(1,.all 0),(3,(lk st 3)),(4,.ptr 1 0 0),(8,.ptr 2 0 0),(9,.int i64 a.1)],[⟨false,25,1,.ints u32 a.2⟩,⟨true,40,2,.gen [[(cT st 4 0),(cT st 4 1)]]⟩,⟨true,40,2,.gen [[(cT st 8 0),(cT st 8 1)]]⟩])
 a0:=λst=>((lk st 9).toInt,(Q3 st.rows 0))
 ji:=λst=>[0]++[(rX st 4 1),(rX st 8 2)]}
def Z9x:List (Nat×cg):=[(4,Zjn)]
def Zo1:ba:=mT 174 [false,true,false,false] true [.agg gb.sig,.one (.row 0),.one (.int .i64),.one (.int .u32)] [.arr 25 1 (.ints .u32)] (λa r=>AL (gb.of (aC a 0)) (cw .u32 r 0) (au a 2) (au a 3)) (λX=>.agg (gb.cells (X.1))) (λX=>[⟨false,25,1,.ints .u32 (X.2)⟩])
theorem Zht:bm pG Zo1:=oT (.cons Rw (.nil)) Tryz.func174 Tryz.call174 [] Z9x 3
def J7(m:bd)(port v:Int):Tree ((List il)×bd):=
.br (port==0) (.lf ([{C2:=1,At:=m.B6,C8:=0,F0:=[(λ(n:Int)=>UInt8.ofNat n.toNat) (wrap u8 v)]}],m)) (.br (decide (port<=2)) (.lf ([],m)) (.br (port==3) (.lv (W6 v) λ(x0:iS)=>.lf ([],{B4:=m.B4,Mem:=m.Mem,B1:=m.B1,B8:=x0,B7:=m.B7,D2:=m.D2,A6:=m.A6,B6:=m.B6,B2:=m.B2,B5:=m.B5})) (.br (decide (port<=6)) (.an (Qpt m.B7 m.Mem port v m.B6) (.lv (W9 m.B7 m.Mem port v m.B6) λ(x1:fu×List il)=>.lf (x1.2,{B4:=m.B4,Mem:=m.Mem,B1:=m.B1,B8:=m.B8,B7:=x1.1,D2:=m.D2,A6:=m.A6,B6:=m.B6,B2:=m.B2,B5:=m.B5}))) (.br (decide (port<=9)) (.an (Qru m.D2 m.Mem port v m.B6) (.lv (Xd m.D2 m.Mem port v m.B6) λ(x2:gw×List il)=>.lf (x2.2,{B4:=m.B4,Mem:=m.Mem,B1:=m.B1,B8:=m.B8,B7:=m.B7,D2:=x2.1,A6:=m.A6,B6:=m.B6,B2:=m.B2,B5:=m.B5}))) (.an (Qwv m.A6 m.Mem port v) (.lv (AM m.A6 m.Mem port v) λ(x3:gb×List Int)=>.lf ([],{B4:=m.B4,Mem:=x3.2,B1:=m.B1,B8:=m.B8,B7:=m.B7,D2:=m.D2,A6:=x3.1,B6:=m.B6,B2:=m.B2,B5:=m.B5})))))))
def Ew m port v:=(J7 m port v).m
abbrev Z0y m port v:=(J7 m port v).p
def Zro:ba:=mT 122 [true,false,false] true [.ptr 0,.one (.int .i64),.one (.int .u32)] [.box 43 49 (bd.ic (.row 1)),.arr 25 1 (.ints .u32)] (λa r=>J7 (bd.iy (r.getD 0 default).cs (cw .u32 r 1)) (au a 1) (au a 2)) (λX=>.sl 4 (.ai .bz (X.1)) true) (λX=>[⟨true,43,49,.gen [(bd.cq (X.2) (.all 1))]⟩,⟨false,25,1,.ints .u32 (X.2).Mem⟩])
theorem Znj:bm pG Zro:=oT (.cons Zld (.cons Z5f (.cons Z91 (.cons Zht (.nil))))) Tryz.func122 Tryz.call122 [.sl (.ai .bz) true,.row 25 1 (.ints .u32)] [] 2
def MX(m:bd)(clock:Int):Tree ((List il)×bd):=
.an (Qaz m) (.lv (pV m) λ(x0:bn)=>.an (Z5p x0 m.Mem) (.lv (AK x0 m.Mem) λ(x1:bn×kZ×List Int)=>let E1:=({B4:=x1.1,Mem:=x1.2.2,B1:=m.B1,B8:=m.B8,B7:=m.B7,D2:=m.D2,A6:=m.A6,B6:=m.B6,B2:=false,B5:=m.B5}:bd);.br (x1.2.1.C2==1) (.lv (Dz E1 x1.2.1.D8 clock) λ(x2:Int×bd)=>.an (Db x2.2.B4 x1.2.1.F8 x2.1) (.lv (ll x2.2.B4 x1.2.1.F8 x2.1) λ(x3:bn)=>.lf ([],{B4:=x3,Mem:=x2.2.Mem,B1:=x2.2.B1,B8:=x2.2.B8,B7:=x2.2.B7,D2:=x2.2.D2,A6:=x2.2.A6,B6:=wrap u64 (x2.2.B6+1),B2:=x2.2.B2,B5:=x2.2.B5}))) (.br (x1.2.1.C2==2) (.an (Z0y E1 x1.2.1.D8 x1.2.1.Value) (.lv (Ew E1 x1.2.1.D8 x1.2.1.Value) λ(x4:List il×bd)=>.lf (x4.1,{B4:=x4.2.B4,Mem:=x4.2.Mem,B1:=x4.2.B1,B8:=x4.2.B8,B7:=x4.2.B7,D2:=x4.2.D2,A6:=x4.2.A6,B6:=wrap u64 (x4.2.B6+1),B2:=x4.2.B2,B5:=x4.2.B5}))) (.br (x1.2.1.C2==3) (.lf ([],{B4:=x1.1,Mem:=x1.2.2,B1:=m.B1,B8:=m.B8,B7:=m.B7,D2:=m.D2,A6:=m.A6,B6:=wrap u64 (m.B6+1),B2:=true,B5:=m.B5})) (.br (x1.2.1.C2==4) (.lf ([],{B4:=x1.1,Mem:=x1.2.2,B1:=m.B1,B8:=m.B8,B7:=m.B7,D2:=m.D2,A6:=m.A6,B6:=wrap u64 (m.B6+1),B2:=false,B5:=true})) (.lf ([],{B4:=x1.1,Mem:=x1.2.2,B1:=m.B1,B8:=m.B8,B7:=m.B7,D2:=m.D2,A6:=m.A6,B6:=wrap u64 (m.B6+1),B2:=false,B5:=m.B5})))))))
def Ab m clock:=(MX m clock).m
abbrev Qh4 m clock:=(MX m clock).p
def Zae:ba:=mT 76 [true,false] true [.ptr 0,.one (.int .u32)] [.box 43 49 (bd.ic (.row 1)),.arr 25 1 (.ints .u32)] (λa r=>MX (bd.iy (r.getD 0 default).cs (cw .u32 r 1)) (au a 1)) (λX=>.sl 4 (.ai .bz (X.1)) true) (λX=>[⟨true,43,49,.gen [(bd.cq (X.2) (.all 1))]⟩,⟨false,25,1,.ints .u32 (X.2).Mem⟩])
theorem Z4g:bm pG Zae:=oT (.cons Qkp (.cons Zrk (.cons Zs3 (.cons RJ (.cons Znj (.nil)))))) Tryz.func76 Tryz.call76 [.sl (.ai .bz) true,.row 25 1 (.ints .u32)] [] 2

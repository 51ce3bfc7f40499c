import Derived.Test.YtaemmjbkndlkeaaGreatMigrateOrdersYz
open Nat renaming blt->bN,beq->bX,lt_succ_self->cN
open List renaming length->dF,replicate->cO,take->cU,drop->cV,set->dB,getD->aV
open Int renaming toNat->dA,tdiv->eF,tmod->cZ
set_option maxRecDepth 100000
set_option linter.all false
namespace Go.Proofs.YtaemmjbkndlkeaaGreat
open Go Go.GD Go.IntKind
noncomputable section
def Qf(m:List Int):Tree (List Int):=
.cn (bN (0:Nat) (1:Nat)&&bX (1:Nat) (1:Nat)&&List.all [D.int u32 (0:Int)] D.plain&&decide ((0:Int)<=(m.length:Int)/\(m.length:Int)<=(m.length:Int)/\(m.length:Int)<=(9223372036854775807:Int)/\(↑(4:Nat):Int)*(m.length:Int)<=(140737488355328:Int))) (let E1:=dF (cO (dA (m.length:Int)) (0:Int));.lf (cU (Min.min (m.length) E1) m++cV (Min.min (m.length) E1) (cO (dA (m.length:Int)) (0:Int))))
def X0 m:=(Qf m).m
abbrev Qw5 m:=(Qf m).p
def Zod:ba:=mT 116 [] true [.one (.ints .u32)] [] (λa r=>Qf (dh .u32 a 0)) (λX=>.all 0) (λX=>[⟨false,25,1,.ints .u32 X⟩])
theorem Zh4:bm pG Zod:=oT (.nil) Tryz.func116 Tryz.call116 [.row 25 1 (.ints .u32)] [] 2
def Qj(m:bc):Tree bc:=
.an (Qw5 m.Mem) (.lv (X0 m.Mem) λ(x0:List Int)=>.lf ({B4:=m.B4,Mem:=x0,B2:=m.B2,B9:=m.B9,B7:=m.B7,D2:=m.D2,A7:=m.A7,B6:=m.B6,B3:=m.B3,B5:=m.B5}))
def TU m:=(Qj m).m
abbrev Qr6 m:=(Qj m).p
def Zr2:ba:=mT 74 [] true [.agg bc.sig] [] (λa r=>Qj (bc.of (aC a 0))) (λX=>.agg (bc.cq X (.all 0))) (λX=>[⟨false,25,1,.ints .u32 X.Mem⟩])
theorem Zo3:bm pG Zr2:=oT (.cons Zh4 (.nil)) Tryz.func74 Tryz.call74 [.row 25 1 (.ints .u32)] [] 2
def Quv(n k:Int)(z:(Int)×(List Int)):Prop:=0<=z.1/\(z.2.length:Int)=z.1/\(z.1<=k\/z.1=0)
def Uv(n k:Int)(z:(Int)×(List Int)):Nat:=(k-z.1).toNat
def L9(n k:Int):Tree (List UInt8):=
.lp inferInstance (Uv n k (0,[])+1) ((rE (n:Int)/\rE (k:Int)/\True/\rE (0:Int)/\True)/\rE ([]:List Int)/\True) (0,[]) λ(v0:Int×List Int)=>.br (decide (v0.1<k)) (.lv (Zdc n (wrap i64 (eF v0.1 9))) λ(x0:Int)=>.cn (decide (1*(v0.2.length+1)<=140737488355328)) (.nx ((rE (n:Int)/\rE (k:Int)/\True/\rE ((wrap i64 (v0.1+1)):Int)/\True)/\rE ((v0.2++[wrap u8 x0]):List Int)/\True) (Sum.inl (wrap i64 (v0.1+1),v0.2++[wrap u8 x0])))) (.lf (Sum.inr (bytesOf v0.2)))
def Z6 n k:=(L9 n k).m
def Pt(n k:Int):Prop:=
k<=1000000000000
theorem Zg(n k:Int)(hw:Pt n k):(L9 n k).p:=by
 simp only[Pt]at hw
 unfold Tree.p L9
 repeat'(first|refine fj (inv:=Quv n k) (μ:=Uv n k) ?_ (cN _) (λ_ _=>?_)|exact trivial|refine ab (λ_=>?_) (λ_=>?_)|refine aw ?_ ?_|refine c8 ?_ ?_|refine aq (λ_ _=>?_)|refine ep ?_|refine bg ?_|refine And.intro ?_ ?_)
 all_goals((try simp only[Quv,Uv]at*);exact nQ)
def Zig:cg:={
 α:=(Int)×(List Int)
 F:=λst a=>([(0,(lk st 0)),(1,(lk st 1)),(5,.all 0),(6,.int i64 a.1)],[⟨false,5,1,.ints u8 a.2⟩])
 a0:=λst=>((lk st 6).toInt,(oq st.rows (rN st 5)))
 jl:=λst=>[]++[(rX st 5 0)]}
def Za2:List (Nat×cg):=[(3,Zig)]
def Zlv:ba:=lJ 81 [] true [.one (.int .i64),.one (.int .i64)] [] (λa r=>Pt (au a 0) (au a 1)) (λa r=>Z6 (au a 0) (au a 1)) (λX=>.str X) (λX=>[])
theorem Zjq:bm pG Zlv:=wc drawn jB (.cons Z5c (.nil)) Tryz.func81 Tryz.call81 (λa r=>L9 (au a 0) (au a 1)) [] Za2 3 (hp:=λa r h=>Zg (au a 0) (au a 1) h)
def Qst(m:List Int):Tree Int:=
.br (cZ (m.length:Int) (32:Int) !=(0:Int)) (.lf 0) (.br (decide ((m.length:Int)>(1024:Int))) (.lf 0) (.lf (wrap i64 (eF (m.length:Int) 32))))
def wH m:=(Qst m).m
def Zlh:ba:=mS 36 [] true [.one (.ints .u32)] [] (λa r=>Qst (dh .u32 a 0)) (λX=>.int .i64 X) (λX=>[])
theorem Sn:bm pG Zlh:=oS (.nil) Tryz.func36 Tryz.call36 [] [] 2
def Qny(c:iN):Tree Bool:=
.lf (decide ((c.D9.length:Int)<=(16:Int)))
def Qkg c:=(Qny c).m
def Z01:ba:=mS 82 [] true [.agg iN.sig] [] (λa r=>Qny (iN.of (aC a 0))) (λX=>.bool X) (λX=>[])
theorem Qwe:bm pG Z01:=oS (.nil) Tryz.func82 Tryz.call82 [] [] 2
def XB(t:iV):Tree Bool:=
.br t.F2 (.br t.E0 (.lf false) (.br t.F2 (.lf (t.D4 !=0)) (.br t.E0 (.lf true) (.lf (t.D4==0))))) (.br t.F2 (.lf (t.D4 !=0)) (.br t.E0 (.lf true) (.lf (t.D4==0))))
def TG t:=(XB t).m
def Z78:ba:=mS 83 [] true [.agg iV.sig] [] (λa r=>XB (iV.of (aC a 0))) (λX=>.bool X) (λX=>[])
theorem Z2l:bm pG Z78:=oS (.nil) Tryz.func83 Tryz.call83 [] [] 2
def XD(d0:fx)(bh:Int):Tree Bool:=
.br (decide (d0.ae>64)) (.lf false) (.br (decide (d0.C7<0)) (.lf false) (.br (decide (d0.C7>3)) (.lf false) (.br (d0.C7 !=1) (.br (d0.F7==0) (.br (d0.C5==0) (.br (d0.C6==0) (.lf (decide (d0.C9=[]))) (.lf false)) (.lf false)) (.lf false)) (.br (decide (d0.C5>=d0.ae)) (.lf false) (.br (decide (wrap i64 d0.C6>=bh)) (.lf false) (.br (d0.F7==1) (.br (decide (d0.C9=[])) (.lf true) (.br (d0.F7==2) (.lf ((d0.C9.length:Int)==(128:Int))) (.lf false))) (.br (d0.F7==2) (.lf ((d0.C9.length:Int)==(128:Int))) (.lf false))))))))
def TJ d0 bh:=(XD d0 bh).m
def Z8t:ba:=mS 84 [] true [.agg fx.sig,.one (.int .i64)] [] (λa r=>XD (fx.of (aC a 0)) (au a 1)) (λX=>.bool X) (λX=>[])
theorem Z7j:bm pG Z8t:=oS (.nil) Tryz.func84 Tryz.call84 [] [] 2
def XC(n:gx)(bh:Int):Tree Bool:=
let T1:Tree (Bool):=.br n.C4 (.br (decide (n.G0>=1)) (.lf (decide (n.G0<=128))) (.lf false)) (.lf (n.G0==0));.br n.D1 (.br n.C4 (.lf false) (.br (decide (wrap i64 n.D3>=bh)) (.lf false) (.br (!n.D1) (.br (n.D3 !=0) (.lf false) T1) T1))) (.br (!n.D1) (.br (n.D3 !=0) (.lf false) T1) T1)
def TH n bh:=(XC n bh).m
def Zdj:ba:=mS 85 [] true [.agg gx.sig,.one (.int .i64)] [] (λa r=>XC (gx.of (aC a 0)) (au a 1)) (λX=>.bool X) (λX=>[])
theorem Z9:bm pG Zdj:=oS (.nil) Tryz.func85 Tryz.call85 [] [] 2
def Qi(b:gm)(bh:Int)(z:(Int)):Prop:=0<=z/\z<=32
def TO(b:gm)(bh:Int)(z:(Int)):Nat:=(32-z).toNat
def LM(b:gm)(bh:Int):Tree Bool:=
.lp inferInstance (TO b bh 0+1) ((rE (bh:Int)/\rZ/\rE (0:Int)/\True)/\(rE b.A2/\rE b.D0/\True)/\True) 0 λ(v0:Int)=>.br (decide (v0<32)) (.cn (decide (0<=wrap u64 v0)) (let T1:Tree ((Int)⊕(Bool)):=.nx ((rE (bh:Int)/\rZ/\rE ((wrap i64 (v0+1)):Int)/\True)/\(rE b.A2/\rE b.D0/\True)/\True) (Sum.inl (wrap i64 (v0+1)));.br (bb u32 (bj u32 b.D0 (wrap u64 v0)) (1:Int)==(1:Int)) (.br (decide (v0>=bh)) (.lf (Sum.inr false)) T1) T1)) (.lf (Sum.inr true))
def TP b bh:=(LM b bh).m
theorem Qv2(b:gm)(bh:Int):(LM b bh).p:=by
 unfold Tree.p LM
 repeat'(first|refine fj (inv:=Qi b bh) (μ:=TO b bh) ?_ (cN _) (λ_ _=>?_)|exact trivial|refine ab (λ_=>?_) (λ_=>?_)|refine aw ?_ ?_|refine c8 ?_ ?_|refine aq (λ_ _=>?_)|refine ep ?_|refine bg ?_|refine And.intro ?_ ?_)
 all_goals((try simp only[Qi,TO]at*);exact nQ)
def Qw1:cg:={
 α:=(Int)
 F:=λst a=>([(1,(lk st 1)),(2,.ptr 0 0 0),(5,.int i64 a)],[⟨true,40,2,.gen [[(cT st 2 0),(cT st 2 1)]]⟩])
 a0:=λst=>(lk st 5).toInt
 jl:=λst=>[]++[(rX st 2 0)]}
def Qtw:List (Nat×cg):=[(2,Qw1)]
def Qyt:ba:=mS 86 [] true [.agg gm.sig,.one (.int .i64)] [] (λa r=>LM (gm.of (aC a 0)) (au a 1)) (λX=>.bool X) (λX=>[])
theorem Qx:bm pG Qyt:=oS (.nil) Tryz.func86 Tryz.call86 [] Qtw 3 (λ_ _ _=>by kernel_rfl) (λa r=>Qv2 (gm.of (aC a 0)) (au a 1)) (λ_ X=>by kernel_rfl)
def XS(m:bc):Tree Bool:=
.lv (wH m.Mem) λ(x0:Int)=>.br (decide (x0<1)) (.lf false) (.br (m.B4.X.a0 !=0) (.lf false) (.br (decide (m.B4.C3.a0>31)) (.lf false) (.br (decide (m.B4.C3.a7>31)) (.lf false) (.br (decide (m.B4.C3.a6>255)) (.lf false) (.br (cZ m.B4.C3.a1 (4:Int) !=(0:Int)) (.lf false) (.lv (Qkg m.B2) λ(x1:Bool)=>.br (!x1) (.lf false) (.lv (TG m.B9) λ(x2:Bool)=>.br (!x2) (.lf false) (.lv (TJ m.B7 x0) λ(x3:Bool)=>.br (!x3) (.lf false) (.lv (TH m.D2 x0) λ(x4:Bool)=>.br (!x4) (.lf false) (.lv (TP m.A7 x0) λ(x5:Bool)=>.br (!x5) (.lf false) (.br (decide (m.B6<=1152921504606846976)) (.br m.B3 (.lf (!m.B5)) (.lf true)) (.lf false))))))))))))
def Ja m:=(XS m).m
def Zsq:ba:=mS 34 [] true [.agg bc.sig] [] (λa r=>XS (bc.of (aC a 0))) (λX=>.bool X) (λX=>[])
theorem Zne:bm pG Zsq:=oS (.cons Sn (.cons Qwe (.cons Z2l (.cons Z7j (.cons Z9 (.cons Qx (.nil))))))) Tryz.func34 Tryz.call34 [] [] 2
def RE(is:Bool)(n:Int):Tree Int:=
.br is (.cn (decide (0<=wrap u64 n)) (.lf (ei u32 1 (wrap u64 n)))) (.lf 0)
def Ea is n:=(RE is n).m
abbrev So is n:=(RE is n).p
def Zn1:ba:=mT 255 [] true [.one (.bool),.one (.int .i64)] [] (λa r=>RE (kC a 0) (au a 1)) (λX=>.int .u32 X) (λX=>[])
theorem Zl4:bm pG Zn1:=oT (.nil) Tryz.func255 Tryz.call255 [] [] 2
def Qjz(t:iV):Tree Bool:=
.lf t.E0
def XV t:=(Qjz t).m
def Qvp:ba:=mS 256 [] true [.agg iV.sig] [] (λa r=>Qjz (iV.of (aC a 0))) (λX=>.bool X) (λX=>[])
theorem Qtx:bm pG Qvp:=oS (.nil) Tryz.func256 Tryz.call256 [] [] 2
def Qge(c:iN):Tree Bool:=
.lf (decide ((c.D9.length:Int)>(0:Int)))
def TM c:=(Qge c).m
def Qrx:ba:=mS 257 [] true [.agg iN.sig] [] (λa r=>Qge (iN.of (aC a 0))) (λX=>.bool X) (λX=>[])
theorem Qqo:bm pG Qrx:=oS (.nil) Tryz.func257 Tryz.call257 [] [] 2
def Qlo(d0:fx):Tree Bool:=
.br (d0.C7==2) (.lf true) (.lf (d0.C7==3))
def XW d0:=(Qlo d0).m
def Qyf:ba:=mS 258 [] true [.agg fx.sig] [] (λa r=>Qlo (fx.of (aC a 0))) (λX=>.bool X) (λX=>[])
theorem Qv3:bm pG Qyf:=oS (.nil) Tryz.func258 Tryz.call258 [] [] 2
def Qnn(n:gx):Tree Bool:=
.lf n.C4
def XX n:=(Qnn n).m
def Z0:ba:=mS 259 [] true [.agg gx.sig] [] (λa r=>Qnn (gx.of (aC a 0))) (λX=>.bool X) (λX=>[])
theorem Qx1:bm pG Z0:=oS (.nil) Tryz.func259 Tryz.call259 [] [] 2
def Qrp(b:gm)(z:(Int)×(Int)):Prop:=0<=z.2/\z.2<=32
def Qhq(b:gm)(z:(Int)×(Int)):Nat:=(32-z.2).toNat
def VZ(b:gm):Tree Int:=
.lp inferInstance (Qhq b (0,0)+1) ((rZ/\rE (0:Int)/\rE (0:Int)/\True)/\(rE b.A2/\rE b.D0/\True)/\True) (0,0) λ(v0:Int×Int)=>.br (decide (v0.2<32)) (.cn (decide (0<=wrap u64 v0.2)) (.nx ((rZ/\rE ((wrap i64 (v0.1+wrap i64 (bb u32 (bj u32 b.D0 (wrap u64 v0.2)) 1))):Int)/\rE ((wrap i64 (v0.2+1)):Int)/\True)/\(rE b.A2/\rE b.D0/\True)/\True) (Sum.inl (wrap i64 (v0.1+wrap i64 (bb u32 (bj u32 b.D0 (wrap u64 v0.2)) 1)),wrap i64 (v0.2+1))))) (.lf (Sum.inr v0.1))
def LD b:=(VZ b).m
theorem Zau(b:gm):(VZ b).p:=by
 unfold Tree.p VZ
 repeat'(first|refine fj (inv:=Qrp b) (μ:=Qhq b) ?_ (cN _) (λ_ _=>?_)|exact trivial|refine ab (λ_=>?_) (λ_=>?_)|refine aw ?_ ?_|refine c8 ?_ ?_|refine aq (λ_ _=>?_)|refine ep ?_|refine bg ?_|refine And.intro ?_ ?_)
 all_goals((try simp only[Qrp,Qhq]at*);exact nQ)
def Zg3:cg:={
 α:=(Int)×(Int)
 F:=λst a=>([(1,.ptr 0 0 0),(3,.int i64 a.1),(4,.int i64 a.2)],[⟨true,40,2,.gen [[(cT st 1 0),(cT st 1 1)]]⟩])
 a0:=λst=>((lk st 3).toInt,(lk st 4).toInt)
 jl:=λst=>[]++[(rX st 1 0)]}
def Z4o:List (Nat×cg):=[(3,Zg3)]
def Zk0:ba:=mS 225 [] true [.agg gm.sig] [] (λa r=>VZ (gm.of (aC a 0))) (λX=>.int .i64 X) (λX=>[])
theorem Qx2:bm pG Zk0:=oS (.nil) Tryz.func225 Tryz.call225 [] Z4o 3 (λ_ _ _=>by kernel_rfl) (λa r=>Zau (gm.of (aC a 0))) (λ_ X=>by kernel_rfl)
def XN(b:gm):Tree Bool:=
.lv (LD b) λ(x0:Int)=>.lf (wrap u64 x0 !=wrap u64 b.A2)
def OF b:=(XN b).m
def Qsu:ba:=mS 260 [] true [.agg gm.sig] [] (λa r=>XN (gm.of (aC a 0))) (λX=>.bool X) (λX=>[])
theorem Qqh:bm pG Qsu:=oS (.cons Qx2 (.nil)) Tryz.func260 Tryz.call260 [] [] 2
def RG(m:bc):Tree Int:=
.lv (XV m.B9) λ(x0:Bool)=>.an (So x0 0) (.lv (Ea x0 0) λ(x1:Int)=>.lv (TM m.B2) λ(x2:Bool)=>.an (So x2 1) (.lv (Ea x2 1) λ(x3:Int)=>.lv (XW m.B7) λ(x4:Bool)=>.an (So x4 2) (.lv (Ea x4 2) λ(x5:Int)=>.lv (XX m.D2) λ(x6:Bool)=>.an (So x6 3) (.lv (Ea x6 3) λ(x7:Int)=>.lv (OF m.A7) λ(x8:Bool)=>.an (So x8 4) (.lv (Ea x8 4) λ(x9:Int)=>.lf (iJ u32 (iJ u32 (iJ u32 (iJ u32 x1 x3) x5) x7) x9))))))
def OH m:=(RG m).m
abbrev Qus m:=(RG m).p
def Zl:ba:=mT 210 [] true [.agg bc.sig] [] (λa r=>RG (bc.of (aC a 0))) (λX=>.int .u32 X) (λX=>[])
theorem Zfv:bm pG Zl:=oT (.cons Zl4 (.cons Qtx (.cons Qqo (.cons Qv3 (.cons Qx1 (.cons Qqh (.nil))))))) Tryz.func210 Tryz.call210 [] [] 2
def LS(m:bc):Tree Int:=
.an (Qus m) (.lv (OH m) λ(x0:Int)=>.lf (bb u32 x0 m.B4.C3.a7))
def Bi m:=(LS m).m
abbrev Qhk m:=(LS m).p
def Z9z:ba:=mT 156 [] true [.agg bc.sig] [] (λa r=>LS (bc.of (aC a 0))) (λX=>.int .u32 X) (λX=>[])
theorem Qqs:bm pG Z9z:=oT (.cons Zfv (.nil)) Tryz.func156 Tryz.call156 [] [] 2
def LU(m:bc):Tree Bool:=
.br m.B3 (.an (Qhk m) (.lv (Bi m) λ(x0:Int)=>.lf (x0==0))) (.lf false)
def Jc m:=(LU m).m
abbrev Qp4 m:=(LU m).p
def Zma:ba:=mT 117 [] true [.agg bc.sig] [] (λa r=>LU (bc.of (aC a 0))) (λX=>.bool X) (λX=>[])
theorem Zjy:bm pG Zma:=oT (.cons Qqs (.nil)) Tryz.func117 Tryz.call117 [] [] 2
def TT(m:bc):Tree Bool:=
.lv (Ja m) λ(x0:Bool)=>.br (!x0) (.lf true) (.br m.B5 (.lf true) (.an (Qp4 m) (.lv (Jc m) λ(x1:Bool)=>.br x1 (.lf true) (.lf (decide (m.B6>=1152921504606846976))))))
def Ha m:=(TT m).m
abbrev Z9a m:=(TT m).p
end
noncomputable section
def Lr(m:List Int)(addr size v:Int):Tree (List Int):=
let E1:=bX 1 1&&bN 0 1&&decide (0<=wrap u32 (eF addr 4)/\wrap u32 (eF addr 4)<(m.length:Int));let E2:=dA (wrap u32 (eF addr 4));.br (size==4) (.cn E1 (.lf (dB m E2 v))) (.cn E1 (let E3:=decide (0<=wrap u32 (8*cZ addr 4));.cn E3 (.cn E3 (.cn E1 (.lf (dB m E2 (iJ u32 (oR u32 (m.getD E2 0) (ei u32 255 (wrap u32 (8*cZ addr 4)))) (ei u32 (bb u32 v 255) (wrap u32 (8*cZ addr 4))))))))))
def I5 m addr size v:=(Lr m addr size v).m
abbrev Qm3 m addr size v:=(Lr m addr size v).p
def Zqp:ba:=mT 221 [true,false,false,false] true [.one (.row 0),.one (.int .u32),.one (.int .i64),.one (.int .u32)] [.arr 25 1 (.ints .u32)] (λa r=>Lr (cw .u32 r 0) (au a 1) (au a 2) (au a 3)) (λX=>.dw []) (λX=>[⟨false,25,1,.ints .u32 X⟩])
theorem Z5y:bm pG Zqp:=oT (.nil) Tryz.func221 Tryz.call221 [] [] 2
def Zbp(b:Bool):Tree Int:=
.br b (.lf 1) (.lf 0)
def Co b:=(Zbp b).m
def Zsz:ba:=mS 211 [] true [.one (.bool)] [] (λa r=>Zbp (kC a 0)) (λX=>.int .u32 X) (λX=>[])
theorem Qvd:bm pG Zsz:=oS (.nil) Tryz.func211 Tryz.call211 [] [] 2
def On(c:bq)(oI bad:Int):Tree bq:=
.lv (Co (bb u32 c.C3.a0 (1:Int) !=(0:Int))) λ(x0:Int)=>.lv (Co (bb u32 c.C3.a0 (2:Int) !=(0:Int))) λ(x1:Int)=>.lf ({X:=c.X,Pc:=c.C3.a1,C3:={a0:=iJ u32 (oR u32 (iJ u32 (iJ u32 (oR u32 c.C3.a0 24) (wrap u32 (8*x0))) (wrap u32 (16*x1))) 2) 1,a1:=c.C3.a1,a2:=c.Pc,a3:=wrap u32 oI,a4:=bad,a5:=c.C3.a5,a6:=c.C3.a6,a7:=c.C3.a7}})
def pP c oI bad:=(On c oI bad).m
def Zn5:ba:=mS 157 [] true [.agg bq.sig,.one (.int .i64),.one (.int .u32)] [] (λa r=>On (bq.of (aC a 0)) (au a 1) (au a 2)) (λX=>.agg (bq.cells X)) (λX=>[])
theorem V0:bm pG Zn5:=oS (.cons Qvd (.nil)) Tryz.func157 Tryz.call157 [] [] 2
def I3(m:List Int)(addr size:Int):Tree Bool:=
let T1:Tree (Bool):=.cn (decide (wrap u32 size≠0)) (.br (cZ addr (wrap u32 size)==0) (.lv (wH m) λ(x0:Int)=>.lf (decide (addr<wrap u32 (wrap i64 (128*x0))))) (.lf false));.br (size !=1) (.br (size !=4) (.lf false) T1) T1
def uy m addr size:=(I3 m addr size).m
abbrev Qdk m addr size:=(I3 m addr size).p
def Zfn:ba:=mT 214 [] true [.one (.ints .u32),.one (.int .u32),.one (.int .i64)] [] (λa r=>I3 (dh .u32 a 0) (au a 1) (au a 2)) (λX=>.bool X) (λX=>[])
theorem Qmi:bm pG Zfn:=oT (.cons Sn (.nil)) Tryz.func214 Tryz.call214 [] [] 2
def DX(m:List Int)(addr size:Int):Tree (Int×Bool):=
.an (Qdk m addr size) (.lv (uy m addr size) λ(x0:Bool)=>.br (!x0) (.lf (0,false)) (.cn (bX 1 1&&bN 0 1&&decide (0<=wrap u32 (eF addr 4)/\wrap u32 (eF addr 4)<(m.length:Int))) (.br (size==1) (.cn (decide (0<=wrap u32 (8*cZ addr 4))) (.lf (bb u32 (bj u32 (m.getD (dA (wrap u32 (eF addr 4))) 0) (wrap u32 (8*cZ addr 4))) 255,true))) (.lf (m.getD (dA (wrap u32 (eF addr 4))) 0,true)))))
def oV m addr size:=(DX m addr size).m
abbrev Qe m addr size:=(DX m addr size).p
def Zlr:ba:=mT 159 [] true [.one (.ints .u32),.one (.int .u32),.one (.int .i64)] [] (λa r=>DX (dh .u32 a 0) (au a 1) (au a 2)) (λX=>.dw [.int .u32 (X.1),.bool (X.2)]) (λX=>[])
theorem Qrc:bm pG Zlr:=oT (.cons Qmi (.nil)) Tryz.func159 Tryz.call159 [] [] 2
def Ll(w:Int):Tree (gw×Bool):=
.lv (oU (wrap i64 (bj u32 w 24))) λ(x0:Int)=>let E5:=({Op:=0,A:=0,B:=0,C:=0,bw:=0}:gw);.br (x0==0) (.lf (E5,false)) (.br (x0==2) (let E3:=({Op:=wrap i64 (bj u32 w 24),A:=wrap i64 (bb u32 (bj u32 w 20) 15),B:=wrap i64 (bb u32 (bj u32 w 16) 15),C:=wrap i64 (bb u32 w 65535),bw:=0}:gw);.lv (EY E3) λ(x1:Bool)=>.br (!x1) (.lf (E5,false)) (.lf (E3,true))) (let T1:Tree ((gw×Bool)):=let E2:=({Op:=wrap i64 (bj u32 w 24),A:=wrap i64 (bb u32 (bj u32 w 20) 15),B:=wrap i64 (bb u32 (bj u32 w 16) 15),C:=0,bw:=wrap i32 (wrap i16 (bb u32 w 65535))}:gw);.lv (EY E2) λ(x2:Bool)=>.br (!x2) (.lf (E5,false)) (.lf (E2,true));.br (x0==3) T1 (.br (x0==7) T1 (let E4:=({Op:=wrap i64 (bj u32 w 24),A:=wrap i64 (bb u32 (bj u32 w 20) 15),B:=wrap i64 (bb u32 (bj u32 w 16) 15),C:=0,bw:=wrap i32 (bb u32 w 65535)}:gw);.lv (EY E4) λ(x4:Bool)=>.br (!x4) (.lf (E5,false)) (.lf (E4,true))))))
def Bd w:=(Ll w).m
def Ze:ba:=mS 160 [] true [.one (.int .u32)] [] (λa r=>Ll (au a 0)) (λX=>.dw [.agg (gw.cells (X.1)),.bool (X.2)]) (λX=>[])
theorem Quc:bm pG Ze:=oS (.cons R6 (.cons Qwj (.nil))) Tryz.func160 Tryz.call160 [] [] 2
def Z1d(access:Int):Tree Bool:=
.br (decide (access>=1)) (.lf (decide (access<=3))) (.lf false)
def Ok access:=(Z1d access).m
def Zlg:ba:=mS 212 [] true [.one (.int .i64)] [] (λa r=>Z1d (au a 0)) (λX=>.bool X) (λX=>[])
theorem Qxq:bm pG Zlg:=oS (.nil) Tryz.func212 Tryz.call212 [] [] 2
def Z24(c:bq):Tree Bool:=
.lf (bb u32 c.C3.a0 (5:Int)==(4:Int))
def Xu c:=(Z24 c).m
def Zju:ba:=mS 213 [] true [.agg bq.sig] [] (λa r=>Z24 (bq.of (aC a 0))) (λX=>.bool X) (λX=>[])
theorem Zgn:bm pG Zju:=oS (.nil) Tryz.func213 Tryz.call213 [] [] 2
def LA(access:Int):Tree Int:=
.br (access==1) (.lf 4) (.br (access==3) (.lf 6) (.lf 5))
def Cn access:=(LA access).m
def Zav:ba:=mS 215 [] true [.one (.int .i64)] [] (λa r=>LA (au a 0)) (λX=>.int .i64 X) (λX=>[])
theorem Qr2:bm pG Zav:=oS (.nil) Tryz.func215 Tryz.call215 [] [] 2
def G5(m:List Int)(root va access:Int):Tree rI:=
.lv (Cn access) λ(x0:Int)=>.lv (wH m) λ(x1:Int)=>.lv (Ok access) λ(x2:Bool)=>let E4:=({Addr:=0,G2:=0,G1:=x0}:rI);.br (!x2) (.lf (E4)) (.br (decide (va>=4096)) (.lf (E4)) (.br (decide (root>=wrap u32 x1)) (.lf (E4)) (let E6:=wrap u32 (root*128)+wrap u32 (4*wrap u32 (eF va 128));let E3:=eF (wrap u32 E6) 4;.cn (bX 1 1&&bN 0 1&&decide (0<=wrap u32 E3/\wrap u32 E3<(m.length:Int))) (let E5:=m.getD (dA (wrap u32 E3)) 0;.br (bb u32 E5 (1:Int)==(0:Int)) (.lf (E4)) (let T1:Tree (rI):=.br (decide (bb u32 (bj u32 E5 8) 255>=wrap u32 x1)) (.lf (E4)) (.lf ({Addr:=wrap u32 (wrap u32 (bb u32 (bj u32 E5 8) (255:Int)*(128:Int))+cZ va 128),G2:=wrap u32 E6,G1:=0}));let T2:Tree (rI):=.br (access==1) (.br (bb u32 E5 (4:Int)==(0:Int)) (.lf (E4)) T1) T1;.br (access==3) (.br (bb u32 E5 (2:Int)==(0:Int)) (.lf (E4)) T2) T2)))))
def Aw m root va access:=(G5 m root va access).m
abbrev Qwz m root va access:=(G5 m root va access).p
def Zmv:ba:=mT 216 [] true [.one (.ints .u32),.one (.int .u32),.one (.int .u32),.one (.int .i64)] [] (λa r=>G5 (dh .u32 a 0) (au a 1) (au a 2) (au a 3)) (λX=>.agg (rI.cells X)) (λX=>[])
theorem Zkj:bm pG Zmv:=oT (.cons Qr2 (.cons Sn (.cons Qxq (.nil)))) Tryz.func216 Tryz.call216 [] [] 2
def Lu(m:List Int)(entry access:Int):Tree (List Int):=
.an (Qdk m entry 4) (.lv (uy m entry 4) λ(x0:Bool)=>.br (!x0) (.lf m) (let E3:=bX 1 1&&bN 0 1&&decide (0<=wrap u32 (eF entry 4)/\wrap u32 (eF entry 4)<(m.length:Int));.cn E3 (.cn E3 (let E4:=dA (wrap u32 (eF entry 4));let E1:=dB m E4 (iJ u32 (m.getD E4 0) 8);.br (access==3) (let E2:=bX 1 1&&bN 0 1&&decide (0<=wrap u32 (eF entry 4)/\wrap u32 (eF entry 4)<(↑(dF E1):Int));.cn E2 (.cn E2 (.lf (dB E1 E4 (iJ u32 (aV E1 E4 0) 16))))) (.lf E1)))))
def Tw m entry access:=(Lu m entry access).m
abbrev Qy9 m entry access:=(Lu m entry access).p
def Zlo:ba:=mT 217 [true,false,false] true [.one (.row 0),.one (.int .u32),.one (.int .i64)] [.arr 25 1 (.ints .u32)] (λa r=>Lu (cw .u32 r 0) (au a 1) (au a 2)) (λX=>.dw []) (λX=>[⟨false,25,1,.ints .u32 X⟩])
theorem Zi:bm pG Zlo:=oT (.cons Qmi (.nil)) Tryz.func217 Tryz.call217 [] [] 2
def I8(c:bq)(m:List Int)(va size access:Int):Tree (Int×Int×(List Int)):=
.lv (Ok access) λ(x0:Bool)=>.br (!x0) (.lf (0,5,m)) (let T1:Tree ((Int×Int×(List Int))):=.cn (decide (wrap u32 size≠0)) (.br (cZ va (wrap u32 size) !=0) (.lf (0,3,m)) (.lv (Xu c) λ(x1:Bool)=>.br (!x1) (.an (Qdk m va size) (.lv (uy m va size) λ(x2:Bool)=>.br (!x2) (.lv (Cn access) λ(x3:Int)=>.lf (0,x3,m)) (.lf (va,0,m)))) (.an (Qwz m c.C3.a6 va access) (.lv (Aw m c.C3.a6 va access) λ(x4:rI)=>.br (x4.G1 !=0) (.lf (0,x4.G1,m)) (.an (Qy9 m x4.G2 access) (.lv (Tw m x4.G2 access) λ(x5:List Int)=>.lf (x4.Addr,0,x5)))))));.br (size !=1) (.br (size !=4) (.lf (0,5,m)) T1) T1)
def lX c m va size access:=(I8 c m va size access).m
abbrev Sp c m va size access:=(I8 c m va size access).p
def Zl0:ba:=mT 158 [false,true,false,false,false] true [.agg bq.sig,.one (.row 0),.one (.int .u32),.one (.int .i64),.one (.int .i64)] [.arr 25 1 (.ints .u32)] (λa r=>I8 (bq.of (aC a 0)) (cw .u32 r 0) (au a 2) (au a 3) (au a 4)) (λX=>.dw [.int .u32 (X.1),.int .i64 (X.2.1)]) (λX=>[⟨false,25,1,.ints .u32 (X.2.2)⟩])
theorem Qy0:bm pG Zl0:=oT (.cons Qxq (.cons Zgn (.cons Qmi (.cons Qr2 (.cons Zkj (.cons Zi (.nil))))))) Tryz.func158 Tryz.call158 [] [] 2
def Qn4(op:Int):Tree Bool:=
.br (decide (op>=57)) (.lf (decide (op<=64))) (.lf false)
def Lh op:=(Qn4 op).m
def Z1:ba:=mS 161 [] true [.one (.int .i64)] [] (λa r=>Qn4 (au a 0)) (λX=>.bool X) (λX=>[])
theorem Qyh:bm pG Z1:=oS (.nil) Tryz.func161 Tryz.call161 [] [] 2
def Oq(c:bq):Tree bq:=
.lv (Co (bb u32 c.C3.a0 (8:Int) !=(0:Int))) λ(x0:Int)=>.lv (Co (bb u32 c.C3.a0 (16:Int) !=(0:Int))) λ(x1:Int)=>.lf ({X:=c.X,Pc:=c.C3.a2,C3:={a0:=iJ u32 (iJ u32 (oR u32 c.C3.a0 3) (wrap u32 (1*x0))) (wrap u32 (2*x1)),a1:=c.C3.a1,a2:=c.C3.a2,a3:=c.C3.a3,a4:=c.C3.a4,a5:=c.C3.a5,a6:=c.C3.a6,a7:=c.C3.a7}})
def Tx c:=(Oq c).m
def Zfe:ba:=mS 218 [] true [.agg bq.sig] [] (λa r=>Oq (bq.of (aC a 0))) (λX=>.agg (bq.cells X)) (λX=>[])
theorem Z8v:bm pG Zfe:=oS (.cons Qvd (.nil)) Tryz.func218 Tryz.call218 [] [] 2
def I7(c:bq)(r v:Int):Tree bq:=
.br (decide (r>0)) (.br (decide (r<16)) (.cn (bN 0 1&&decide (0<=r/\r<(↑16:Int))) (.lf ({X:=iv.of 0 (dB (iv.l c.X) r.toNat v),Pc:=c.Pc,C3:=c.C3}))) (.lf c)) (.lf c)
def lO c r v:=(I7 c r v).m
abbrev DG c r v:=(I7 c r v).p
def Zrf:ba:=mT 121 [] true [.agg bq.sig,.one (.int .i64),.one (.int .u32)] [] (λa r=>I7 (bq.of (aC a 0)) (au a 1) (au a 2)) (λX=>.agg (bq.cells X)) (λX=>[])
theorem Sq:bm pG Zrf:=oT (.nil) Tryz.func121 Tryz.call121 [] [] 2
def LB(c:bq)(jq v:Int):Tree bq:=
let E4:=bN 0 1&&decide (0<=jq/\jq<(↑8:Int));let T2:Tree (bq):=.cn E4 (.lf ({X:=c.X,Pc:=c.Pc,C3:=A8.of 0 (dB (A8.l c.C3) jq.toNat (bb u32 v 31))}));.br (jq==0) T2 (.br (jq==7) T2 (.br (jq==6) (.cn E4 (.lf ({X:=c.X,Pc:=c.Pc,C3:=A8.of 0 (dB (A8.l c.C3) jq.toNat (bb u32 v 255))}))) (let T3:Tree (bq):=.cn E4 (.lf ({X:=c.X,Pc:=c.Pc,C3:=A8.of 0 (dB (A8.l c.C3) jq.toNat (oR u32 v 3))}));.br (jq==1) T3 (.br (jq==2) T3 (let T1:Tree (bq):=.cn E4 (.lf ({X:=c.X,Pc:=c.Pc,C3:=A8.of 0 (dB (A8.l c.C3) jq.toNat v)}));.br (jq==3) T1 (.br (jq==4) T1 (.br (jq==5) T1 (.lf c))))))))
def Ow c jq v:=(LB c jq v).m
abbrev Quk c jq v:=(LB c jq v).p
def Zj0:ba:=mT 219 [] true [.agg bq.sig,.one (.int .i64),.one (.int .u32)] [] (λa r=>LB (bq.of (aC a 0)) (au a 1) (au a 2)) (λX=>.agg (bq.cells X)) (λX=>[])
theorem Zfh:bm pG Zj0:=oT (.nil) Tryz.func219 Tryz.call219 [] [] 2
def Rz(c:bq)(i:gw):Tree (bq×lK):=
.br (i.Op==56) (.lv (pP c 7 0) λ(x0:bq)=>.lf (x0,{C2:=0,D8:=0,F9:=0,Value:=0})) (.br (i.Op==57) (.lv (Tx c) λ(x1:bq)=>.lf (x1,{C2:=0,D8:=0,F9:=0,Value:=0})) (.br (i.Op==58) (.cn (bN 0 1&&decide (0<=i.bw/\i.bw<(↑8:Int))) (let E3:=aV (A8.l c.C3) i.bw.toNat 0;.an (DG c i.A E3) (.lv (lO c i.A E3) λ(x2:bq)=>.lf ({X:=x2.X,Pc:=wrap u32 (x2.Pc+4),C3:=x2.C3},{C2:=0,D8:=0,F9:=0,Value:=0})))) (let E2:=bN 0 1&&decide (0<=i.A/\i.A<(↑16:Int));.br (i.Op==59) (.cn E2 (let E4:=aV (iv.l c.X) i.A.toNat 0;.an (Quk c (wrap i64 i.bw) E4) (.lv (Ow c (wrap i64 i.bw) E4) λ(x3:bq)=>.lf ({X:=x3.X,Pc:=wrap u32 (x3.Pc+4),C3:=x3.C3},{C2:=0,D8:=0,F9:=0,Value:=0})))) (let E1:=({X:=c.X,Pc:=wrap u32 (c.Pc+4),C3:=c.C3}:bq);.br (i.Op==60) (.lf (E1,{C2:=1,D8:=wrap i64 i.bw,F9:=i.A,Value:=0})) (.br (i.Op==61) (.cn E2 (.lf (E1,{C2:=2,D8:=wrap i64 i.bw,F9:=0,Value:=aV (iv.l c.X) i.A.toNat 0}))) (.br (i.Op==62) (.lf (E1,{C2:=3,D8:=0,F9:=0,Value:=0})) (.br (i.Op==63) (.lf (E1,{C2:=5,D8:=0,F9:=0,Value:=0})) (.br (i.Op==64) (.lf (E1,{C2:=4,D8:=0,F9:=0,Value:=0})) (.lf (E1,{C2:=0,D8:=0,F9:=0,Value:=0}))))))))))
def Xy c i:=(Rz c i).m
abbrev Qqx c i:=(Rz c i).p
def Zez:ba:=mT 162 [] true [.agg bq.sig,.agg gw.sig] [] (λa r=>Rz (bq.of (aC a 0)) (gw.of (aC a 1))) (λX=>.dw [.agg (bq.cells (X.1)),.agg (lK.cells (X.2))]) (λX=>[])
theorem Zan:bm pG Zez:=oT (.cons V0 (.cons Z8v (.cons Sq (.cons Zfh (.nil))))) Tryz.func162 Tryz.call162 [] [] 2
def Z1o(op a b:Int):Tree Bool:=
.br (op==40) (.lf (a==b)) (.br (op==41) (.lf (a !=b)) (.br (op==42) (.lf (decide (wrap i32 a<wrap i32 b))) (.br (op==43) (.lf (decide (wrap i32 a>=wrap i32 b))) (.br (op==44) (.lf (decide (a<b))) (.lf (decide (a>=b)))))))
def ri op a b:=(Z1o op a b).m
def Zhg:ba:=mS 220 [] true [.one (.int .i64),.one (.int .u32),.one (.int .u32)] [] (λa r=>Z1o (au a 0) (au a 1) (au a 2)) (λX=>.bool X) (λX=>[])
theorem Zfc:bm pG Zhg:=oS (.nil) Tryz.func220 Tryz.call220 [] [] 2
def RA(c:bq)(i:gw):Tree bq:=
.br (i.Op==48) (.an (DG c i.A (wrap u32 (c.Pc+4))) (.lv (lO c i.A (wrap u32 (c.Pc+4))) λ(x0:bq)=>.lf ({X:=x0.X,Pc:=wrap u32 (c.Pc+wrap u32 (4*wrap u32 i.bw)),C3:=x0.C3}))) (let E1:=bN 0 1&&decide (0<=i.B/\i.B<(↑16:Int));.br (i.Op==49) (.cn E1 (.an (DG c i.A (wrap u32 (c.Pc+4))) (.lv (lO c i.A (wrap u32 (c.Pc+4))) λ(x1:bq)=>.lf ({X:=x1.X,Pc:=wrap u32 (aV (iv.l c.X) i.B.toNat 0+wrap u32 i.bw),C3:=x1.C3})))) (.cn (bN 0 1&&decide (0<=i.A/\i.A<(↑16:Int))) (.cn E1 (.lv (ri i.Op (aV (iv.l c.X) i.A.toNat 0) (aV (iv.l c.X) i.B.toNat 0)) λ(x2:Bool)=>.br x2 (.lf ({X:=c.X,Pc:=wrap u32 (c.Pc+wrap u32 (4*wrap u32 i.bw)),C3:=c.C3})) (.lf ({X:=c.X,Pc:=wrap u32 (c.Pc+4),C3:=c.C3}))))))
def Z8b c i:=(RA c i).m
abbrev Qxt c i:=(RA c i).p
def Zm2:ba:=mT 163 [] true [.agg bq.sig,.agg gw.sig] [] (λa r=>RA (bq.of (aC a 0)) (gw.of (aC a 1))) (λX=>.agg (bq.cells X)) (λX=>[])
theorem Zip:bm pG Zm2:=oT (.cons Sq (.cons Zfc (.nil))) Tryz.func163 Tryz.call163 [] [] 2
def Ry(x n:Int):Tree Int:=
.br (decide (n<1)) (.lf 0) (.br (decide (n>=32)) (.lf x) (.cn (decide (0<=wrap u64 n)) (.cn (decide (0<=wrap u64 (wrap i64 (n-1)))) (let E1:=bb u32 x (wrap u32 (ei u32 1 (wrap u64 n)-1));.br (bj u32 E1 (wrap u64 (wrap i64 (n-1)))==1) (.cn (decide (0<=wrap u64 n)) (.lf (iJ u32 E1 (ei u32 4294967295 (wrap u64 n))))) (.lf E1)))))
def GY x n:=(Ry x n).m
abbrev Qco x n:=(Ry x n).p
def Z04:ba:=mT 222 [] true [.one (.int .u32),.one (.int .i64)] [] (λa r=>Ry (au a 0) (au a 1)) (λX=>.int .u32 X) (λX=>[])
theorem Qxz:bm pG Z04:=oT (.nil) Tryz.func222 Tryz.call222 [] [] 2
def RB(c:bq)(m:List Int)(i:gw):Tree (bq×(List Int)):=
.cn (bN 0 1&&decide (0<=i.B/\i.B<(↑16:Int))) (let E4:=wrap u32 (aV (iv.l c.X) i.B.toNat 0+wrap u32 i.bw);let E5:=aV (iv.l c.X) i.A.toNat 0;let E6:=bN 0 1&&decide (0<=i.A/\i.A<(↑16:Int));let E7:=({X:=c.X,Pc:=wrap u32 (c.Pc+4),C3:=c.C3}:bq);let T1:Tree ((bq×(List Int))):=let T3:Tree ((bq×(List Int))):=.an (Sp c m E4 4 3) (.lv (lX c m E4 4 3) λ(x0:Int×Int×List Int)=>.br (x0.2.1 !=0) (.lv (pP c x0.2.1 E4) λ(x1:bq)=>.lf (x1,x0.2.2)) (.cn E6 (.an (Qm3 x0.2.2 x0.1 4 E5) (.lv (I5 x0.2.2 x0.1 4 E5) λ(x2:List Int)=>.lf (E7,x2)))));.br (i.Op==35) T3 (.br (i.Op==36) T3 (.an (Sp c m E4 4 2) (.lv (lX c m E4 4 2) λ(x6:Int×Int×List Int)=>.br (x6.2.1 !=0) (.lv (pP c x6.2.1 E4) λ(x7:bq)=>.lf (x7,x6.2.2)) (.an (Qe x6.2.2 x6.1 4) (.lv (oV x6.2.2 x6.1 4) λ(x8:Int×Bool)=>.br (i.Op==33) (.an (Qco x8.1 8) (.lv (GY x8.1 8) λ(x9:Int)=>.an (DG c i.A x9) (.lv (lO c i.A x9) λ(jy:bq)=>.lf ({X:=jy.X,Pc:=wrap u32 (jy.Pc+4),C3:=jy.C3},x6.2.2)))) (.an (DG c i.A x8.1) (.lv (lO c i.A x8.1) λ(kI:bq)=>.lf ({X:=kI.X,Pc:=wrap u32 (kI.Pc+4),C3:=kI.C3},x6.2.2))))))));.br (i.Op==32) T1 (.br (i.Op==35) T1 (let T2:Tree ((bq×(List Int))):=.an (Sp c m E4 1 3) (.lv (lX c m E4 1 3) λ(Er:Int×Int×List Int)=>.br (Er.2.1 !=0) (.lv (pP c Er.2.1 E4) λ(x25:bq)=>.lf (x25,Er.2.2)) (.cn E6 (.an (Qm3 Er.2.2 Er.1 1 E5) (.lv (I5 Er.2.2 Er.1 1 E5) λ(x26:List Int)=>.lf (E7,x26)))));.br (i.Op==35) T2 (.br (i.Op==36) T2 (.an (Sp c m E4 1 2) (.lv (lX c m E4 1 2) λ(rW:Int×Int×List Int)=>.br (rW.2.1 !=0) (.lv (pP c rW.2.1 E4) λ(x31:bq)=>.lf (x31,rW.2.2)) (.an (Qe rW.2.2 rW.1 1) (.lv (oV rW.2.2 rW.1 1) λ(V1:Int×Bool)=>.br (i.Op==33) (.an (Qco V1.1 8) (.lv (GY V1.1 8) λ(x33:Int)=>.an (DG c i.A x33) (.lv (lO c i.A x33) λ(x34:bq)=>.lf ({X:=x34.X,Pc:=wrap u32 (x34.Pc+4),C3:=x34.C3},rW.2.2)))) (.an (DG c i.A V1.1) (.lv (lO c i.A V1.1) λ(x35:bq)=>.lf ({X:=x35.X,Pc:=wrap u32 (x35.Pc+4),C3:=x35.C3},rW.2.2)))))))))))
def G6 c m i:=(RB c m i).m
abbrev Qn1 c m i:=(RB c m i).p
def Z4r:ba:=mT 164 [false,true,false] true [.agg bq.sig,.one (.row 0),.agg gw.sig] [.arr 25 1 (.ints .u32)] (λa r=>RB (bq.of (aC a 0)) (cw .u32 r 0) (gw.of (aC a 2))) (λX=>.agg (bq.cells (X.1))) (λX=>[⟨false,25,1,.ints .u32 (X.2)⟩])
theorem Z3d:bm pG Z4r:=oT (.cons Qy0 (.cons V0 (.cons Z5y (.cons Qrc (.cons Qxz (.cons Sq (.nil))))))) Tryz.func164 Tryz.call164 [] [] 2
def Z1n(op:Int):Tree Int:=
.br (op==16) (.lf 1) (.br (op==17) (.lf 3) (.br (op==18) (.lf 4) (.br (op==19) (.lf 5) (.br (op==20) (.lf 6) (.br (op==21) (.lf 7) (.br (op==22) (.lf 8) (.br (op==23) (.lf 12) (.lf op))))))))
def Zch op:=(Z1n op).m
def Zij:ba:=mS 223 [] true [.one (.int .i64)] [] (λa r=>Z1n (au a 0)) (λX=>.int .i64 X) (λX=>[])
theorem Zda:bm pG Zij:=oS (.nil) Tryz.func223 Tryz.call223 [] [] 2
def Ly(a b:Int):Tree (Int×Int):=
.br (b==0) (.lf (4294967295,a)) (.cn (decide (wrap i64 (wrap i32 b)≠0)) (.cn (decide (wrap i64 (wrap i32 b)≠0)) (.lf (wrap u32 (wrap i64 (eF (wrap i64 (wrap i32 a)) (wrap i64 (wrap i32 b)))),wrap u32 (cZ (wrap i64 (wrap i32 a)) (wrap i64 (wrap i32 b)))))))
def Lw a b:=(Ly a b).m
abbrev Qkb a b:=(Ly a b).p
def Zgd:ba:=mT 224 [] true [.one (.int .u32),.one (.int .u32)] [] (λa r=>Ly (au a 0) (au a 1)) (λX=>.dw [.int .u32 (X.1),.int .u32 (X.2)]) (λX=>[])
theorem Z94:bm pG Zgd:=oT (.nil) Tryz.func224 Tryz.call224 [] [] 2
def Rx(op a b:Int):Tree (Int×Bool):=
.lv (Zch op) λ(x0:Int)=>.br (x0==1) (.lf (wrap u32 (a+b),true)) (.br (x0==2) (.lf (wrap u32 (a-b),true)) (.br (x0==3) (.lf (bb u32 a b,true)) (.br (x0==4) (.lf (iJ u32 a b,true)) (.br (x0==5) (.lf (rG u32 a b,true)) (.br (x0==6) (.lf (ei u32 a (bb u32 b 31),true)) (.br (x0==7) (.lf (bj u32 a (bb u32 b 31),true)) (.br (x0==8) (.lf (wrap u32 (bj i32 (wrap i32 a) (bb u32 b 31)),true)) (.br (x0==9) (.lf (wrap u32 (a*b),true)) (.br (x0==10) (.an (Qkb a b) (.lv (Lw a b) λ(x1:Int×Int)=>.lf (x1.1,true))) (.br (x0==11) (.an (Qkb a b) (.lv (Lw a b) λ(x2:Int×Int)=>.lf (x2.2,true))) (.br (x0==12) (.lv (Co (decide (wrap i32 a<wrap i32 b))) λ(x3:Int)=>.lf (x3,true)) (.br (x0==13) (.lv (Co (decide (a<b))) λ(x4:Int)=>.lf (x4,true)) (.lf (0,false))))))))))))))
def DY op a b:=(Rx op a b).m
abbrev Qs9 op a b:=(Rx op a b).p
def Zr4:ba:=mT 165 [] true [.one (.int .i64),.one (.int .u32),.one (.int .u32)] [] (λa r=>Rx (au a 0) (au a 1) (au a 2)) (λX=>.dw [.int .u32 (X.1),.bool (X.2)]) (λX=>[])
theorem Znd:bm pG Zr4:=oT (.cons Zda (.cons Z94 (.cons Qvd (.nil)))) Tryz.func165 Tryz.call165 [] [] 2
def RC(c:bq)(m:List Int):Tree (bq×lK×(List Int)):=
.an (Sp c m c.Pc 4 1) (.lv (lX c m c.Pc 4 1) λ(x0:Int×Int×List Int)=>.br (x0.2.1 !=0) (.lv (pP c x0.2.1 c.Pc) λ(x1:bq)=>.lf (x1,{C2:=0,D8:=0,F9:=0,Value:=0},x0.2.2)) (.an (Qe x0.2.2 x0.1 4) (.lv (oV x0.2.2 x0.1 4) λ(x2:Int×Bool)=>.lv (Bd x2.1) λ(x3:gw×Bool)=>.br (!x3.2) (.lv (pP c 1 x2.1) λ(x4:bq)=>.lf (x4,{C2:=0,D8:=0,F9:=0,Value:=0},x0.2.2)) (.lv (Lh x3.1.Op) λ(x5:Bool)=>let T1:Tree ((bq×lK×(List Int))):=.br (decide (x3.1.Op>=56)) (.an (Qqx c x3.1) (.lv (Xy c x3.1) λ(x7:bq×lK)=>.lf (x7.1,x7.2,x0.2.2))) (.br (decide (x3.1.Op>=40)) (.an (Qxt c x3.1) (.lv (Z8b c x3.1) λ(x8:bq)=>.lf (x8,{C2:=0,D8:=0,F9:=0,Value:=0},x0.2.2))) (.br (decide (x3.1.Op>=32)) (.an (Qn1 c x0.2.2 x3.1) (.lv (G6 c x0.2.2 x3.1) λ(x9:bq×List Int)=>.lf (x9.1,{C2:=0,D8:=0,F9:=0,Value:=0},x9.2))) (.br (x3.1.Op==24) (.an (DG c x3.1.A (ei u32 (wrap u32 x3.1.bw) 16)) (.lv (lO c x3.1.A (ei u32 (wrap u32 x3.1.bw) 16)) λ(jy:bq)=>.lf ({X:=jy.X,Pc:=wrap u32 (jy.Pc+4),C3:=jy.C3},{C2:=0,D8:=0,F9:=0,Value:=0},x0.2.2))) (let E2:=aV (iv.l c.X) x3.1.B.toNat 0;let E3:=bN 0 1&&decide (0<=x3.1.B/\x3.1.B<(↑16:Int));.br (decide (x3.1.Op<=13)) (.cn (bN 0 1&&decide (0<=x3.1.C/\x3.1.C<(↑16:Int))) (.cn E3 (let E4:=aV (iv.l c.X) x3.1.C.toNat 0;.an (Qs9 x3.1.Op E2 E4) (.lv (DY x3.1.Op E2 E4) λ(kI:Int×Bool)=>.an (DG c x3.1.A kI.1) (.lv (lO c x3.1.A kI.1) λ(kr:bq)=>.lf ({X:=kr.X,Pc:=wrap u32 (kr.Pc+4),C3:=kr.C3},{C2:=0,D8:=0,F9:=0,Value:=0},x0.2.2)))))) (.cn E3 (.an (Qs9 x3.1.Op E2 (wrap u32 x3.1.bw)) (.lv (DY x3.1.Op E2 (wrap u32 x3.1.bw)) λ(AO:Int×Bool)=>.an (DG c x3.1.A AO.1) (.lv (lO c x3.1.A AO.1) λ(Ge:bq)=>.lf ({X:=Ge.X,Pc:=wrap u32 (Ge.Pc+4),C3:=Ge.C3},{C2:=0,D8:=0,F9:=0,Value:=0},x0.2.2)))))))));.br x5 (.br (bb u32 c.C3.a0 (1:Int)==(0:Int)) (.lv (pP c 2 x2.1) λ(x6:bq)=>.lf (x6,{C2:=0,D8:=0,F9:=0,Value:=0},x0.2.2)) T1) T1))))
def Bf c m:=(RC c m).m
abbrev Z7x c m:=(RC c m).p
def yD:ba:=mT 119 [false,true] true [.agg bq.sig,.one (.row 0)] [.arr 25 1 (.ints .u32)] (λa r=>RC (bq.of (aC a 0)) (cw .u32 r 0)) (λX=>.dw [.agg (bq.cells (X.1)),.agg (lK.cells (X.2.1))]) (λX=>[⟨false,25,1,.ints .u32 (X.2.2)⟩])
theorem Zta:bm pG yD:=oT (.cons Qy0 (.cons V0 (.cons Qrc (.cons Quc (.cons Qyh (.cons Zan (.cons Zip (.cons Z3d (.cons Sq (.cons Znd (.nil))))))))))) Tryz.func119 Tryz.call119 [] [] 2
end
noncomputable section
def OC(m:List Int)(frame:Int):Tree Bool:=
.lv (wH m) λ(x0:Int)=>.lf (decide (wrap u64 frame<wrap u64 x0))
def tI m frame:=(OC m frame).m
def Zmb:ba:=mS 226 [] true [.one (.ints .u32),.one (.int .u32)] [] (λa r=>OC (dh .u32 a 0) (au a 1)) (λX=>.bool X) (λX=>[])
theorem Se:bm pG Zmb:=oS (.cons Sn (.nil)) Tryz.func226 Tryz.call226 [] [] 2
def Qet(m:bc)(z:(Int)):Nat:=(32-z).toNat
def LV(m:bc):Tree bq:=
.an (Qhk m) (.lv (Bi m) λ(x0:Int)=>.br (bb u32 m.B4.C3.a0 (2:Int)==(0:Int)) (.lf m.B4) (.br (x0==0) (.lf m.B4) (.lp inferInstance (Qet m 0+1) ((rZ/\rZ/\rE (x0:Int)/\rE (0:Int)/\True)/\(mE m (((ai.Nil (ai.ints u32 m.Mem)\/rE (1:Nat))/\rE m.Mem)) True)/\(rE (0:Int)/\rE (0:Int)/\rE (0:Int)/\rE (0:Int)/\rE (0:Int)/\rE (0:Int)/\rE (0:Int)/\rE (0:Int)/\rE (0:Int)/\rE (0:Int)/\rE (0:Int)/\rE (0:Int)/\rE (0:Int)/\rE (0:Int)/\rE (0:Int)/\rE (0:Int)/\rE (0:Int)/\rE (0:Int)/\rE (0:Int)/\rE (0:Int)/\rE (0:Int)/\rE (0:Int)/\rE (0:Int)/\rE (0:Int)/\rE (0:Int)/\True)/\True) 0 λ(v0:Int)=>.cn (decide (0<=wrap u64 v0)) (.br (bb u32 (bj u32 x0 (wrap u64 v0)) (1:Int)==(0:Int)) (.nx ((rZ/\rZ/\rE (x0:Int)/\rE ((wrap i64 (v0+1)):Int)/\True)/\(mE m (((ai.Nil (ai.ints u32 m.Mem)\/rE (1:Nat))/\rE m.Mem)) True)/\(rE (0:Int)/\rE (0:Int)/\rE (0:Int)/\rE (0:Int)/\rE (0:Int)/\rE (0:Int)/\rE (0:Int)/\rE (0:Int)/\rE (0:Int)/\rE (0:Int)/\rE (0:Int)/\rE (0:Int)/\rE (0:Int)/\rE (0:Int)/\rE (0:Int)/\rE (0:Int)/\rE (0:Int)/\rE (0:Int)/\rE (0:Int)/\rE (0:Int)/\rE (0:Int)/\rE (0:Int)/\rE (0:Int)/\rE (0:Int)/\rE (0:Int)/\True)/\True) (Sum.inl (wrap i64 (v0+1)))) (.lv (pP m.B4 (wrap i64 (16+v0)) 0) λ(x1:bq)=>.lf (Sum.inr x1))))))
def rj m:=(LV m).m
abbrev Qb6 m:=(LV m).p
def Qv:cg:={
 α:=(Int)
 F:=λst a=>([(1,.ptr 0 0 0),(2,.ptr 1 0 0),(3,(lk st 3)),(4,.int i64 a)],[⟨true,43,49,.gen [mB (cT st 1)]⟩,⟨true,29,25,.gen [[(cT st 2 0),(cT st 2 1),(cT st 2 2),(cT st 2 3),(cT st 2 4),(cT st 2 5),(cT st 2 6),(cT st 2 7),(cT st 2 8),(cT st 2 9),(cT st 2 10),(cT st 2 11),(cT st 2 12),(cT st 2 13),(cT st 2 14),(cT st 2 15),(cT st 2 16),(cT st 2 17),(cT st 2 18),(cT st 2 19),(cT st 2 20),(cT st 2 21),(cT st 2 22),(cT st 2 23),(cT st 2 24)]]⟩])
 a0:=λst=>(lk st 4).toInt
 jl:=λst=>[]++[(rX st 1 0),(rX st 2 1)]}
def Qrl:List (Nat×cg):=[(5,Qv)]
def Qx0:ba:=mT 118 [] true [.agg bc.sig] [] (λa r=>LV (bc.of (aC a 0))) (λX=>.agg (bq.cells X)) (λX=>[])
theorem Qjj:bm pG Qx0:=oT (.cons Qqs (.cons V0 (.nil))) Tryz.func118 Tryz.call118 [] Qrl 3
def G8(c:iN)(port:Int):Tree (iN×Int):=
let T1:Tree ((iN×Int)):=.br (port==0) (.cn (decide ((0:Int)<=(1:Int)/\1<=(c.D9.length:Int)/\(c.D9.length:Int)<=(c.D9.length:Int))) (.cn (decide ((0:Int)<=(0:Int)/\0<(c.D9.length:Int))) (.lf ({D9:=cU (dA (c.D9.length:Int)-dA 1) (cV (dA 1) c.D9)},wrap u32 (↑(UInt8.toNat (c.D9.getD (dA 0) (0:UInt8))):Int))))) (.br (port==1) (.lf (c,wrap u32 (c.D9.length:Int))) (.lf (c,0)));.br (port==0) (.br ((c.D9.length:Int)==(0:Int)) (.lf (c,4294967295)) T1) T1
def LF c port:=(G8 c port).m
theorem Qxu(c:iN)(port:Int):(G8 c port).p:=by
 unfold Tree.p G8
 repeat'(first|exact trivial|refine ab (λ_=>?_) (λ_=>?_)|refine aw ?_ ?_|refine c8 ?_ ?_|refine aq (λ_ _=>?_)|refine ep ?_|refine bg ?_|refine And.intro ?_ ?_)
 all_goals(exact nQ)
def Z3e:ba:=mS 166 [] true [.agg iN.sig,.one (.int .i64)] [] (λa r=>G8 (iN.of (aC a 0)) (au a 1)) (λX=>.dw [.agg (iN.cells (X.1)),.int .u32 (X.2)]) (λX=>[])
theorem Qzo:bm pG Z3e:=oS (.nil) Tryz.func166 Tryz.call166 [] [] 2 (λ_ _ _=>by kernel_rfl) (λa r=>Qxu (iN.of (aC a 0)) (au a 1)) (λ_ X=>by kernel_rfl)
def Vp(t:iV):Tree Int:=
.br t.E0 (.lf 1) (.lf 0)
def Qm t:=(Vp t).m
def Z8z:ba:=mS 167 [] true [.agg iV.sig] [] (λa r=>Vp (iV.of (aC a 0))) (λX=>.int .u32 X) (λX=>[])
theorem Z5s:bm pG Z8z:=oS (.nil) Tryz.func167 Tryz.call167 [] [] 2
def Vo(d0:fx)(port:Int):Tree Int:=
.br (port==4) (.lf d0.C8) (.br (port==5) (.lf d0.Frame) (.br (port==6) (.lf (wrap u32 d0.C7)) (.lf 0)))
def XZ d0 port:=(Vo d0 port).m
def Zgt:ba:=mS 168 [] true [.agg fx.sig,.one (.int .i64)] [] (λa r=>Vo (fx.of (aC a 0)) (au a 1)) (λX=>.int .u32 X) (λX=>[])
theorem Z9j:bm pG Zgt:=oS (.nil) Tryz.func168 Tryz.call168 [] [] 2
def OB(n:gx)(port:Int):Tree Int:=
.br (port==7) (.lf n.Frame) (.br (port==8) (.lf n.G0) (.br (port==9) (.br n.D1 (.br n.C4 (.lf (wrap u32 ((1:Int)+(2:Int)))) (.lf 1)) (.br n.C4 (.lf (wrap u32 ((0:Int)+(2:Int)))) (.lf 0))) (.lf 0)))
def TF n port:=(OB n port).m
def Zjd:ba:=mS 169 [] true [.agg gx.sig,.one (.int .i64)] [] (λa r=>OB (gx.of (aC a 0)) (au a 1)) (λX=>.int .u32 X) (λX=>[])
theorem Zdo:bm pG Zjd:=oS (.nil) Tryz.func169 Tryz.call169 [] [] 2
def LK(b:gm)(port:Int):Tree Int:=
.br (port==10) (.lf b.A2) (.br (port==11) (.lv (LD b) λ(x0:Int)=>.lf (wrap u32 x0)) (.lf 0))
def LJ b port:=(LK b port).m
def Z2t:ba:=mS 170 [] true [.agg gm.sig,.one (.int .i64)] [] (λa r=>LK (gm.of (aC a 0)) (au a 1)) (λX=>.int .u32 X) (λX=>[])
theorem Qyl:bm pG Z2t:=oS (.cons Qx2 (.nil)) Tryz.func170 Tryz.call170 [] [] 2
def Qs(m:bc)(port clock:Int):Tree (Int×bc):=
.br (decide (port<=1)) (.lv (LF m.B2 port) λ(x0:iN×Int)=>.lf (x0.2,{B4:=m.B4,Mem:=m.Mem,B2:=x0.1,B9:=m.B9,B7:=m.B7,D2:=m.D2,A7:=m.A7,B6:=m.B6,B3:=m.B3,B5:=m.B5})) (.br (port==2) (.lf (clock,m)) (.br (port==3) (.lv (Qm m.B9) λ(x1:Int)=>.lf (x1,m)) (.br (decide (port<=6)) (.lv (XZ m.B7 port) λ(x2:Int)=>.lf (x2,m)) (.br (decide (port<=9)) (.lv (TF m.D2 port) λ(x3:Int)=>.lf (x3,m)) (.lv (LJ m.A7 port) λ(x4:Int)=>.lf (x4,m))))))
def Ql m port clock:=(Qs m port clock).m
def vD:ba:=mS 120 [true,false,false] true [.ptr 0,.one (.int .i64),.one (.int .u32)] [.box 43 49 (bc.ig (.row 1)),.arr 25 1 (.ints .u32)] (λa r=>Qs (bc.iC (r.getD 0 default).cs (cw .u32 r 1)) (au a 1) (au a 2)) (λX=>.int .u32 (X.1)) (λX=>[⟨true,43,49,.gen [(bc.cq (X.2) (.all 1))]⟩,⟨false,25,1,.ints .u32 (X.2).Mem⟩])
theorem Zsi:bm pG vD:=oS (.cons Qzo (.cons Z5s (.cons Z9j (.cons Zdo (.cons Qyl (.nil)))))) Tryz.func120 Tryz.call120 [.row 25 1 (.ints .u32)] [] 2
def XG(deadline:Int):Tree iV:=
.br (deadline==0) (.lf ({F2:=false,D4:=0,E0:=false})) (.lf ({F2:=true,D4:=deadline,E0:=false}))
def XF deadline:=(XG deadline).m
def Zr6:ba:=mS 171 [] true [.one (.int .u32)] [] (λa r=>XG (au a 0)) (λX=>.agg (iV.cells X)) (λX=>[])
theorem Zn6:bm pG Zr6:=oS (.nil) Tryz.func171 Tryz.call171 [] [] 2
def Qxi(x n:Int)(z:(Int)×(List Int)):Prop:=0<=z.1/\(z.2.length:Int)=z.1/\(z.1<=n\/z.1=0)
def Vn(x n:Int)(z:(Int)×(List Int)):Nat:=(n-z.1).toNat
def ME(x n:Int):Tree (List UInt8):=
.lp inferInstance (Vn x n (0,[])+1) ((rE (x:Int)/\rE (n:Int)/\True/\rE (0:Int)/\True)/\rE ([]:List Int)/\True) (0,[]) λ(v0:Int×List Int)=>.br (decide (v0.1<n)) (.cn (decide (0<=wrap u64 (wrap i64 (8*v0.1)))) (.cn (decide (1*(v0.2.length+1)<=140737488355328)) (.nx ((rE (x:Int)/\rE (n:Int)/\True/\rE ((wrap i64 (v0.1+1)):Int)/\True)/\rE ((v0.2++[wrap u8 (bj u32 x (wrap u64 (wrap i64 (8*v0.1))))]):List Int)/\True) (Sum.inl (wrap i64 (v0.1+1),v0.2++[wrap u8 (bj u32 x (wrap u64 (wrap i64 (8*v0.1))))]))))) (.lf (Sum.inr (bytesOf v0.2)))
def Xm x n:=(ME x n).m
def V2(x n:Int):Prop:=
n<=1000000000000
theorem Zj8(x n:Int)(hw:V2 x n):(ME x n).p:=by
 simp only[V2]at hw
 unfold Tree.p ME
 repeat'(first|refine fj (inv:=Qxi x n) (μ:=Vn x n) ?_ (cN _) (λ_ _=>?_)|exact trivial|refine ab (λ_=>?_) (λ_=>?_)|refine aw ?_ ?_|refine c8 ?_ ?_|refine aq (λ_ _=>?_)|refine ep ?_|refine bg ?_|refine And.intro ?_ ?_)
 all_goals((try simp only[Qxi,Vn]at*);exact nQ)
def Zmy:cg:={
 α:=(Int)×(List Int)
 F:=λst a=>([(0,(lk st 0)),(1,(lk st 1)),(5,.all 0),(6,.int i64 a.1)],[⟨false,5,1,.ints u8 a.2⟩])
 a0:=λst=>((lk st 6).toInt,(oq st.rows (rN st 5)))
 jl:=λst=>[]++[(rX st 5 0)]}
def Zgv:List (Nat×cg):=[(3,Zmy)]
def Zsf:ba:=lJ 206 [] true [.one (.int .u32),.one (.int .i64)] [] (λa r=>V2 (au a 0) (au a 1)) (λa r=>Xm (au a 0) (au a 1)) (λX=>.str X) (λX=>[])
theorem Zo0:bm pG Zsf:=wc drawn jB (.nil) Tryz.func206 Tryz.call206 (λa r=>ME (au a 0) (au a 1)) [] Zgv 3 (hp:=λa r h=>Zj8 (au a 0) (au a 1) h)
def Xn(m:List Int)(frame:Int)(z:(Int)×(List Int)):Nat:=(32-z.1).toNat
def G4(m:List Int)(frame:Int):Tree ((List UInt8)×Bool):=
.br (decide (frame<0)) (.lf ([],false)) (.lv (wH m) λ(x0:Int)=>.br (decide (frame>=x0)) (.lf ([],false)) (.lp inferInstance (Xn m frame (0,[])+1) ((((ai.Nil (ai.ints u32 m)\/rE (1:Nat))/\rE (m:List Int))/\rE (frame:Int)/\True/\rE (0:Int)/\True)/\rE ([]:List Int)/\True) (0,[]) λ(v0:Int×List Int)=>.br (decide (v0.1<32)) (.cn (bX 1 1&&bN 0 1&&decide (0<=wrap i64 (wrap i64 (frame*32)+v0.1)/\wrap i64 (wrap i64 (frame*32)+v0.1)<(m.length:Int))) (let E1:=m.getD (dA (wrap i64 (wrap i64 (frame*32)+v0.1))) 0;.an (V2 E1 4) (.lv (Xm E1 4) λ(x1:List UInt8)=>.cn (decide (1*(v0.2.length+dF (pf x1))<=140737488355328)) (.nx ((((ai.Nil (ai.ints u32 m)\/rE (1:Nat))/\rE (m:List Int))/\rE (frame:Int)/\True/\rE ((wrap i64 (v0.1+1)):Int)/\True)/\rE ((v0.2++pf x1):List Int)/\True) (Sum.inl (wrap i64 (v0.1+1),v0.2++pf x1)))))) (.lf (Sum.inr (bytesOf v0.2,true)))))
def Lm m frame:=(G4 m frame).m
abbrev Qii m frame:=(G4 m frame).p
def Zjk:cg:={
 α:=(Int)×(List Int)
 F:=λst a=>([(0,(lk st 0)),(1,(lk st 1)),(6,.all 0),(7,.int i64 a.1)],[⟨false,5,1,.ints u8 a.2⟩])
 a0:=λst=>((lk st 7).toInt,(oq st.rows (rN st 6)))
 jl:=λst=>[]++[(rX st 6 0)]}
def Zai:List (Nat×cg):=[(5,Zjk)]
def Zmn:ba:=mT 149 [] true [.one (.ints .u32),.one (.int .i64)] [] (λa r=>G4 (dh .u32 a 0) (au a 1)) (λX=>.dw [.str (X.1),.bool (X.2)]) (λX=>[])
theorem Z1r:bm pG Zmn:=oT (.cons Sn (.cons Zo0 (.nil))) Tryz.func149 Tryz.call149 [] Zai 3
def Qul(d0:fx)(gg:Int):Tree (il×Bool):=
.br (d0.C7 !=1) (.lf ({C2:=0,At:=0,C8:=0,F1:=[]},false)) (.br (d0.F7==1) (.lf ({C2:=3,At:=gg,C8:=d0.C5,F1:=[]},true)) (.br (d0.F7==2) (.lf ({C2:=4,At:=gg,C8:=d0.C5,F1:=d0.C9},true)) (.lf ({C2:=0,At:=0,C8:=0,F1:=[]},false))))
def XK d0 gg:=(Qul d0 gg).m
def Zas:ba:=mS 227 [] true [.agg fx.sig,.one (.int .u64)] [] (λa r=>Qul (fx.of (aC a 0)) (au a 1)) (λX=>.dw [.agg (il.cells (X.1)),.bool (X.2)]) (λX=>[])
theorem Z4j:bm pG Zas:=oS (.nil) Tryz.func227 Tryz.call227 [] [] 2
def LG(d0:fx)(m:List Int)(port v gg:Int):Tree (fx×(List il)):=
.br (port==4) (.lf ({ae:=d0.ae,C8:=v,Frame:=d0.Frame,C7:=d0.C7,F7:=d0.F7,C5:=d0.C5,C6:=d0.C6,C9:=d0.C9},[])) (.br (port==5) (.lf ({ae:=d0.ae,C8:=d0.C8,Frame:=v,C7:=d0.C7,F7:=d0.F7,C5:=d0.C5,C6:=d0.C6,C9:=d0.C9},[])) (.br (port !=6) (.lf (d0,[])) (let T1:Tree ((fx×(List il))):=.br (d0.C7==0) (let T2:Tree ((fx×(List il))):=.lf ({ae:=d0.ae,C8:=d0.C8,Frame:=d0.Frame,C7:=3,F7:=d0.F7,C5:=d0.C5,C6:=d0.C6,C9:=d0.C9},[]);.br (decide (d0.C8>=d0.ae)) T2 (.lv (tI m d0.Frame) λ(x0:Bool)=>.br (!x0) T2 (.br (v==2) (.an (Qii m (wrap i64 d0.Frame)) (.lv (Lm m (wrap i64 d0.Frame)) λ(x1:List UInt8×Bool)=>.lv (XK {ae:=d0.ae,C8:=d0.C8,Frame:=d0.Frame,C7:=1,F7:=wrap i64 v,C5:=d0.C8,C6:=d0.Frame,C9:=x1.1} gg) λ(x2:il×Bool)=>.lf ({ae:=d0.ae,C8:=d0.C8,Frame:=d0.Frame,C7:=1,F7:=wrap i64 v,C5:=d0.C8,C6:=d0.Frame,C9:=x1.1},[x2.1]))) (.lv (XK {ae:=d0.ae,C8:=d0.C8,Frame:=d0.Frame,C7:=1,F7:=wrap i64 v,C5:=d0.C8,C6:=d0.Frame,C9:=[]} gg) λ(x3:il×Bool)=>.lf ({ae:=d0.ae,C8:=d0.C8,Frame:=d0.Frame,C7:=1,F7:=wrap i64 v,C5:=d0.C8,C6:=d0.Frame,C9:=[]},[x3.1]))))) (.lf (d0,[]));.br (v==0) (let T3:Tree ((fx×(List il))):=.lf ({ae:=d0.ae,C8:=d0.C8,Frame:=d0.Frame,C7:=0,F7:=d0.F7,C5:=d0.C5,C6:=d0.C6,C9:=d0.C9},[]);.br (d0.C7==2) T3 (.br (d0.C7==3) T3 (.br (v==1) T1 (.br (v==2) T1 (.lf (d0,[])))))) (.br (v==1) T1 (.br (v==2) T1 (.lf (d0,[])))))))
def XI d0 m port v gg:=(LG d0 m port v gg).m
abbrev Qpj d0 m port v gg:=(LG d0 m port v gg).p
def Za5:ba:=mT 172 [] true [.agg fx.sig,.one (.ints .u32),.one (.int .i64),.one (.int .u32),.one (.int .u64)] [] (λa r=>LG (fx.of (aC a 0)) (dh .u32 a 1) (au a 2) (au a 3) (au a 4)) (λX=>.dw [.agg (fx.cells (X.1)),.sl 4 (.ah .bz (X.2)) true]) (λX=>[])
theorem Z5l:bm pG Za5:=oT (.cons Se (.cons Z1r (.cons Z4j (.nil)))) Tryz.func172 Tryz.call172 [.sl (.ah .bz) true] [] 2
def LH(n:gx)(m:List Int)(port v gg:Int):Tree (gx×(List il)):=
.br (port==7) (.lf ({Frame:=v,F8:=n.F8,D1:=n.D1,D3:=n.D3,C4:=n.C4,G0:=n.G0},[])) (.br (port==8) (.lf ({Frame:=n.Frame,F8:=v,D1:=n.D1,D3:=n.D3,C4:=n.C4,G0:=n.G0},[])) (.br (port !=9) (.lf (n,[])) (.br (v==0) (.lf ({Frame:=n.Frame,F8:=n.F8,D1:=n.D1,D3:=n.D3,C4:=false,G0:=0},[])) (let T1:Tree ((gx×(List il))):=.br (v==2) (.lv (tI m n.Frame) λ(x2:Bool)=>.br x2 (.br (!n.D1) (.br (!n.C4) (.lf ({Frame:=n.Frame,F8:=n.F8,D1:=true,D3:=n.Frame,C4:=n.C4,G0:=n.G0},[])) (.lf (n,[]))) (.lf (n,[]))) (.lf (n,[]))) (.lf (n,[]));.br (v==1) (.br (decide (n.F8>=1)) (.br (decide (n.F8<=128)) (.lv (tI m n.Frame) λ(x0:Bool)=>.br x0 (.an (Qii m (wrap i64 n.Frame)) (.lv (Lm m (wrap i64 n.Frame)) λ(x1:List UInt8×Bool)=>.cn (decide ((0:Int)<=(0:Int)/\0<=n.F8/\n.F8<=(x1.1.length:Int))) (.lf (n,[{C2:=2,At:=gg,C8:=0,F1:=cU (dA n.F8-dA 0) (cV (dA 0) x1.1)}])))) T1) T1) T1) T1))))
def Qp n m port v gg:=(LH n m port v gg).m
abbrev Qsn n m port v gg:=(LH n m port v gg).p
def Ze8:ba:=mT 173 [] true [.agg gx.sig,.one (.ints .u32),.one (.int .i64),.one (.int .u32),.one (.int .u64)] [] (λa r=>LH (gx.of (aC a 0)) (dh .u32 a 1) (au a 2) (au a 3) (au a 4)) (λX=>.dw [.agg (gx.cells (X.1)),.sl 4 (.ah .bz (X.2)) true]) (λX=>[])
theorem Za:bm pG Ze8:=oT (.cons Se (.cons Z1r (.nil))) Tryz.func173 Tryz.call173 [.sl (.ah .bz) true] [] 2
def XP(b:gm)(m:List Int)(port v:Int)(z:(Int)×(List Int)):Nat:=(32-z.1).toNat
def Bg(b:gm)(m:List Int)(port v:Int):Tree (gm×(List Int)):=
let T1:Tree ((gm×(List Int))):=.br (port==11) (.br (decide (v<32)) (.cn (decide (0<=v)) (.lf ({A2:=b.A2,D0:=oR u32 b.D0 (ei u32 1 v)},m))) (.lf (b,m))) (.lf (b,m));.br (port==10) (.lv (tI m v) λ(x0:Bool)=>.br x0 (.cn (decide (0<=v)) (.br (bb u32 (bj u32 b.D0 v) (1:Int)==(0:Int)) (.cn (decide (0<=v)) (.lp inferInstance (XP b m port v (0,m)+1) ((True/\rE (v:Int)/\rZ/\rZ/\rE (0:Int)/\True)/\rE (m:List Int)/\(rE b.A2/\rE ((iJ u32 b.D0 (ei u32 1 v)):Int)/\True)/\(rE (0:Int)/\rE (0:Int)/\True)/\True) (0,m) λ(v0:Int×List Int)=>.br (decide (v0.1<32)) (let E2:=wrap i64 (wrap i64 v*32)+v0.1;.cn (bX 1 1&&bN 0 1&&decide (0<=wrap i64 E2/\wrap i64 E2<(v0.2.length:Int))) (.nx ((True/\rE (v:Int)/\rZ/\rZ/\rE ((wrap i64 (v0.1+1)):Int)/\True)/\rE ((dB v0.2 (dA (wrap i64 (wrap i64 (wrap i64 v*32)+v0.1))) 0):List Int)/\(rE b.A2/\rE ((iJ u32 b.D0 (ei u32 1 v)):Int)/\True)/\(rE (0:Int)/\rE (0:Int)/\True)/\True) (Sum.inl (wrap i64 (v0.1+1),dB v0.2 (dA (wrap i64 E2)) 0)))) (.lf (Sum.inr ({A2:=b.A2,D0:=iJ u32 b.D0 (ei u32 1 v)},v0.2))))) T1)) T1) T1
def Bh b m port v:=(Bg b m port v).m
abbrev Qwo b m port v:=(Bg b m port v).p
def Zh6:cg:={
 α:=(Int)×(List Int)
 F:=λst a=>([(1,.all 0),(3,(lk st 3)),(4,.ptr 1 0 0),(8,.ptr 2 0 0),(9,.int i64 a.1)],[⟨false,25,1,.ints u32 a.2⟩,⟨true,40,2,.gen [[(cT st 4 0),(cT st 4 1)]]⟩,⟨true,40,2,.gen [[(cT st 8 0),(cT st 8 1)]]⟩])
 a0:=λst=>((lk st 9).toInt,(oq st.rows 0))
 jl:=λst=>[0]++[(rX st 4 1),(rX st 8 2)]}
def Z9q:List (Nat×cg):=[(4,Zh6)]
def Zmf:ba:=mT 174 [false,true,false,false] true [.agg gm.sig,.one (.row 0),.one (.int .i64),.one (.int .u32)] [.arr 25 1 (.ints .u32)] (λa r=>Bg (gm.of (aC a 0)) (cw .u32 r 0) (au a 2) (au a 3)) (λX=>.agg (gm.cells (X.1))) (λX=>[⟨false,25,1,.ints .u32 (X.2)⟩])
theorem Zh2:bm pG Zmf:=oT (.cons Se (.nil)) Tryz.func174 Tryz.call174 [] Z9q 3
def KF(m:bc)(port v:Int):Tree ((List il)×bc):=
.br (port==0) (.lf ([{C2:=1,At:=m.B6,C8:=0,F1:=[(λ(n:Int)=>UInt8.ofNat n.toNat) (wrap u8 v)]}],m)) (.br (decide (port<=2)) (.lf ([],m)) (.br (port==3) (.lv (XF v) λ(x0:iV)=>.lf ([],{B4:=m.B4,Mem:=m.Mem,B2:=m.B2,B9:=x0,B7:=m.B7,D2:=m.D2,A7:=m.A7,B6:=m.B6,B3:=m.B3,B5:=m.B5})) (.br (decide (port<=6)) (.an (Qpj m.B7 m.Mem port v m.B6) (.lv (XI m.B7 m.Mem port v m.B6) λ(x1:fx×List il)=>.lf (x1.2,{B4:=m.B4,Mem:=m.Mem,B2:=m.B2,B9:=m.B9,B7:=x1.1,D2:=m.D2,A7:=m.A7,B6:=m.B6,B3:=m.B3,B5:=m.B5}))) (.br (decide (port<=9)) (.an (Qsn m.D2 m.Mem port v m.B6) (.lv (Qp m.D2 m.Mem port v m.B6) λ(x2:gx×List il)=>.lf (x2.2,{B4:=m.B4,Mem:=m.Mem,B2:=m.B2,B9:=m.B9,B7:=m.B7,D2:=x2.1,A7:=m.A7,B6:=m.B6,B3:=m.B3,B5:=m.B5}))) (.an (Qwo m.A7 m.Mem port v) (.lv (Bh m.A7 m.Mem port v) λ(x3:gm×List Int)=>.lf ([],{B4:=m.B4,Mem:=x3.2,B2:=m.B2,B9:=m.B9,B7:=m.B7,D2:=m.D2,A7:=x3.1,B6:=m.B6,B3:=m.B3,B5:=m.B5})))))))
def Fe m port v:=(KF m port v).m
abbrev Z1v m port v:=(KF m port v).p
def Zrw:ba:=mT 122 [true,false,false] true [.ptr 0,.one (.int .i64),.one (.int .u32)] [.box 43 49 (bc.ig (.row 1)),.arr 25 1 (.ints .u32)] (λa r=>KF (bc.iC (r.getD 0 default).cs (cw .u32 r 1)) (au a 1) (au a 2)) (λX=>.sl 4 (.ah .bz (X.1)) true) (λX=>[⟨true,43,49,.gen [(bc.cq (X.2) (.all 1))]⟩,⟨false,25,1,.ints .u32 (X.2).Mem⟩])
theorem Zn4:bm pG Zrw:=oT (.cons Zn6 (.cons Z5l (.cons Za (.cons Zh2 (.nil))))) Tryz.func122 Tryz.call122 [.sl (.ah .bz) true,.row 25 1 (.ints .u32)] [] 2
def NB(m:bc)(clock:Int):Tree ((List il)×bc):=
.an (Qb6 m) (.lv (rj m) λ(x0:bq)=>.an (Z7x x0 m.Mem) (.lv (Bf x0 m.Mem) λ(x1:bq×lK×List Int)=>let E1:=({B4:=x1.1,Mem:=x1.2.2,B2:=m.B2,B9:=m.B9,B7:=m.B7,D2:=m.D2,A7:=m.A7,B6:=m.B6,B3:=false,B5:=m.B5}:bc);.br (x1.2.1.C2==1) (.lv (Ql E1 x1.2.1.D8 clock) λ(x2:Int×bc)=>.an (DG x2.2.B4 x1.2.1.F9 x2.1) (.lv (lO x2.2.B4 x1.2.1.F9 x2.1) λ(x3:bq)=>.lf ([],{B4:=x3,Mem:=x2.2.Mem,B2:=x2.2.B2,B9:=x2.2.B9,B7:=x2.2.B7,D2:=x2.2.D2,A7:=x2.2.A7,B6:=wrap u64 (x2.2.B6+1),B3:=x2.2.B3,B5:=x2.2.B5}))) (.br (x1.2.1.C2==2) (.an (Z1v E1 x1.2.1.D8 x1.2.1.Value) (.lv (Fe E1 x1.2.1.D8 x1.2.1.Value) λ(x4:List il×bc)=>.lf (x4.1,{B4:=x4.2.B4,Mem:=x4.2.Mem,B2:=x4.2.B2,B9:=x4.2.B9,B7:=x4.2.B7,D2:=x4.2.D2,A7:=x4.2.A7,B6:=wrap u64 (x4.2.B6+1),B3:=x4.2.B3,B5:=x4.2.B5}))) (.br (x1.2.1.C2==3) (.lf ([],{B4:=x1.1,Mem:=x1.2.2,B2:=m.B2,B9:=m.B9,B7:=m.B7,D2:=m.D2,A7:=m.A7,B6:=wrap u64 (m.B6+1),B3:=true,B5:=m.B5})) (.br (x1.2.1.C2==4) (.lf ([],{B4:=x1.1,Mem:=x1.2.2,B2:=m.B2,B9:=m.B9,B7:=m.B7,D2:=m.D2,A7:=m.A7,B6:=wrap u64 (m.B6+1),B3:=false,B5:=true})) (.lf ([],{B4:=x1.1,Mem:=x1.2.2,B2:=m.B2,B9:=m.B9,B7:=m.B7,D2:=m.D2,A7:=m.A7,B6:=wrap u64 (m.B6+1),B3:=false,B5:=m.B5})))))))
def Ax m clock:=(NB m clock).m
abbrev Qhf m clock:=(NB m clock).p
def Z96:ba:=mT 76 [true,false] true [.ptr 0,.one (.int .u32)] [.box 43 49 (bc.ig (.row 1)),.arr 25 1 (.ints .u32)] (λa r=>NB (bc.iC (r.getD 0 default).cs (cw .u32 r 1)) (au a 1)) (λX=>.sl 4 (.ah .bz (X.1)) true) (λX=>[⟨true,43,49,.gen [(bc.cq (X.2) (.all 1))]⟩,⟨false,25,1,.ints .u32 (X.2).Mem⟩])
theorem Z8j:bm pG Z96:=oT (.cons Qjj (.cons Zta (.cons Zsi (.cons Sq (.cons Zn4 (.nil)))))) Tryz.func76 Tryz.call76 [.sl (.ah .bz) true,.row 25 1 (.ints .u32)] [] 2

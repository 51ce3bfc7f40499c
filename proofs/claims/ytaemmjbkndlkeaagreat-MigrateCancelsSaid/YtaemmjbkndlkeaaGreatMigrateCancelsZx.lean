import Derived.Test.YtaemmjbkndlkeaaGreatMigrateCancelsYz
open Nat renaming blt->bN,beq->bX,lt_succ_self->cN
open List renaming length->dF,replicate->cO,take->cU,drop->cV,set->dB,getD->aV
open Int renaming toNat->dA,tdiv->eF,tmod->cZ
set_option maxRecDepth 100000
set_option linter.all false
namespace Go.Proofs.YtaemmjbkndlkeaaGreat
open Go Go.GD Go.IntKind
noncomputable section
def L3(m:List Int):Tree (List Int):=
.cn (bN (0:Nat) (1:Nat)&&bX (1:Nat) (1:Nat)&&List.all [D.int u32 (0:Int)] D.plain&&decide ((0:Int)<=(m.length:Int)/\(m.length:Int)<=(m.length:Int)/\(m.length:Int)<=(9223372036854775807:Int)/\(↑(4:Nat):Int)*(m.length:Int)<=(140737488355328:Int))) (let E1:=dF (cO (dA (m.length:Int)) (0:Int));.lf (cU (Min.min (m.length) E1) m++cV (Min.min (m.length) E1) (cO (dA (m.length:Int)) (0:Int))))
def Ya m:=(L3 m).m
abbrev Qxm m:=(L3 m).p
def Zmy:bc:=mT 116 [] true [.one (.ints .u32)] [] (λa r=>L3 (dq .u32 a 0)) (λX=>.all 0) (λX=>[⟨false,25,1,.ints .u32 X⟩])
theorem Zlo:bm pG Zmy:=oT (.nil) Tryz.func116 Tryz.call116 [.row 25 1 (.ints .u32)] [] 2
def KJ(m:bd):Tree bd:=
.an (Qxm m.Mem) (.lv (Ya m.Mem) λ(x0:List Int)=>.lf ({B2:=m.B2,Mem:=x0,B3:=m.B3,B8:=m.B8,B5:=m.B5,D1:=m.D1,A7:=m.A7,B7:=m.B7,B4:=m.B4,B6:=m.B6}))
def TS m:=(KJ m).m
abbrev Qsi m:=(KJ m).p
def Zt6:bc:=mT 74 [] true [.agg bd.sig] [] (λa r=>KJ (bd.of (aC a 0))) (λX=>.agg (bd.cu X (.all 0))) (λX=>[⟨false,25,1,.ints .u32 X.Mem⟩])
theorem Zlt:bm pG Zt6:=oT (.cons Zlo (.nil)) Tryz.func74 Tryz.call74 [.row 25 1 (.ints .u32)] [] 2
def Qut(n k:Int)(z:(Int)×(List Int)):Prop:=0<=z.1/\(z.2.length:Int)=z.1/\(z.1<=k\/z.1=0)
def Uv(n k:Int)(z:(Int)×(List Int)):Nat:=(k-z.1).toNat
def Mg(n k:Int):Tree (List UInt8):=
.lp inferInstance (Uv n k (0,[])+1) ((rE (n:Int)/\rE (k:Int)/\True/\rE (0:Int)/\True)/\rE ([]:List Int)/\True) (0,[]) λ(v0:Int×List Int)=>.br (decide (v0.1<k)) (.lv (Uw n (wrap i64 (eF v0.1 9))) λ(x0:Int)=>.cn (decide (1*(v0.2.length+1)<=140737488355328)) (.nx ((rE (n:Int)/\rE (k:Int)/\True/\rE ((wrap i64 (v0.1+1)):Int)/\True)/\rE ((v0.2++[wrap u8 x0]):List Int)/\True) (Sum.inl (wrap i64 (v0.1+1),v0.2++[wrap u8 x0])))) (.lf (Sum.inr (bytesOf v0.2)))
def YC n k:=(Mg n k).m
def Pu(n k:Int):Prop:=
k<=1000000000000
theorem Zf8(n k:Int)(hw:Pu n k):(Mg n k).p:=by
 simp only[Pu]at hw
 unfold Tree.p Mg
 repeat'(first|refine fv (inv:=Qut n k) (μ:=Uv n k) ?_ (cN _) (λ_ _=>?_)|exact trivial|refine ae (λ_=>?_) (λ_=>?_)|refine aw ?_ ?_|refine df ?_ ?_|refine aq (λ_ _=>?_)|refine ff ?_|refine bh ?_|refine And.intro ?_ ?_)
 all_goals((try simp only[Qut,Uv]at*);exact nY)
def Zk4:cg:={
 α:=(Int)×(List Int)
 F:=λst a=>([(0,(lk st 0)),(1,(lk st 1)),(5,.all 0),(6,.int i64 a.1)],[⟨false,5,1,.ints u8 a.2⟩])
 a0:=λst=>((lk st 6).toInt,(nP st.rows (rN st 5)))
 jo:=λst=>[]++[(rX st 5 0)]}
def Z9t:List (Nat×cg):=[(3,Zk4)]
def Zmk:bc:=lF 81 [] true [.one (.int .i64),.one (.int .i64)] [] (λa r=>Pu (au a 0) (au a 1)) (λa r=>YC (au a 0) (au a 1)) (λX=>.str X) (λX=>[])
theorem Zj5:bm pG Zmk:=wa drawn jG (.cons Qv7 (.nil)) Tryz.func81 Tryz.call81 (λa r=>Mg (au a 0) (au a 1)) [] Z9t 3 (hp:=λa r h=>Zf8 (au a 0) (au a 1) h)
def Qs(m:List Int):Tree Int:=
.br (cZ (m.length:Int) (32:Int) !=(0:Int)) (.lf 0) (.br (decide ((m.length:Int)>(1024:Int))) (.lf 0) (.lf (wrap i64 (eF (m.length:Int) 32))))
def wG m:=(Qs m).m
def Zlr:bc:=mS 36 [] true [.one (.ints .u32)] [] (λa r=>Qs (dq .u32 a 0)) (λX=>.int .i64 X) (λX=>[])
theorem Sq:bm pG Zlr:=oS (.nil) Tryz.func36 Tryz.call36 [] [] 2
def Qns(c:iH):Tree Bool:=
.lf (decide ((c.D9.length:Int)<=(16:Int)))
def Qjy c:=(Qns c).m
def Z1:bc:=mS 82 [] true [.agg iH.sig] [] (λa r=>Qns (iH.of (aC a 0))) (λX=>.bool X) (λX=>[])
theorem Qyl:bm pG Z1:=oS (.nil) Tryz.func82 Tryz.call82 [] [] 2
def XJ(t:iW):Tree Bool:=
.br t.F0 (.br t.D8 (.lf false) (.br t.F0 (.lf (t.D3 !=0)) (.br t.D8 (.lf true) (.lf (t.D3==0))))) (.br t.F0 (.lf (t.D3 !=0)) (.br t.D8 (.lf true) (.lf (t.D3==0))))
def TF t:=(XJ t).m
def Z5d:bc:=mS 83 [] true [.agg iW.sig] [] (λa r=>XJ (iW.of (aC a 0))) (λX=>.bool X) (λX=>[])
theorem Z3l:bm pG Z5d:=oS (.nil) Tryz.func83 Tryz.call83 [] [] 2
def XL(d0:gg)(bj:Int):Tree Bool:=
.br (decide (d0.ab>64)) (.lf false) (.br (decide (d0.C8<0)) (.lf false) (.br (decide (d0.C8>3)) (.lf false) (.br (d0.C8 !=1) (.br (d0.F6==0) (.br (d0.C5==0) (.br (d0.C6==0) (.lf (decide (d0.C7=[]))) (.lf false)) (.lf false)) (.lf false)) (.br (decide (d0.C5>=d0.ab)) (.lf false) (.br (decide (wrap i64 d0.C6>=bj)) (.lf false) (.br (d0.F6==1) (.br (decide (d0.C7=[])) (.lf true) (.br (d0.F6==2) (.lf ((d0.C7.length:Int)==(128:Int))) (.lf false))) (.br (d0.F6==2) (.lf ((d0.C7.length:Int)==(128:Int))) (.lf false))))))))
def TH d0 bj:=(XL d0 bj).m
def Zai:bc:=mS 84 [] true [.agg gg.sig,.one (.int .i64)] [] (λa r=>XL (gg.of (aC a 0)) (au a 1)) (λX=>.bool X) (λX=>[])
theorem Z84:bm pG Zai:=oS (.nil) Tryz.func84 Tryz.call84 [] [] 2
def XK(n:ic)(bj:Int):Tree Bool:=
let T1:Tree (Bool):=.br n.C4 (.br (decide (n.F8>=1)) (.lf (decide (n.F8<=128))) (.lf false)) (.lf (n.F8==0));.br n.D2 (.br n.C4 (.lf false) (.br (decide (wrap i64 n.D4>=bj)) (.lf false) (.br (!n.D2) (.br (n.D4 !=0) (.lf false) T1) T1))) (.br (!n.D2) (.br (n.D4 !=0) (.lf false) T1) T1)
def TG n bj:=(XK n bj).m
def Zfv:bc:=mS 85 [] true [.agg ic.sig,.one (.int .i64)] [] (λa r=>XK (ic.of (aC a 0)) (au a 1)) (λX=>.bool X) (λX=>[])
theorem Z90:bm pG Zfv:=oS (.nil) Tryz.func85 Tryz.call85 [] [] 2
def Qhu(b:gw)(bj:Int)(z:(Int)):Prop:=0<=z/\z<=32
def TM(b:gw)(bj:Int)(z:(Int)):Nat:=(32-z).toNat
def LS(b:gw)(bj:Int):Tree Bool:=
.lp inferInstance (TM b bj 0+1) ((rE (bj:Int)/\rZ/\rE (0:Int)/\True)/\(rE b.A2/\rE b.D0/\True)/\True) 0 λ(v0:Int)=>.br (decide (v0<32)) (.cn (decide (0<=wrap u64 v0)) (let T1:Tree ((Int)⊕(Bool)):=.nx ((rE (bj:Int)/\rZ/\rE ((wrap i64 (v0+1)):Int)/\True)/\(rE b.A2/\rE b.D0/\True)/\True) (Sum.inl (wrap i64 (v0+1)));.br (ba u32 (bb u32 b.D0 (wrap u64 v0)) (1:Int)==(1:Int)) (.br (decide (v0>=bj)) (.lf (Sum.inr false)) T1) T1)) (.lf (Sum.inr true))
def TN b bj:=(LS b bj).m
theorem Qvg(b:gw)(bj:Int):(LS b bj).p:=by
 unfold Tree.p LS
 repeat'(first|refine fv (inv:=Qhu b bj) (μ:=TM b bj) ?_ (cN _) (λ_ _=>?_)|exact trivial|refine ae (λ_=>?_) (λ_=>?_)|refine aw ?_ ?_|refine df ?_ ?_|refine aq (λ_ _=>?_)|refine ff ?_|refine bh ?_|refine And.intro ?_ ?_)
 all_goals((try simp only[Qhu,TM]at*);exact nY)
def Qy3:cg:={
 α:=(Int)
 F:=λst a=>([(1,(lk st 1)),(2,.ptr 0 0 0),(5,.int i64 a)],[⟨true,40,2,.gen [[(cT st 2 0),(cT st 2 1)]]⟩])
 a0:=λst=>(lk st 5).toInt
 jo:=λst=>[]++[(rX st 2 0)]}
def Qtx:List (Nat×cg):=[(2,Qy3)]
def Z17:bc:=mS 86 [] true [.agg gw.sig,.one (.int .i64)] [] (λa r=>LS (gw.of (aC a 0)) (au a 1)) (λX=>.bool X) (λX=>[])
theorem Qx0:bm pG Z17:=oS (.nil) Tryz.func86 Tryz.call86 [] Qtx 3 (λ_ _ _=>by kernel_rfl) (λa r=>Qvg (gw.of (aC a 0)) (au a 1)) (λ_ X=>by kernel_rfl)
def X2(m:bd):Tree Bool:=
.lv (wG m.Mem) λ(x0:Int)=>.br (decide (x0<1)) (.lf false) (.br (m.B2.X.a0 !=0) (.lf false) (.br (decide (m.B2.C3.a0>31)) (.lf false) (.br (decide (m.B2.C3.a7>31)) (.lf false) (.br (decide (m.B2.C3.a6>255)) (.lf false) (.br (cZ m.B2.C3.a1 (4:Int) !=(0:Int)) (.lf false) (.lv (Qjy m.B3) λ(x1:Bool)=>.br (!x1) (.lf false) (.lv (TF m.B8) λ(x2:Bool)=>.br (!x2) (.lf false) (.lv (TH m.B5 x0) λ(x3:Bool)=>.br (!x3) (.lf false) (.lv (TG m.D1 x0) λ(x4:Bool)=>.br (!x4) (.lf false) (.lv (TN m.A7 x0) λ(x5:Bool)=>.br (!x5) (.lf false) (.br (decide (m.B7<=1152921504606846976)) (.br m.B4 (.lf (!m.B6)) (.lf true)) (.lf false))))))))))))
def I0 m:=(X2 m).m
def Zti:bc:=mS 34 [] true [.agg bd.sig] [] (λa r=>X2 (bd.of (aC a 0))) (λX=>.bool X) (λX=>[])
theorem Zon:bm pG Zti:=oS (.cons Sq (.cons Qyl (.cons Z3l (.cons Z84 (.cons Z90 (.cons Qx0 (.nil))))))) Tryz.func34 Tryz.call34 [] [] 2
def RH(is:Bool)(n:Int):Tree Int:=
.br is (.cn (decide (0<=wrap u64 n)) (.lf (fh u32 1 (wrap u64 n)))) (.lf 0)
def DY is n:=(RH is n).m
abbrev Sr is n:=(RH is n).p
def Zlx:bc:=mT 255 [] true [.one (.bool),.one (.int .i64)] [] (λa r=>RH (kD a 0) (au a 1)) (λX=>.int .u32 X) (λX=>[])
theorem Zl2:bm pG Zlx:=oT (.nil) Tryz.func255 Tryz.call255 [] [] 2
def Ql2(t:iW):Tree Bool:=
.lf t.D8
def X4 t:=(Ql2 t).m
def Qvy:bc:=mS 256 [] true [.agg iW.sig] [] (λa r=>Ql2 (iW.of (aC a 0))) (λX=>.bool X) (λX=>[])
theorem Qtv:bm pG Qvy:=oS (.nil) Tryz.func256 Tryz.call256 [] [] 2
def Qgb(c:iH):Tree Bool:=
.lf (decide ((c.D9.length:Int)>(0:Int)))
def TL c:=(Qgb c).m
def Qsr:bc:=mS 257 [] true [.agg iH.sig] [] (λa r=>Qgb (iH.of (aC a 0))) (λX=>.bool X) (λX=>[])
theorem Qqt:bm pG Qsr:=oS (.nil) Tryz.func257 Tryz.call257 [] [] 2
def Qlr(d0:gg):Tree Bool:=
.br (d0.C8==2) (.lf true) (.lf (d0.C8==3))
def X5 d0:=(Qlr d0).m
def Qx:bc:=mS 258 [] true [.agg gg.sig] [] (λa r=>Qlr (gg.of (aC a 0))) (λX=>.bool X) (λX=>[])
theorem Qvt:bm pG Qx:=oS (.nil) Tryz.func258 Tryz.call258 [] [] 2
def Qn0(n:ic):Tree Bool:=
.lf n.C4
def X6 n:=(Qn0 n).m
def Z11:bc:=mS 259 [] true [.agg ic.sig] [] (λa r=>Qn0 (ic.of (aC a 0))) (λX=>.bool X) (λX=>[])
theorem Qxc:bm pG Z11:=oS (.nil) Tryz.func259 Tryz.call259 [] [] 2
def Qsv(b:gw)(z:(Int)×(Int)):Prop:=0<=z.2/\z.2<=32
def Qhe(b:gw)(z:(Int)×(Int)):Nat:=(32-z.2).toNat
def V6(b:gw):Tree Int:=
.lp inferInstance (Qhe b (0,0)+1) ((rZ/\rE (0:Int)/\rE (0:Int)/\True)/\(rE b.A2/\rE b.D0/\True)/\True) (0,0) λ(v0:Int×Int)=>.br (decide (v0.2<32)) (.cn (decide (0<=wrap u64 v0.2)) (.nx ((rZ/\rE ((wrap i64 (v0.1+wrap i64 (ba u32 (bb u32 b.D0 (wrap u64 v0.2)) 1))):Int)/\rE ((wrap i64 (v0.2+1)):Int)/\True)/\(rE b.A2/\rE b.D0/\True)/\True) (Sum.inl (wrap i64 (v0.1+wrap i64 (ba u32 (bb u32 b.D0 (wrap u64 v0.2)) 1)),wrap i64 (v0.2+1))))) (.lf (Sum.inr v0.1))
def LK b:=(V6 b).m
theorem Z9q(b:gw):(V6 b).p:=by
 unfold Tree.p V6
 repeat'(first|refine fv (inv:=Qsv b) (μ:=Qhe b) ?_ (cN _) (λ_ _=>?_)|exact trivial|refine ae (λ_=>?_) (λ_=>?_)|refine aw ?_ ?_|refine df ?_ ?_|refine aq (λ_ _=>?_)|refine ff ?_|refine bh ?_|refine And.intro ?_ ?_)
 all_goals((try simp only[Qsv,Qhe]at*);exact nY)
def Zdj:cg:={
 α:=(Int)×(Int)
 F:=λst a=>([(1,.ptr 0 0 0),(3,.int i64 a.1),(4,.int i64 a.2)],[⟨true,40,2,.gen [[(cT st 1 0),(cT st 1 1)]]⟩])
 a0:=λst=>((lk st 3).toInt,(lk st 4).toInt)
 jo:=λst=>[]++[(rX st 1 0)]}
def Z5t:List (Nat×cg):=[(3,Zdj)]
def Zi5:bc:=mS 225 [] true [.agg gw.sig] [] (λa r=>V6 (gw.of (aC a 0))) (λX=>.int .i64 X) (λX=>[])
theorem Qxo:bm pG Zi5:=oS (.nil) Tryz.func225 Tryz.call225 [] Z5t 3 (λ_ _ _=>by kernel_rfl) (λa r=>Z9q (gw.of (aC a 0))) (λ_ X=>by kernel_rfl)
def XX(b:gw):Tree Bool:=
.lv (LK b) λ(x0:Int)=>.lf (wrap u64 x0 !=wrap u64 b.A2)
def OI b:=(XX b).m
def Qs4:bc:=mS 260 [] true [.agg gw.sig] [] (λa r=>XX (gw.of (aC a 0))) (λX=>.bool X) (λX=>[])
theorem Qqj:bm pG Qs4:=oS (.cons Qxo (.nil)) Tryz.func260 Tryz.call260 [] [] 2
def RI(m:bd):Tree Int:=
.lv (X4 m.B8) λ(x0:Bool)=>.an (Sr x0 0) (.lv (DY x0 0) λ(x1:Int)=>.lv (TL m.B3) λ(x2:Bool)=>.an (Sr x2 1) (.lv (DY x2 1) λ(x3:Int)=>.lv (X5 m.B5) λ(x4:Bool)=>.an (Sr x4 2) (.lv (DY x4 2) λ(x5:Int)=>.lv (X6 m.D1) λ(x6:Bool)=>.an (Sr x6 3) (.lv (DY x6 3) λ(x7:Int)=>.lv (OI m.A7) λ(x8:Bool)=>.an (Sr x8 4) (.lv (DY x8 4) λ(x9:Int)=>.lf (iU u32 (iU u32 (iU u32 (iU u32 x1 x3) x5) x7) x9))))))
def OK m:=(RI m).m
abbrev Qul m:=(RI m).p
def Zlq:bc:=mT 210 [] true [.agg bd.sig] [] (λa r=>RI (bd.of (aC a 0))) (λX=>.int .u32 X) (λX=>[])
theorem Zgx:bm pG Zlq:=oT (.cons Zl2 (.cons Qtv (.cons Qqt (.cons Qvt (.cons Qxc (.cons Qqj (.nil))))))) Tryz.func210 Tryz.call210 [] [] 2
def LZ(m:bd):Tree Int:=
.an (Qul m) (.lv (OK m) λ(x0:Int)=>.lf (ba u32 x0 m.B2.C3.a7))
def Bj m:=(LZ m).m
abbrev Qhm m:=(LZ m).p
def Z9n:bc:=mT 156 [] true [.agg bd.sig] [] (λa r=>LZ (bd.of (aC a 0))) (λX=>.int .u32 X) (λX=>[])
theorem Qqx:bm pG Z9n:=oT (.cons Zgx (.nil)) Tryz.func156 Tryz.call156 [] [] 2
def L1(m:bd):Tree Bool:=
.br m.B4 (.an (Qhm m) (.lv (Bj m) λ(x0:Int)=>.lf (x0==0))) (.lf false)
def I2 m:=(L1 m).m
abbrev Qpg m:=(L1 m).p
def Zng:bc:=mT 117 [] true [.agg bd.sig] [] (λa r=>L1 (bd.of (aC a 0))) (λX=>.bool X) (λX=>[])
theorem Zja:bm pG Zng:=oT (.cons Qqx (.nil)) Tryz.func117 Tryz.call117 [] [] 2
def TR(m:bd):Tree Bool:=
.lv (I0 m) λ(x0:Bool)=>.br (!x0) (.lf true) (.br m.B6 (.lf true) (.an (Qpg m) (.lv (I2 m) λ(x1:Bool)=>.br x1 (.lf true) (.lf (decide (m.B7>=1152921504606846976))))))
def GX m:=(TR m).m
abbrev Z93 m:=(TR m).p
end
noncomputable section
def Lw(m:List Int)(addr size v:Int):Tree (List Int):=
let E1:=bX 1 1&&bN 0 1&&decide (0<=wrap u32 (eF addr 4)/\wrap u32 (eF addr 4)<(m.length:Int));let E2:=dA (wrap u32 (eF addr 4));.br (size==4) (.cn E1 (.lf (dB m E2 v))) (.cn E1 (let E3:=decide (0<=wrap u32 (8*cZ addr 4));.cn E3 (.cn E3 (.cn E1 (.lf (dB m E2 (iU u32 (o4 u32 (m.getD E2 0) (fh u32 255 (wrap u32 (8*cZ addr 4)))) (fh u32 (ba u32 v 255) (wrap u32 (8*cZ addr 4))))))))))
def IV m addr size v:=(Lw m addr size v).m
abbrev Qm3 m addr size v:=(Lw m addr size v).p
def Zs5:bc:=mT 221 [true,false,false,false] true [.one (.row 0),.one (.int .u32),.one (.int .i64),.one (.int .u32)] [.arr 25 1 (.ints .u32)] (λa r=>Lw (da .u32 r 0) (au a 1) (au a 2) (au a 3)) (λX=>.ee []) (λX=>[⟨false,25,1,.ints .u32 X⟩])
theorem Z5j:bm pG Zs5:=oT (.nil) Tryz.func221 Tryz.call221 [] [] 2
def Zdb(b:Bool):Tree Int:=
.br b (.lf 1) (.lf 0)
def Cp b:=(Zdb b).m
def Zs9:bc:=mS 211 [] true [.one (.bool)] [] (λa r=>Zdb (kD a 0)) (λX=>.int .u32 X) (λX=>[])
theorem Qv6:bm pG Zs9:=oS (.nil) Tryz.func211 Tryz.call211 [] [] 2
def Ou(c:bq)(oO bad:Int):Tree bq:=
.lv (Cp (ba u32 c.C3.a0 (1:Int) !=(0:Int))) λ(x0:Int)=>.lv (Cp (ba u32 c.C3.a0 (2:Int) !=(0:Int))) λ(x1:Int)=>.lf ({X:=c.X,Pc:=c.C3.a1,C3:={a0:=iU u32 (o4 u32 (iU u32 (iU u32 (o4 u32 c.C3.a0 24) (wrap u32 (8*x0))) (wrap u32 (16*x1))) 2) 1,a1:=c.C3.a1,a2:=c.Pc,a3:=wrap u32 oO,a4:=bad,a5:=c.C3.a5,a6:=c.C3.a6,a7:=c.C3.a7}})
def ra c oO bad:=(Ou c oO bad).m
def Zm6:bc:=mS 157 [] true [.agg bq.sig,.one (.int .i64),.one (.int .u32)] [] (λa r=>Ou (bq.of (aC a 0)) (au a 1) (au a 2)) (λX=>.agg (bq.cells X)) (λX=>[])
theorem Qm:bm pG Zm6:=oS (.cons Qv6 (.nil)) Tryz.func157 Tryz.call157 [] [] 2
def IT(m:List Int)(addr size:Int):Tree Bool:=
let T1:Tree (Bool):=.cn (decide (wrap u32 size≠0)) (.br (cZ addr (wrap u32 size)==0) (.lv (wG m) λ(x0:Int)=>.lf (decide (addr<wrap u32 (wrap i64 (128*x0))))) (.lf false));.br (size !=1) (.br (size !=4) (.lf false) T1) T1
def uD m addr size:=(IT m addr size).m
abbrev Qe9 m addr size:=(IT m addr size).p
def Zew:bc:=mT 214 [] true [.one (.ints .u32),.one (.int .u32),.one (.int .i64)] [] (λa r=>IT (dq .u32 a 0) (au a 1) (au a 2)) (λX=>.bool X) (λX=>[])
theorem Qmh:bm pG Zew:=oT (.cons Sq (.nil)) Tryz.func214 Tryz.call214 [] [] 2
def DV(m:List Int)(addr size:Int):Tree (Int×Bool):=
.an (Qe9 m addr size) (.lv (uD m addr size) λ(x0:Bool)=>.br (!x0) (.lf (0,false)) (.cn (bX 1 1&&bN 0 1&&decide (0<=wrap u32 (eF addr 4)/\wrap u32 (eF addr 4)<(m.length:Int))) (.br (size==1) (.cn (decide (0<=wrap u32 (8*cZ addr 4))) (.lf (ba u32 (bb u32 (m.getD (dA (wrap u32 (eF addr 4))) 0) (wrap u32 (8*cZ addr 4))) 255,true))) (.lf (m.getD (dA (wrap u32 (eF addr 4))) 0,true)))))
def o6 m addr size:=(DV m addr size).m
abbrev VT m addr size:=(DV m addr size).p
def Znu:bc:=mT 159 [] true [.one (.ints .u32),.one (.int .u32),.one (.int .i64)] [] (λa r=>DV (dq .u32 a 0) (au a 1) (au a 2)) (λX=>.ee [.int .u32 (X.1),.bool (X.2)]) (λX=>[])
theorem Qsq:bm pG Znu:=oT (.cons Qmh (.nil)) Tryz.func159 Tryz.call159 [] [] 2
def Lq(w:Int):Tree (ik×Bool):=
.lv (o5 (wrap i64 (bb u32 w 24))) λ(x0:Int)=>let E5:=({Op:=0,A:=0,B:=0,C:=0,bz:=0}:ik);.br (x0==0) (.lf (E5,false)) (.br (x0==2) (let E3:=({Op:=wrap i64 (bb u32 w 24),A:=wrap i64 (ba u32 (bb u32 w 20) 15),B:=wrap i64 (ba u32 (bb u32 w 16) 15),C:=wrap i64 (ba u32 w 65535),bz:=0}:ik);.lv (Q9 E3) λ(x1:Bool)=>.br (!x1) (.lf (E5,false)) (.lf (E3,true))) (let T1:Tree ((ik×Bool)):=let E2:=({Op:=wrap i64 (bb u32 w 24),A:=wrap i64 (ba u32 (bb u32 w 20) 15),B:=wrap i64 (ba u32 (bb u32 w 16) 15),C:=0,bz:=wrap i32 (wrap i16 (ba u32 w 65535))}:ik);.lv (Q9 E2) λ(x2:Bool)=>.br (!x2) (.lf (E5,false)) (.lf (E2,true));.br (x0==3) T1 (.br (x0==7) T1 (let E4:=({Op:=wrap i64 (bb u32 w 24),A:=wrap i64 (ba u32 (bb u32 w 20) 15),B:=wrap i64 (ba u32 (bb u32 w 16) 15),C:=0,bz:=wrap i32 (ba u32 w 65535)}:ik);.lv (Q9 E4) λ(x4:Bool)=>.br (!x4) (.lf (E5,false)) (.lf (E4,true))))))
def Be w:=(Lq w).m
def Zgy:bc:=mS 160 [] true [.one (.int .u32)] [] (λa r=>Lq (au a 0)) (λX=>.ee [.agg (ik.cells (X.1)),.bool (X.2)]) (λX=>[])
theorem Qur:bm pG Zgy:=oS (.cons R7 (.cons Qwv (.nil))) Tryz.func160 Tryz.call160 [] [] 2
def Z1x(access:Int):Tree Bool:=
.br (decide (access>=1)) (.lf (decide (access<=3))) (.lf false)
def On access:=(Z1x access).m
def Zl5:bc:=mS 212 [] true [.one (.int .i64)] [] (λa r=>Z1x (au a 0)) (λX=>.bool X) (λX=>[])
theorem Qy4:bm pG Zl5:=oS (.nil) Tryz.func212 Tryz.call212 [] [] 2
def Z2i(c:bq):Tree Bool:=
.lf (ba u32 c.C3.a0 (5:Int)==(4:Int))
def XC c:=(Z2i c).m
def Zii:bc:=mS 213 [] true [.agg bq.sig] [] (λa r=>Z2i (bq.of (aC a 0))) (λX=>.bool X) (λX=>[])
theorem Zeh:bm pG Zii:=oS (.nil) Tryz.func213 Tryz.call213 [] [] 2
def LH(access:Int):Tree Int:=
.br (access==1) (.lf 4) (.br (access==3) (.lf 6) (.lf 5))
def Co access:=(LH access).m
def Za8:bc:=mS 215 [] true [.one (.int .i64)] [] (λa r=>LH (au a 0)) (λX=>.int .i64 X) (λX=>[])
theorem Qrj:bm pG Za8:=oS (.nil) Tryz.func215 Tryz.call215 [] [] 2
def GR(m:List Int)(root va access:Int):Tree rR:=
.lv (Co access) λ(x0:Int)=>.lv (wG m) λ(x1:Int)=>.lv (On access) λ(x2:Bool)=>let E4:=({Addr:=0,G1:=0,G0:=x0}:rR);.br (!x2) (.lf (E4)) (.br (decide (va>=4096)) (.lf (E4)) (.br (decide (root>=wrap u32 x1)) (.lf (E4)) (let E6:=wrap u32 (root*128)+wrap u32 (4*wrap u32 (eF va 128));let E3:=eF (wrap u32 E6) 4;.cn (bX 1 1&&bN 0 1&&decide (0<=wrap u32 E3/\wrap u32 E3<(m.length:Int))) (let E5:=m.getD (dA (wrap u32 E3)) 0;.br (ba u32 E5 (1:Int)==(0:Int)) (.lf (E4)) (let T1:Tree (rR):=.br (decide (ba u32 (bb u32 E5 8) 255>=wrap u32 x1)) (.lf (E4)) (.lf ({Addr:=wrap u32 (wrap u32 (ba u32 (bb u32 E5 8) (255:Int)*(128:Int))+cZ va 128),G1:=wrap u32 E6,G0:=0}));let T2:Tree (rR):=.br (access==1) (.br (ba u32 E5 (4:Int)==(0:Int)) (.lf (E4)) T1) T1;.br (access==3) (.br (ba u32 E5 (2:Int)==(0:Int)) (.lf (E4)) T2) T2)))))
def Ay m root va access:=(GR m root va access).m
abbrev Qxu m root va access:=(GR m root va access).p
def Zo1:bc:=mT 216 [] true [.one (.ints .u32),.one (.int .u32),.one (.int .u32),.one (.int .i64)] [] (λa r=>GR (dq .u32 a 0) (au a 1) (au a 2) (au a 3)) (λX=>.agg (rR.cells X)) (λX=>[])
theorem Zk9:bm pG Zo1:=oT (.cons Qrj (.cons Sq (.cons Qy4 (.nil)))) Tryz.func216 Tryz.call216 [] [] 2
def LA(m:List Int)(entry access:Int):Tree (List Int):=
.an (Qe9 m entry 4) (.lv (uD m entry 4) λ(x0:Bool)=>.br (!x0) (.lf m) (let E3:=bX 1 1&&bN 0 1&&decide (0<=wrap u32 (eF entry 4)/\wrap u32 (eF entry 4)<(m.length:Int));.cn E3 (.cn E3 (let E4:=dA (wrap u32 (eF entry 4));let E1:=dB m E4 (iU u32 (m.getD E4 0) 8);.br (access==3) (let E2:=bX 1 1&&bN 0 1&&decide (0<=wrap u32 (eF entry 4)/\wrap u32 (eF entry 4)<(↑(dF E1):Int));.cn E2 (.cn E2 (.lf (dB E1 E4 (iU u32 (aV E1 E4 0) 16))))) (.lf E1)))))
def Tv m entry access:=(LA m entry access).m
abbrev Qwi m entry access:=(LA m entry access).p
def Zmt:bc:=mT 217 [true,false,false] true [.one (.row 0),.one (.int .u32),.one (.int .i64)] [.arr 25 1 (.ints .u32)] (λa r=>LA (da .u32 r 0) (au a 1) (au a 2)) (λX=>.ee []) (λX=>[⟨false,25,1,.ints .u32 X⟩])
theorem Zi3:bm pG Zmt:=oT (.cons Qmh (.nil)) Tryz.func217 Tryz.call217 [] [] 2
def IY(c:bq)(m:List Int)(va size access:Int):Tree (Int×Int×(List Int)):=
.lv (On access) λ(x0:Bool)=>.br (!x0) (.lf (0,5,m)) (let T1:Tree ((Int×Int×(List Int))):=.cn (decide (wrap u32 size≠0)) (.br (cZ va (wrap u32 size) !=0) (.lf (0,3,m)) (.lv (XC c) λ(x1:Bool)=>.br (!x1) (.an (Qe9 m va size) (.lv (uD m va size) λ(x2:Bool)=>.br (!x2) (.lv (Co access) λ(x3:Int)=>.lf (0,x3,m)) (.lf (va,0,m)))) (.an (Qxu m c.C3.a6 va access) (.lv (Ay m c.C3.a6 va access) λ(x4:rR)=>.br (x4.G0 !=0) (.lf (0,x4.G0,m)) (.an (Qwi m x4.G1 access) (.lv (Tv m x4.G1 access) λ(x5:List Int)=>.lf (x4.Addr,0,x5)))))));.br (size !=1) (.br (size !=4) (.lf (0,5,m)) T1) T1)
def lU c m va size access:=(IY c m va size access).m
abbrev Ss c m va size access:=(IY c m va size access).p
def Zh9:bc:=mT 158 [false,true,false,false,false] true [.agg bq.sig,.one (.row 0),.one (.int .u32),.one (.int .i64),.one (.int .i64)] [.arr 25 1 (.ints .u32)] (λa r=>IY (bq.of (aC a 0)) (da .u32 r 0) (au a 2) (au a 3) (au a 4)) (λX=>.ee [.int .u32 (X.1),.int .i64 (X.2.1)]) (λX=>[⟨false,25,1,.ints .u32 (X.2.2)⟩])
theorem Qyj:bm pG Zh9:=oT (.cons Qy4 (.cons Zeh (.cons Qmh (.cons Qrj (.cons Zk9 (.cons Zi3 (.nil))))))) Tryz.func158 Tryz.call158 [] [] 2
def Qmw(op:Int):Tree Bool:=
.br (decide (op>=57)) (.lf (decide (op<=64))) (.lf false)
def Lm op:=(Qmw op).m
def Qyu:bc:=mS 161 [] true [.one (.int .i64)] [] (λa r=>Qmw (au a 0)) (λX=>.bool X) (λX=>[])
theorem Qxq:bm pG Qyu:=oS (.nil) Tryz.func161 Tryz.call161 [] [] 2
def Ow(c:bq):Tree bq:=
.lv (Cp (ba u32 c.C3.a0 (8:Int) !=(0:Int))) λ(x0:Int)=>.lv (Cp (ba u32 c.C3.a0 (16:Int) !=(0:Int))) λ(x1:Int)=>.lf ({X:=c.X,Pc:=c.C3.a2,C3:={a0:=iU u32 (iU u32 (o4 u32 c.C3.a0 3) (wrap u32 (1*x0))) (wrap u32 (2*x1)),a1:=c.C3.a1,a2:=c.C3.a2,a3:=c.C3.a3,a4:=c.C3.a4,a5:=c.C3.a5,a6:=c.C3.a6,a7:=c.C3.a7}})
def Tw c:=(Ow c).m
def Zdd:bc:=mS 218 [] true [.agg bq.sig] [] (λa r=>Ow (bq.of (aC a 0))) (λX=>.agg (bq.cells X)) (λX=>[])
theorem Z9f:bm pG Zdd:=oS (.cons Qv6 (.nil)) Tryz.func218 Tryz.call218 [] [] 2
def IX(c:bq)(r v:Int):Tree bq:=
.br (decide (r>0)) (.br (decide (r<16)) (.cn (bN 0 1&&decide (0<=r/\r<(↑16:Int))) (.lf ({X:=iv.of 0 (dB (iv.l c.X) r.toNat v),Pc:=c.Pc,C3:=c.C3}))) (.lf c)) (.lf c)
def lK c r v:=(IX c r v).m
abbrev DD c r v:=(IX c r v).p
def Zrx:bc:=mT 121 [] true [.agg bq.sig,.one (.int .i64),.one (.int .u32)] [] (λa r=>IX (bq.of (aC a 0)) (au a 1) (au a 2)) (λX=>.agg (bq.cells X)) (λX=>[])
theorem Su:bm pG Zrx:=oT (.nil) Tryz.func121 Tryz.call121 [] [] 2
def LI(c:bq)(jy v:Int):Tree bq:=
let E4:=bN 0 1&&decide (0<=jy/\jy<(↑8:Int));let T2:Tree (bq):=.cn E4 (.lf ({X:=c.X,Pc:=c.Pc,C3:=A8.of 0 (dB (A8.l c.C3) jy.toNat (ba u32 v 31))}));.br (jy==0) T2 (.br (jy==7) T2 (.br (jy==6) (.cn E4 (.lf ({X:=c.X,Pc:=c.Pc,C3:=A8.of 0 (dB (A8.l c.C3) jy.toNat (ba u32 v 255))}))) (let T3:Tree (bq):=.cn E4 (.lf ({X:=c.X,Pc:=c.Pc,C3:=A8.of 0 (dB (A8.l c.C3) jy.toNat (o4 u32 v 3))}));.br (jy==1) T3 (.br (jy==2) T3 (let T1:Tree (bq):=.cn E4 (.lf ({X:=c.X,Pc:=c.Pc,C3:=A8.of 0 (dB (A8.l c.C3) jy.toNat v)}));.br (jy==3) T1 (.br (jy==4) T1 (.br (jy==5) T1 (.lf c))))))))
def OA c jy v:=(LI c jy v).m
abbrev Qux c jy v:=(LI c jy v).p
def Zhm:bc:=mT 219 [] true [.agg bq.sig,.one (.int .i64),.one (.int .u32)] [] (λa r=>LI (bq.of (aC a 0)) (au a 1) (au a 2)) (λX=>.agg (bq.cells X)) (λX=>[])
theorem Zdu:bm pG Zhm:=oT (.nil) Tryz.func219 Tryz.call219 [] [] 2
def RB(c:bq)(i:ik):Tree (bq×lG):=
.br (i.Op==56) (.lv (ra c 7 0) λ(x0:bq)=>.lf (x0,{C2:=0,E0:=0,F9:=0,Value:=0})) (.br (i.Op==57) (.lv (Tw c) λ(x1:bq)=>.lf (x1,{C2:=0,E0:=0,F9:=0,Value:=0})) (.br (i.Op==58) (.cn (bN 0 1&&decide (0<=i.bz/\i.bz<(↑8:Int))) (let E3:=aV (A8.l c.C3) i.bz.toNat 0;.an (DD c i.A E3) (.lv (lK c i.A E3) λ(x2:bq)=>.lf ({X:=x2.X,Pc:=wrap u32 (x2.Pc+4),C3:=x2.C3},{C2:=0,E0:=0,F9:=0,Value:=0})))) (let E2:=bN 0 1&&decide (0<=i.A/\i.A<(↑16:Int));.br (i.Op==59) (.cn E2 (let E4:=aV (iv.l c.X) i.A.toNat 0;.an (Qux c (wrap i64 i.bz) E4) (.lv (OA c (wrap i64 i.bz) E4) λ(x3:bq)=>.lf ({X:=x3.X,Pc:=wrap u32 (x3.Pc+4),C3:=x3.C3},{C2:=0,E0:=0,F9:=0,Value:=0})))) (let E1:=({X:=c.X,Pc:=wrap u32 (c.Pc+4),C3:=c.C3}:bq);.br (i.Op==60) (.lf (E1,{C2:=1,E0:=wrap i64 i.bz,F9:=i.A,Value:=0})) (.br (i.Op==61) (.cn E2 (.lf (E1,{C2:=2,E0:=wrap i64 i.bz,F9:=0,Value:=aV (iv.l c.X) i.A.toNat 0}))) (.br (i.Op==62) (.lf (E1,{C2:=3,E0:=0,F9:=0,Value:=0})) (.br (i.Op==63) (.lf (E1,{C2:=5,E0:=0,F9:=0,Value:=0})) (.br (i.Op==64) (.lf (E1,{C2:=4,E0:=0,F9:=0,Value:=0})) (.lf (E1,{C2:=0,E0:=0,F9:=0,Value:=0}))))))))))
def XG c i:=(RB c i).m
abbrev Qrv c i:=(RB c i).p
def Zep:bc:=mT 162 [] true [.agg bq.sig,.agg ik.sig] [] (λa r=>RB (bq.of (aC a 0)) (ik.of (aC a 1))) (λX=>.ee [.agg (bq.cells (X.1)),.agg (lG.cells (X.2))]) (λX=>[])
theorem Zae:bm pG Zep:=oT (.cons Qm (.cons Z9f (.cons Su (.cons Zdu (.nil))))) Tryz.func162 Tryz.call162 [] [] 2
def Z1h(op a b:Int):Tree Bool:=
.br (op==40) (.lf (a==b)) (.br (op==41) (.lf (a !=b)) (.br (op==42) (.lf (decide (wrap i32 a<wrap i32 b))) (.br (op==43) (.lf (decide (wrap i32 a>=wrap i32 b))) (.br (op==44) (.lf (decide (a<b))) (.lf (decide (a>=b)))))))
def rD op a b:=(Z1h op a b).m
def Zku:bc:=mS 220 [] true [.one (.int .i64),.one (.int .u32),.one (.int .u32)] [] (λa r=>Z1h (au a 0) (au a 1) (au a 2)) (λX=>.bool X) (λX=>[])
theorem Zg0:bm pG Zku:=oS (.nil) Tryz.func220 Tryz.call220 [] [] 2
def RC(c:bq)(i:ik):Tree bq:=
.br (i.Op==48) (.an (DD c i.A (wrap u32 (c.Pc+4))) (.lv (lK c i.A (wrap u32 (c.Pc+4))) λ(x0:bq)=>.lf ({X:=x0.X,Pc:=wrap u32 (c.Pc+wrap u32 (4*wrap u32 i.bz)),C3:=x0.C3}))) (let E1:=bN 0 1&&decide (0<=i.B/\i.B<(↑16:Int));.br (i.Op==49) (.cn E1 (.an (DD c i.A (wrap u32 (c.Pc+4))) (.lv (lK c i.A (wrap u32 (c.Pc+4))) λ(x1:bq)=>.lf ({X:=x1.X,Pc:=wrap u32 (aV (iv.l c.X) i.B.toNat 0+wrap u32 i.bz),C3:=x1.C3})))) (.cn (bN 0 1&&decide (0<=i.A/\i.A<(↑16:Int))) (.cn E1 (.lv (rD i.Op (aV (iv.l c.X) i.A.toNat 0) (aV (iv.l c.X) i.B.toNat 0)) λ(x2:Bool)=>.br x2 (.lf ({X:=c.X,Pc:=wrap u32 (c.Pc+wrap u32 (4*wrap u32 i.bz)),C3:=c.C3})) (.lf ({X:=c.X,Pc:=wrap u32 (c.Pc+4),C3:=c.C3}))))))
def Z7i c i:=(RC c i).m
abbrev Qxa c i:=(RC c i).p
def Zmv:bc:=mT 163 [] true [.agg bq.sig,.agg ik.sig] [] (λa r=>RC (bq.of (aC a 0)) (ik.of (aC a 1))) (λX=>.agg (bq.cells X)) (λX=>[])
theorem Zix:bm pG Zmv:=oT (.cons Su (.cons Zg0 (.nil))) Tryz.func163 Tryz.call163 [] [] 2
def RA(x n:Int):Tree Int:=
.br (decide (n<1)) (.lf 0) (.br (decide (n>=32)) (.lf x) (.cn (decide (0<=wrap u64 n)) (.cn (decide (0<=wrap u64 (wrap i64 (n-1)))) (let E1:=ba u32 x (wrap u32 (fh u32 1 (wrap u64 n)-1));.br (bb u32 E1 (wrap u64 (wrap i64 (n-1)))==1) (.cn (decide (0<=wrap u64 n)) (.lf (iU u32 E1 (fh u32 4294967295 (wrap u64 n))))) (.lf E1)))))
def GN x n:=(RA x n).m
abbrev Qcp x n:=(RA x n).p
def Qze:bc:=mT 222 [] true [.one (.int .u32),.one (.int .i64)] [] (λa r=>RA (au a 0) (au a 1)) (λX=>.int .u32 X) (λX=>[])
theorem Qwf:bm pG Qze:=oT (.nil) Tryz.func222 Tryz.call222 [] [] 2
def RD(c:bq)(m:List Int)(i:ik):Tree (bq×(List Int)):=
.cn (bN 0 1&&decide (0<=i.B/\i.B<(↑16:Int))) (let E4:=wrap u32 (aV (iv.l c.X) i.B.toNat 0+wrap u32 i.bz);let E5:=aV (iv.l c.X) i.A.toNat 0;let E6:=bN 0 1&&decide (0<=i.A/\i.A<(↑16:Int));let E7:=({X:=c.X,Pc:=wrap u32 (c.Pc+4),C3:=c.C3}:bq);let T1:Tree ((bq×(List Int))):=let T3:Tree ((bq×(List Int))):=.an (Ss c m E4 4 3) (.lv (lU c m E4 4 3) λ(x0:Int×Int×List Int)=>.br (x0.2.1 !=0) (.lv (ra c x0.2.1 E4) λ(x1:bq)=>.lf (x1,x0.2.2)) (.cn E6 (.an (Qm3 x0.2.2 x0.1 4 E5) (.lv (IV x0.2.2 x0.1 4 E5) λ(x2:List Int)=>.lf (E7,x2)))));.br (i.Op==35) T3 (.br (i.Op==36) T3 (.an (Ss c m E4 4 2) (.lv (lU c m E4 4 2) λ(x6:Int×Int×List Int)=>.br (x6.2.1 !=0) (.lv (ra c x6.2.1 E4) λ(x7:bq)=>.lf (x7,x6.2.2)) (.an (VT x6.2.2 x6.1 4) (.lv (o6 x6.2.2 x6.1 4) λ(x8:Int×Bool)=>.br (i.Op==33) (.an (Qcp x8.1 8) (.lv (GN x8.1 8) λ(x9:Int)=>.an (DD c i.A x9) (.lv (lK c i.A x9) λ(kj:bq)=>.lf ({X:=kj.X,Pc:=wrap u32 (kj.Pc+4),C3:=kj.C3},x6.2.2)))) (.an (DD c i.A x8.1) (.lv (lK c i.A x8.1) λ(lY:bq)=>.lf ({X:=lY.X,Pc:=wrap u32 (lY.Pc+4),C3:=lY.C3},x6.2.2))))))));.br (i.Op==32) T1 (.br (i.Op==35) T1 (let T2:Tree ((bq×(List Int))):=.an (Ss c m E4 1 3) (.lv (lU c m E4 1 3) λ(En:Int×Int×List Int)=>.br (En.2.1 !=0) (.lv (ra c En.2.1 E4) λ(x25:bq)=>.lf (x25,En.2.2)) (.cn E6 (.an (Qm3 En.2.2 En.1 1 E5) (.lv (IV En.2.2 En.1 1 E5) λ(x26:List Int)=>.lf (E7,x26)))));.br (i.Op==35) T2 (.br (i.Op==36) T2 (.an (Ss c m E4 1 2) (.lv (lU c m E4 1 2) λ(Ga:Int×Int×List Int)=>.br (Ga.2.1 !=0) (.lv (ra c Ga.2.1 E4) λ(x31:bq)=>.lf (x31,Ga.2.2)) (.an (VT Ga.2.2 Ga.1 1) (.lv (o6 Ga.2.2 Ga.1 1) λ(V7:Int×Bool)=>.br (i.Op==33) (.an (Qcp V7.1 8) (.lv (GN V7.1 8) λ(x33:Int)=>.an (DD c i.A x33) (.lv (lK c i.A x33) λ(x34:bq)=>.lf ({X:=x34.X,Pc:=wrap u32 (x34.Pc+4),C3:=x34.C3},Ga.2.2)))) (.an (DD c i.A V7.1) (.lv (lK c i.A V7.1) λ(x35:bq)=>.lf ({X:=x35.X,Pc:=wrap u32 (x35.Pc+4),C3:=x35.C3},Ga.2.2)))))))))))
def GS c m i:=(RD c m i).m
abbrev Qnt c m i:=(RD c m i).p
def Z88:bc:=mT 164 [false,true,false] true [.agg bq.sig,.one (.row 0),.agg ik.sig] [.arr 25 1 (.ints .u32)] (λa r=>RD (bq.of (aC a 0)) (da .u32 r 0) (ik.of (aC a 2))) (λX=>.agg (bq.cells (X.1))) (λX=>[⟨false,25,1,.ints .u32 (X.2)⟩])
theorem Z32:bm pG Z88:=oT (.cons Qyj (.cons Qm (.cons Z5j (.cons Qsq (.cons Qwf (.cons Su (.nil))))))) Tryz.func164 Tryz.call164 [] [] 2
def Z1y(op:Int):Tree Int:=
.br (op==16) (.lf 1) (.br (op==17) (.lf 3) (.br (op==18) (.lf 4) (.br (op==19) (.lf 5) (.br (op==20) (.lf 6) (.br (op==21) (.lf 7) (.br (op==22) (.lf 8) (.br (op==23) (.lf 12) (.lf op))))))))
def Zc2 op:=(Z1y op).m
def Zjf:bc:=mS 223 [] true [.one (.int .i64)] [] (λa r=>Z1y (au a 0)) (λX=>.int .i64 X) (λX=>[])
theorem Zf:bm pG Zjf:=oS (.nil) Tryz.func223 Tryz.call223 [] [] 2
def LF(a b:Int):Tree (Int×Int):=
.br (b==0) (.lf (4294967295,a)) (.cn (decide (wrap i64 (wrap i32 b)≠0)) (.cn (decide (wrap i64 (wrap i32 b)≠0)) (.lf (wrap u32 (wrap i64 (eF (wrap i64 (wrap i32 a)) (wrap i64 (wrap i32 b)))),wrap u32 (cZ (wrap i64 (wrap i32 a)) (wrap i64 (wrap i32 b)))))))
def LC a b:=(LF a b).m
abbrev Qjv a b:=(LF a b).p
def Zg4:bc:=mT 224 [] true [.one (.int .u32),.one (.int .u32)] [] (λa r=>LF (au a 0) (au a 1)) (λX=>.ee [.int .u32 (X.1),.int .u32 (X.2)]) (λX=>[])
theorem Z95:bm pG Zg4:=oT (.nil) Tryz.func224 Tryz.call224 [] [] 2
def Rz(op a b:Int):Tree (Int×Bool):=
.lv (Zc2 op) λ(x0:Int)=>.br (x0==1) (.lf (wrap u32 (a+b),true)) (.br (x0==2) (.lf (wrap u32 (a-b),true)) (.br (x0==3) (.lf (ba u32 a b,true)) (.br (x0==4) (.lf (iU u32 a b,true)) (.br (x0==5) (.lf (rP u32 a b,true)) (.br (x0==6) (.lf (fh u32 a (ba u32 b 31),true)) (.br (x0==7) (.lf (bb u32 a (ba u32 b 31),true)) (.br (x0==8) (.lf (wrap u32 (bb i32 (wrap i32 a) (ba u32 b 31)),true)) (.br (x0==9) (.lf (wrap u32 (a*b),true)) (.br (x0==10) (.an (Qjv a b) (.lv (LC a b) λ(x1:Int×Int)=>.lf (x1.1,true))) (.br (x0==11) (.an (Qjv a b) (.lv (LC a b) λ(x2:Int×Int)=>.lf (x2.2,true))) (.br (x0==12) (.lv (Cp (decide (wrap i32 a<wrap i32 b))) λ(x3:Int)=>.lf (x3,true)) (.br (x0==13) (.lv (Cp (decide (a<b))) λ(x4:Int)=>.lf (x4,true)) (.lf (0,false))))))))))))))
def DW op a b:=(Rz op a b).m
abbrev Qrm op a b:=(Rz op a b).p
def Zt9:bc:=mT 165 [] true [.one (.int .i64),.one (.int .u32),.one (.int .u32)] [] (λa r=>Rz (au a 0) (au a 1) (au a 2)) (λX=>.ee [.int .u32 (X.1),.bool (X.2)]) (λX=>[])
theorem Znw:bm pG Zt9:=oT (.cons Zf (.cons Z95 (.cons Qv6 (.nil)))) Tryz.func165 Tryz.call165 [] [] 2
def RE(c:bq)(m:List Int):Tree (bq×lG×(List Int)):=
.an (Ss c m c.Pc 4 1) (.lv (lU c m c.Pc 4 1) λ(x0:Int×Int×List Int)=>.br (x0.2.1 !=0) (.lv (ra c x0.2.1 c.Pc) λ(x1:bq)=>.lf (x1,{C2:=0,E0:=0,F9:=0,Value:=0},x0.2.2)) (.an (VT x0.2.2 x0.1 4) (.lv (o6 x0.2.2 x0.1 4) λ(x2:Int×Bool)=>.lv (Be x2.1) λ(x3:ik×Bool)=>.br (!x3.2) (.lv (ra c 1 x2.1) λ(x4:bq)=>.lf (x4,{C2:=0,E0:=0,F9:=0,Value:=0},x0.2.2)) (.lv (Lm x3.1.Op) λ(x5:Bool)=>let T1:Tree ((bq×lG×(List Int))):=.br (decide (x3.1.Op>=56)) (.an (Qrv c x3.1) (.lv (XG c x3.1) λ(x7:bq×lG)=>.lf (x7.1,x7.2,x0.2.2))) (.br (decide (x3.1.Op>=40)) (.an (Qxa c x3.1) (.lv (Z7i c x3.1) λ(x8:bq)=>.lf (x8,{C2:=0,E0:=0,F9:=0,Value:=0},x0.2.2))) (.br (decide (x3.1.Op>=32)) (.an (Qnt c x0.2.2 x3.1) (.lv (GS c x0.2.2 x3.1) λ(x9:bq×List Int)=>.lf (x9.1,{C2:=0,E0:=0,F9:=0,Value:=0},x9.2))) (.br (x3.1.Op==24) (.an (DD c x3.1.A (fh u32 (wrap u32 x3.1.bz) 16)) (.lv (lK c x3.1.A (fh u32 (wrap u32 x3.1.bz) 16)) λ(kj:bq)=>.lf ({X:=kj.X,Pc:=wrap u32 (kj.Pc+4),C3:=kj.C3},{C2:=0,E0:=0,F9:=0,Value:=0},x0.2.2))) (let E2:=aV (iv.l c.X) x3.1.B.toNat 0;let E3:=bN 0 1&&decide (0<=x3.1.B/\x3.1.B<(↑16:Int));.br (decide (x3.1.Op<=13)) (.cn (bN 0 1&&decide (0<=x3.1.C/\x3.1.C<(↑16:Int))) (.cn E3 (let E4:=aV (iv.l c.X) x3.1.C.toNat 0;.an (Qrm x3.1.Op E2 E4) (.lv (DW x3.1.Op E2 E4) λ(lY:Int×Bool)=>.an (DD c x3.1.A lY.1) (.lv (lK c x3.1.A lY.1) λ(pj:bq)=>.lf ({X:=pj.X,Pc:=wrap u32 (pj.Pc+4),C3:=pj.C3},{C2:=0,E0:=0,F9:=0,Value:=0},x0.2.2)))))) (.cn E3 (.an (Qrm x3.1.Op E2 (wrap u32 x3.1.bz)) (.lv (DW x3.1.Op E2 (wrap u32 x3.1.bz)) λ(oD:Int×Bool)=>.an (DD c x3.1.A oD.1) (.lv (lK c x3.1.A oD.1) λ(nE:bq)=>.lf ({X:=nE.X,Pc:=wrap u32 (nE.Pc+4),C3:=nE.C3},{C2:=0,E0:=0,F9:=0,Value:=0},x0.2.2)))))))));.br x5 (.br (ba u32 c.C3.a0 (1:Int)==(0:Int)) (.lv (ra c 2 x2.1) λ(x6:bq)=>.lf (x6,{C2:=0,E0:=0,F9:=0,Value:=0},x0.2.2)) T1) T1))))
def Bg c m:=(RE c m).m
abbrev Z6p c m:=(RE c m).p
def yD:bc:=mT 119 [false,true] true [.agg bq.sig,.one (.row 0)] [.arr 25 1 (.ints .u32)] (λa r=>RE (bq.of (aC a 0)) (da .u32 r 0)) (λX=>.ee [.agg (bq.cells (X.1)),.agg (lG.cells (X.2.1))]) (λX=>[⟨false,25,1,.ints .u32 (X.2.2)⟩])
theorem Ztb:bm pG yD:=oT (.cons Qyj (.cons Qm (.cons Qsq (.cons Qur (.cons Qxq (.cons Zae (.cons Zix (.cons Z32 (.cons Su (.cons Znw (.nil))))))))))) Tryz.func119 Tryz.call119 [] [] 2
end
noncomputable section
def Ql(m:List Int)(frame:Int):Tree Bool:=
.lv (wG m) λ(x0:Int)=>.lf (decide (wrap u64 frame<wrap u64 x0))
def tO m frame:=(Ql m frame).m
def Zmr:bc:=mS 226 [] true [.one (.ints .u32),.one (.int .u32)] [] (λa r=>Ql (dq .u32 a 0) (au a 1)) (λX=>.bool X) (λX=>[])
theorem Sh:bm pG Zmr:=oS (.cons Sq (.nil)) Tryz.func226 Tryz.call226 [] [] 2
def Qer(m:bd)(z:(Int)):Nat:=(32-z).toNat
def L2(m:bd):Tree bq:=
.an (Qhm m) (.lv (Bj m) λ(x0:Int)=>.br (ba u32 m.B2.C3.a0 (2:Int)==(0:Int)) (.lf m.B2) (.br (x0==0) (.lf m.B2) (.lp inferInstance (Qer m 0+1) ((rZ/\rZ/\rE (x0:Int)/\rE (0:Int)/\True)/\(mE m (((ai.Nil (ai.ints u32 m.Mem)\/rE (1:Nat))/\rE m.Mem)) True)/\(rE (0:Int)/\rE (0:Int)/\rE (0:Int)/\rE (0:Int)/\rE (0:Int)/\rE (0:Int)/\rE (0:Int)/\rE (0:Int)/\rE (0:Int)/\rE (0:Int)/\rE (0:Int)/\rE (0:Int)/\rE (0:Int)/\rE (0:Int)/\rE (0:Int)/\rE (0:Int)/\rE (0:Int)/\rE (0:Int)/\rE (0:Int)/\rE (0:Int)/\rE (0:Int)/\rE (0:Int)/\rE (0:Int)/\rE (0:Int)/\rE (0:Int)/\True)/\True) 0 λ(v0:Int)=>.cn (decide (0<=wrap u64 v0)) (.br (ba u32 (bb u32 x0 (wrap u64 v0)) (1:Int)==(0:Int)) (.nx ((rZ/\rZ/\rE (x0:Int)/\rE ((wrap i64 (v0+1)):Int)/\True)/\(mE m (((ai.Nil (ai.ints u32 m.Mem)\/rE (1:Nat))/\rE m.Mem)) True)/\(rE (0:Int)/\rE (0:Int)/\rE (0:Int)/\rE (0:Int)/\rE (0:Int)/\rE (0:Int)/\rE (0:Int)/\rE (0:Int)/\rE (0:Int)/\rE (0:Int)/\rE (0:Int)/\rE (0:Int)/\rE (0:Int)/\rE (0:Int)/\rE (0:Int)/\rE (0:Int)/\rE (0:Int)/\rE (0:Int)/\rE (0:Int)/\rE (0:Int)/\rE (0:Int)/\rE (0:Int)/\rE (0:Int)/\rE (0:Int)/\rE (0:Int)/\True)/\True) (Sum.inl (wrap i64 (v0+1)))) (.lv (ra m.B2 (wrap i64 (16+v0)) 0) λ(x1:bq)=>.lf (Sum.inr x1))))))
def rF m:=(L2 m).m
abbrev Qb7 m:=(L2 m).p
def Qvj:cg:={
 α:=(Int)
 F:=λst a=>([(1,.ptr 0 0 0),(2,.ptr 1 0 0),(3,(lk st 3)),(4,.int i64 a)],[⟨true,43,49,.gen [mB (cT st 1)]⟩,⟨true,29,25,.gen [[(cT st 2 0),(cT st 2 1),(cT st 2 2),(cT st 2 3),(cT st 2 4),(cT st 2 5),(cT st 2 6),(cT st 2 7),(cT st 2 8),(cT st 2 9),(cT st 2 10),(cT st 2 11),(cT st 2 12),(cT st 2 13),(cT st 2 14),(cT st 2 15),(cT st 2 16),(cT st 2 17),(cT st 2 18),(cT st 2 19),(cT st 2 20),(cT st 2 21),(cT st 2 22),(cT st 2 23),(cT st 2 24)]]⟩])
 a0:=λst=>(lk st 4).toInt
 jo:=λst=>[]++[(rX st 1 0),(rX st 2 1)]}
def Qrd:List (Nat×cg):=[(5,Qvj)]
def Qxb:bc:=mT 118 [] true [.agg bd.sig] [] (λa r=>L2 (bd.of (aC a 0))) (λX=>.agg (bq.cells X)) (λX=>[])
theorem Qjp:bm pG Qxb:=oT (.cons Qqx (.cons Qm (.nil))) Tryz.func118 Tryz.call118 [] Qrd 3
def GV(c:iH)(port:Int):Tree (iH×Int):=
let T1:Tree ((iH×Int)):=.br (port==0) (.cn (decide ((0:Int)<=(1:Int)/\1<=(c.D9.length:Int)/\(c.D9.length:Int)<=(c.D9.length:Int))) (.cn (decide ((0:Int)<=(0:Int)/\0<(c.D9.length:Int))) (.lf ({D9:=cU (dA (c.D9.length:Int)-dA 1) (cV (dA 1) c.D9)},wrap u32 (↑(UInt8.toNat (c.D9.getD (dA 0) (0:UInt8))):Int))))) (.br (port==1) (.lf (c,wrap u32 (c.D9.length:Int))) (.lf (c,0)));.br (port==0) (.br ((c.D9.length:Int)==(0:Int)) (.lf (c,4294967295)) T1) T1
def LM c port:=(GV c port).m
theorem Qyk(c:iH)(port:Int):(GV c port).p:=by
 unfold Tree.p GV
 repeat'(first|exact trivial|refine ae (λ_=>?_) (λ_=>?_)|refine aw ?_ ?_|refine df ?_ ?_|refine aq (λ_ _=>?_)|refine ff ?_|refine bh ?_|refine And.intro ?_ ?_)
 all_goals(exact nY)
def Z30:bc:=mS 166 [] true [.agg iH.sig,.one (.int .i64)] [] (λa r=>GV (iH.of (aC a 0)) (au a 1)) (λX=>.ee [.agg (iH.cells (X.1)),.int .u32 (X.2)]) (λX=>[])
theorem Qz3:bm pG Z30:=oS (.nil) Tryz.func166 Tryz.call166 [] [] 2 (λ_ _ _=>by kernel_rfl) (λa r=>Qyk (iH.of (aC a 0)) (au a 1)) (λ_ X=>by kernel_rfl)
def Qg(t:iW):Tree Int:=
.br t.D8 (.lf 1) (.lf 0)
def X9 t:=(Qg t).m
def Za1:bc:=mS 167 [] true [.agg iW.sig] [] (λa r=>Qg (iW.of (aC a 0))) (λX=>.int .u32 X) (λX=>[])
theorem Z8k:bm pG Za1:=oS (.nil) Tryz.func167 Tryz.call167 [] [] 2
def Vv(d0:gg)(port:Int):Tree Int:=
.br (port==4) (.lf d0.C9) (.br (port==5) (.lf d0.Frame) (.br (port==6) (.lf (wrap u32 d0.C8)) (.lf 0)))
def X8 d0 port:=(Vv d0 port).m
def Zga:bc:=mS 168 [] true [.agg gg.sig,.one (.int .i64)] [] (λa r=>Vv (gg.of (aC a 0)) (au a 1)) (λX=>.int .u32 X) (λX=>[])
theorem Z9b:bm pG Zga:=oS (.nil) Tryz.func168 Tryz.call168 [] [] 2
def OF(n:ic)(port:Int):Tree Int:=
.br (port==7) (.lf n.Frame) (.br (port==8) (.lf n.F8) (.br (port==9) (.br n.D2 (.br n.C4 (.lf (wrap u32 ((1:Int)+(2:Int)))) (.lf 1)) (.br n.C4 (.lf (wrap u32 ((0:Int)+(2:Int)))) (.lf 0))) (.lf 0)))
def TE n port:=(OF n port).m
def Zkh:bc:=mS 169 [] true [.agg ic.sig,.one (.int .i64)] [] (λa r=>OF (ic.of (aC a 0)) (au a 1)) (λX=>.int .u32 X) (λX=>[])
theorem Zeo:bm pG Zkh:=oS (.nil) Tryz.func169 Tryz.call169 [] [] 2
def LR(b:gw)(port:Int):Tree Int:=
.br (port==10) (.lf b.A2) (.br (port==11) (.lv (LK b) λ(x0:Int)=>.lf (wrap u32 x0)) (.lf 0))
def LQ b port:=(LR b port).m
def Z2t:bc:=mS 170 [] true [.agg gw.sig,.one (.int .i64)] [] (λa r=>LR (gw.of (aC a 0)) (au a 1)) (λX=>.int .u32 X) (λX=>[])
theorem Z0o:bm pG Z2t:=oS (.cons Qxo (.nil)) Tryz.func170 Tryz.call170 [] [] 2
def NH(m:bd)(port clock:Int):Tree (Int×bd):=
.br (decide (port<=1)) (.lv (LM m.B3 port) λ(x0:iH×Int)=>.lf (x0.2,{B2:=m.B2,Mem:=m.Mem,B3:=x0.1,B8:=m.B8,B5:=m.B5,D1:=m.D1,A7:=m.A7,B7:=m.B7,B4:=m.B4,B6:=m.B6})) (.br (port==2) (.lf (clock,m)) (.br (port==3) (.lv (X9 m.B8) λ(x1:Int)=>.lf (x1,m)) (.br (decide (port<=6)) (.lv (X8 m.B5 port) λ(x2:Int)=>.lf (x2,m)) (.br (decide (port<=9)) (.lv (TE m.D1 port) λ(x3:Int)=>.lf (x3,m)) (.lv (LQ m.A7 port) λ(x4:Int)=>.lf (x4,m))))))
def DZ m port clock:=(NH m port clock).m
def vD:bc:=mS 120 [true,false,false] true [.ptr 0,.one (.int .i64),.one (.int .u32)] [.box 43 49 (bd.iw (.row 1)),.arr 25 1 (.ints .u32)] (λa r=>NH (bd.iK (r.getD 0 default).cs (da .u32 r 1)) (au a 1) (au a 2)) (λX=>.int .u32 (X.1)) (λX=>[⟨true,43,49,.gen [(bd.cu (X.2) (.all 1))]⟩,⟨false,25,1,.ints .u32 (X.2).Mem⟩])
theorem Zs3:bm pG vD:=oS (.cons Qz3 (.cons Z8k (.cons Z9b (.cons Zeo (.cons Z0o (.nil)))))) Tryz.func120 Tryz.call120 [.row 25 1 (.ints .u32)] [] 2
def XO(deadline:Int):Tree iW:=
.br (deadline==0) (.lf ({F0:=false,D3:=0,D8:=false})) (.lf ({F0:=true,D3:=deadline,D8:=false}))
def XN deadline:=(XO deadline).m
def Zto:bc:=mS 171 [] true [.one (.int .u32)] [] (λa r=>XO (au a 0)) (λX=>.agg (iW.cells X)) (λX=>[])
theorem Zmz:bm pG Zto:=oS (.nil) Tryz.func171 Tryz.call171 [] [] 2
def Qww(x n:Int)(z:(Int)×(List Int)):Prop:=0<=z.1/\(z.2.length:Int)=z.1/\(z.1<=n\/z.1=0)
def Vu(x n:Int)(z:(Int)×(List Int)):Nat:=(n-z.1).toNat
def MJ(x n:Int):Tree (List UInt8):=
.lp inferInstance (Vu x n (0,[])+1) ((rE (x:Int)/\rE (n:Int)/\True/\rE (0:Int)/\True)/\rE ([]:List Int)/\True) (0,[]) λ(v0:Int×List Int)=>.br (decide (v0.1<n)) (.cn (decide (0<=wrap u64 (wrap i64 (8*v0.1)))) (.cn (decide (1*(v0.2.length+1)<=140737488355328)) (.nx ((rE (x:Int)/\rE (n:Int)/\True/\rE ((wrap i64 (v0.1+1)):Int)/\True)/\rE ((v0.2++[wrap u8 (bb u32 x (wrap u64 (wrap i64 (8*v0.1))))]):List Int)/\True) (Sum.inl (wrap i64 (v0.1+1),v0.2++[wrap u8 (bb u32 x (wrap u64 (wrap i64 (8*v0.1))))]))))) (.lf (Sum.inr (bytesOf v0.2)))
def Xu x n:=(MJ x n).m
def V8(x n:Int):Prop:=
n<=1000000000000
theorem Zhz(x n:Int)(hw:V8 x n):(MJ x n).p:=by
 simp only[V8]at hw
 unfold Tree.p MJ
 repeat'(first|refine fv (inv:=Qww x n) (μ:=Vu x n) ?_ (cN _) (λ_ _=>?_)|exact trivial|refine ae (λ_=>?_) (λ_=>?_)|refine aw ?_ ?_|refine df ?_ ?_|refine aq (λ_ _=>?_)|refine ff ?_|refine bh ?_|refine And.intro ?_ ?_)
 all_goals((try simp only[Qww,Vu]at*);exact nY)
def Zoo:cg:={
 α:=(Int)×(List Int)
 F:=λst a=>([(0,(lk st 0)),(1,(lk st 1)),(5,.all 0),(6,.int i64 a.1)],[⟨false,5,1,.ints u8 a.2⟩])
 a0:=λst=>((lk st 6).toInt,(nP st.rows (rN st 5)))
 jo:=λst=>[]++[(rX st 5 0)]}
def Zee:List (Nat×cg):=[(3,Zoo)]
def Zsm:bc:=lF 206 [] true [.one (.int .u32),.one (.int .i64)] [] (λa r=>V8 (au a 0) (au a 1)) (λa r=>Xu (au a 0) (au a 1)) (λX=>.str X) (λX=>[])
theorem Zor:bm pG Zsm:=wa drawn jG (.nil) Tryz.func206 Tryz.call206 (λa r=>MJ (au a 0) (au a 1)) [] Zee 3 (hp:=λa r h=>Zhz (au a 0) (au a 1) h)
def Xv(m:List Int)(frame:Int)(z:(Int)×(List Int)):Nat:=(32-z.1).toNat
def GQ(m:List Int)(frame:Int):Tree ((List UInt8)×Bool):=
.br (decide (frame<0)) (.lf ([],false)) (.lv (wG m) λ(x0:Int)=>.br (decide (frame>=x0)) (.lf ([],false)) (.lp inferInstance (Xv m frame (0,[])+1) ((((ai.Nil (ai.ints u32 m)\/rE (1:Nat))/\rE (m:List Int))/\rE (frame:Int)/\True/\rE (0:Int)/\True)/\rE ([]:List Int)/\True) (0,[]) λ(v0:Int×List Int)=>.br (decide (v0.1<32)) (.cn (bX 1 1&&bN 0 1&&decide (0<=wrap i64 (wrap i64 (frame*32)+v0.1)/\wrap i64 (wrap i64 (frame*32)+v0.1)<(m.length:Int))) (let E1:=m.getD (dA (wrap i64 (wrap i64 (frame*32)+v0.1))) 0;.an (V8 E1 4) (.lv (Xu E1 4) λ(x1:List UInt8)=>.cn (decide (1*(v0.2.length+dF (pB x1))<=140737488355328)) (.nx ((((ai.Nil (ai.ints u32 m)\/rE (1:Nat))/\rE (m:List Int))/\rE (frame:Int)/\True/\rE ((wrap i64 (v0.1+1)):Int)/\True)/\rE ((v0.2++pB x1):List Int)/\True) (Sum.inl (wrap i64 (v0.1+1),v0.2++pB x1)))))) (.lf (Sum.inr (bytesOf v0.2,true)))))
def Lr m frame:=(GQ m frame).m
abbrev Qig m frame:=(GQ m frame).p
def Zlk:cg:={
 α:=(Int)×(List Int)
 F:=λst a=>([(0,(lk st 0)),(1,(lk st 1)),(6,.all 0),(7,.int i64 a.1)],[⟨false,5,1,.ints u8 a.2⟩])
 a0:=λst=>((lk st 7).toInt,(nP st.rows (rN st 6)))
 jo:=λst=>[]++[(rX st 6 0)]}
def Zb:List (Nat×cg):=[(5,Zlk)]
def Znr:bc:=mT 149 [] true [.one (.ints .u32),.one (.int .i64)] [] (λa r=>GQ (dq .u32 a 0) (au a 1)) (λX=>.ee [.str (X.1),.bool (X.2)]) (λX=>[])
theorem Z1s:bm pG Znr:=oT (.cons Sq (.cons Zor (.nil))) Tryz.func149 Tryz.call149 [] Zb 3
def Qup(d0:gg)(gv:Int):Tree (iB×Bool):=
.br (d0.C8 !=1) (.lf ({C2:=0,At:=0,C9:=0,F1:=[]},false)) (.br (d0.F6==1) (.lf ({C2:=3,At:=gv,C9:=d0.C5,F1:=[]},true)) (.br (d0.F6==2) (.lf ({C2:=4,At:=gv,C9:=d0.C5,F1:=d0.C7},true)) (.lf ({C2:=0,At:=0,C9:=0,F1:=[]},false))))
def XS d0 gv:=(Qup d0 gv).m
def Z9l:bc:=mS 227 [] true [.agg gg.sig,.one (.int .u64)] [] (λa r=>Qup (gg.of (aC a 0)) (au a 1)) (λX=>.ee [.agg (iB.cells (X.1)),.bool (X.2)]) (λX=>[])
theorem Z59:bm pG Z9l:=oS (.nil) Tryz.func227 Tryz.call227 [] [] 2
def LN(d0:gg)(m:List Int)(port v gv:Int):Tree (gg×(List iB)):=
.br (port==4) (.lf ({ab:=d0.ab,C9:=v,Frame:=d0.Frame,C8:=d0.C8,F6:=d0.F6,C5:=d0.C5,C6:=d0.C6,C7:=d0.C7},[])) (.br (port==5) (.lf ({ab:=d0.ab,C9:=d0.C9,Frame:=v,C8:=d0.C8,F6:=d0.F6,C5:=d0.C5,C6:=d0.C6,C7:=d0.C7},[])) (.br (port !=6) (.lf (d0,[])) (let T1:Tree ((gg×(List iB))):=.br (d0.C8==0) (let T2:Tree ((gg×(List iB))):=.lf ({ab:=d0.ab,C9:=d0.C9,Frame:=d0.Frame,C8:=3,F6:=d0.F6,C5:=d0.C5,C6:=d0.C6,C7:=d0.C7},[]);.br (decide (d0.C9>=d0.ab)) T2 (.lv (tO m d0.Frame) λ(x0:Bool)=>.br (!x0) T2 (.br (v==2) (.an (Qig m (wrap i64 d0.Frame)) (.lv (Lr m (wrap i64 d0.Frame)) λ(x1:List UInt8×Bool)=>.lv (XS {ab:=d0.ab,C9:=d0.C9,Frame:=d0.Frame,C8:=1,F6:=wrap i64 v,C5:=d0.C9,C6:=d0.Frame,C7:=x1.1} gv) λ(x2:iB×Bool)=>.lf ({ab:=d0.ab,C9:=d0.C9,Frame:=d0.Frame,C8:=1,F6:=wrap i64 v,C5:=d0.C9,C6:=d0.Frame,C7:=x1.1},[x2.1]))) (.lv (XS {ab:=d0.ab,C9:=d0.C9,Frame:=d0.Frame,C8:=1,F6:=wrap i64 v,C5:=d0.C9,C6:=d0.Frame,C7:=[]} gv) λ(x3:iB×Bool)=>.lf ({ab:=d0.ab,C9:=d0.C9,Frame:=d0.Frame,C8:=1,F6:=wrap i64 v,C5:=d0.C9,C6:=d0.Frame,C7:=[]},[x3.1]))))) (.lf (d0,[]));.br (v==0) (let T3:Tree ((gg×(List iB))):=.lf ({ab:=d0.ab,C9:=d0.C9,Frame:=d0.Frame,C8:=0,F6:=d0.F6,C5:=d0.C5,C6:=d0.C6,C7:=d0.C7},[]);.br (d0.C8==2) T3 (.br (d0.C8==3) T3 (.br (v==1) T1 (.br (v==2) T1 (.lf (d0,[])))))) (.br (v==1) T1 (.br (v==2) T1 (.lf (d0,[])))))))
def XQ d0 m port v gv:=(LN d0 m port v gv).m
abbrev Qpt d0 m port v gv:=(LN d0 m port v gv).p
def Zan:bc:=mT 172 [] true [.agg gg.sig,.one (.ints .u32),.one (.int .i64),.one (.int .u32),.one (.int .u64)] [] (λa r=>LN (gg.of (aC a 0)) (dq .u32 a 1) (au a 2) (au a 3) (au a 4)) (λX=>.ee [.agg (gg.cells (X.1)),.sl 4 (.ah .cf (X.2)) true]) (λX=>[])
theorem Z65:bm pG Zan:=oT (.cons Sh (.cons Z1s (.cons Z59 (.nil)))) Tryz.func172 Tryz.call172 [.sl (.ah .cf) true] [] 2
def LO(n:ic)(m:List Int)(port v gv:Int):Tree (ic×(List iB)):=
.br (port==7) (.lf ({Frame:=v,F7:=n.F7,D2:=n.D2,D4:=n.D4,C4:=n.C4,F8:=n.F8},[])) (.br (port==8) (.lf ({Frame:=n.Frame,F7:=v,D2:=n.D2,D4:=n.D4,C4:=n.C4,F8:=n.F8},[])) (.br (port !=9) (.lf (n,[])) (.br (v==0) (.lf ({Frame:=n.Frame,F7:=n.F7,D2:=n.D2,D4:=n.D4,C4:=false,F8:=0},[])) (let T1:Tree ((ic×(List iB))):=.br (v==2) (.lv (tO m n.Frame) λ(x2:Bool)=>.br x2 (.br (!n.D2) (.br (!n.C4) (.lf ({Frame:=n.Frame,F7:=n.F7,D2:=true,D4:=n.Frame,C4:=n.C4,F8:=n.F8},[])) (.lf (n,[]))) (.lf (n,[]))) (.lf (n,[]))) (.lf (n,[]));.br (v==1) (.br (decide (n.F7>=1)) (.br (decide (n.F7<=128)) (.lv (tO m n.Frame) λ(x0:Bool)=>.br x0 (.an (Qig m (wrap i64 n.Frame)) (.lv (Lr m (wrap i64 n.Frame)) λ(x1:List UInt8×Bool)=>.cn (decide ((0:Int)<=(0:Int)/\0<=n.F7/\n.F7<=(x1.1.length:Int))) (.lf (n,[{C2:=2,At:=gv,C9:=0,F1:=cU (dA n.F7-dA 0) (cV (dA 0) x1.1)}])))) T1) T1) T1) T1))))
def XU n m port v gv:=(LO n m port v gv).m
abbrev Qr0 n m port v gv:=(LO n m port v gv).p
def Zfz:bc:=mT 173 [] true [.agg ic.sig,.one (.ints .u32),.one (.int .i64),.one (.int .u32),.one (.int .u64)] [] (λa r=>LO (ic.of (aC a 0)) (dq .u32 a 1) (au a 2) (au a 3) (au a 4)) (λX=>.ee [.agg (ic.cells (X.1)),.sl 4 (.ah .cf (X.2)) true]) (λX=>[])
theorem Z9a:bm pG Zfz:=oT (.cons Sh (.cons Z1s (.nil))) Tryz.func173 Tryz.call173 [.sl (.ah .cf) true] [] 2
def XZ(b:gw)(m:List Int)(port v:Int)(z:(Int)×(List Int)):Nat:=(32-z.1).toNat
def Bh(b:gw)(m:List Int)(port v:Int):Tree (gw×(List Int)):=
let T1:Tree ((gw×(List Int))):=.br (port==11) (.br (decide (v<32)) (.cn (decide (0<=v)) (.lf ({A2:=b.A2,D0:=o4 u32 b.D0 (fh u32 1 v)},m))) (.lf (b,m))) (.lf (b,m));.br (port==10) (.lv (tO m v) λ(x0:Bool)=>.br x0 (.cn (decide (0<=v)) (.br (ba u32 (bb u32 b.D0 v) (1:Int)==(0:Int)) (.cn (decide (0<=v)) (.lp inferInstance (XZ b m port v (0,m)+1) ((True/\rE (v:Int)/\rZ/\rZ/\rE (0:Int)/\True)/\rE (m:List Int)/\(rE b.A2/\rE ((iU u32 b.D0 (fh u32 1 v)):Int)/\True)/\(rE (0:Int)/\rE (0:Int)/\True)/\True) (0,m) λ(v0:Int×List Int)=>.br (decide (v0.1<32)) (let E2:=wrap i64 (wrap i64 v*32)+v0.1;.cn (bX 1 1&&bN 0 1&&decide (0<=wrap i64 E2/\wrap i64 E2<(v0.2.length:Int))) (.nx ((True/\rE (v:Int)/\rZ/\rZ/\rE ((wrap i64 (v0.1+1)):Int)/\True)/\rE ((dB v0.2 (dA (wrap i64 (wrap i64 (wrap i64 v*32)+v0.1))) 0):List Int)/\(rE b.A2/\rE ((iU u32 b.D0 (fh u32 1 v)):Int)/\True)/\(rE (0:Int)/\rE (0:Int)/\True)/\True) (Sum.inl (wrap i64 (v0.1+1),dB v0.2 (dA (wrap i64 E2)) 0)))) (.lf (Sum.inr ({A2:=b.A2,D0:=iU u32 b.D0 (fh u32 1 v)},v0.2))))) T1)) T1) T1
def Bi b m port v:=(Bh b m port v).m
abbrev Qwm b m port v:=(Bh b m port v).p
def Zl4:cg:={
 α:=(Int)×(List Int)
 F:=λst a=>([(1,.all 0),(3,(lk st 3)),(4,.ptr 1 0 0),(8,.ptr 2 0 0),(9,.int i64 a.1)],[⟨false,25,1,.ints u32 a.2⟩,⟨true,40,2,.gen [[(cT st 4 0),(cT st 4 1)]]⟩,⟨true,40,2,.gen [[(cT st 8 0),(cT st 8 1)]]⟩])
 a0:=λst=>((lk st 9).toInt,(nP st.rows 0))
 jo:=λst=>[0]++[(rX st 4 1),(rX st 8 2)]}
def Z9i:List (Nat×cg):=[(4,Zl4)]
def Zmb:bc:=mT 174 [false,true,false,false] true [.agg gw.sig,.one (.row 0),.one (.int .i64),.one (.int .u32)] [.arr 25 1 (.ints .u32)] (λa r=>Bh (gw.of (aC a 0)) (da .u32 r 0) (au a 2) (au a 3)) (λX=>.agg (gw.cells (X.1))) (λX=>[⟨false,25,1,.ints .u32 (X.2)⟩])
theorem Zhb:bm pG Zmb:=oT (.cons Sh (.nil)) Tryz.func174 Tryz.call174 [] Z9i 3
def KI(m:bd)(port v:Int):Tree ((List iB)×bd):=
.br (port==0) (.lf ([{C2:=1,At:=m.B7,C9:=0,F1:=[(λ(n:Int)=>UInt8.ofNat n.toNat) (wrap u8 v)]}],m)) (.br (decide (port<=2)) (.lf ([],m)) (.br (port==3) (.lv (XN v) λ(x0:iW)=>.lf ([],{B2:=m.B2,Mem:=m.Mem,B3:=m.B3,B8:=x0,B5:=m.B5,D1:=m.D1,A7:=m.A7,B7:=m.B7,B4:=m.B4,B6:=m.B6})) (.br (decide (port<=6)) (.an (Qpt m.B5 m.Mem port v m.B7) (.lv (XQ m.B5 m.Mem port v m.B7) λ(x1:gg×List iB)=>.lf (x1.2,{B2:=m.B2,Mem:=m.Mem,B3:=m.B3,B8:=m.B8,B5:=x1.1,D1:=m.D1,A7:=m.A7,B7:=m.B7,B4:=m.B4,B6:=m.B6}))) (.br (decide (port<=9)) (.an (Qr0 m.D1 m.Mem port v m.B7) (.lv (XU m.D1 m.Mem port v m.B7) λ(x2:ic×List iB)=>.lf (x2.2,{B2:=m.B2,Mem:=m.Mem,B3:=m.B3,B8:=m.B8,B5:=m.B5,D1:=x2.1,A7:=m.A7,B7:=m.B7,B4:=m.B4,B6:=m.B6}))) (.an (Qwm m.A7 m.Mem port v) (.lv (Bi m.A7 m.Mem port v) λ(x3:gw×List Int)=>.lf ([],{B2:=m.B2,Mem:=x3.2,B3:=m.B3,B8:=m.B8,B5:=m.B5,D1:=m.D1,A7:=x3.1,B7:=m.B7,B4:=m.B4,B6:=m.B6})))))))
def EY m port v:=(KI m port v).m
abbrev Z1z m port v:=(KI m port v).p
def Zs:bc:=mT 122 [true,false,false] true [.ptr 0,.one (.int .i64),.one (.int .u32)] [.box 43 49 (bd.iw (.row 1)),.arr 25 1 (.ints .u32)] (λa r=>KI (bd.iK (r.getD 0 default).cs (da .u32 r 1)) (au a 1) (au a 2)) (λX=>.sl 4 (.ah .cf (X.1)) true) (λX=>[⟨true,43,49,.gen [(bd.cu (X.2) (.all 1))]⟩,⟨false,25,1,.ints .u32 (X.2).Mem⟩])
theorem Zow:bm pG Zs:=oT (.cons Zmz (.cons Z65 (.cons Z9a (.cons Zhb (.nil))))) Tryz.func122 Tryz.call122 [.sl (.ah .cf) true,.row 25 1 (.ints .u32)] [] 2
def NI(m:bd)(clock:Int):Tree ((List iB)×bd):=
.an (Qb7 m) (.lv (rF m) λ(x0:bq)=>.an (Z6p x0 m.Mem) (.lv (Bg x0 m.Mem) λ(x1:bq×lG×List Int)=>let E1:=({B2:=x1.1,Mem:=x1.2.2,B3:=m.B3,B8:=m.B8,B5:=m.B5,D1:=m.D1,A7:=m.A7,B7:=m.B7,B4:=false,B6:=m.B6}:bd);.br (x1.2.1.C2==1) (.lv (DZ E1 x1.2.1.E0 clock) λ(x2:Int×bd)=>.an (DD x2.2.B2 x1.2.1.F9 x2.1) (.lv (lK x2.2.B2 x1.2.1.F9 x2.1) λ(x3:bq)=>.lf ([],{B2:=x3,Mem:=x2.2.Mem,B3:=x2.2.B3,B8:=x2.2.B8,B5:=x2.2.B5,D1:=x2.2.D1,A7:=x2.2.A7,B7:=wrap u64 (x2.2.B7+1),B4:=x2.2.B4,B6:=x2.2.B6}))) (.br (x1.2.1.C2==2) (.an (Z1z E1 x1.2.1.E0 x1.2.1.Value) (.lv (EY E1 x1.2.1.E0 x1.2.1.Value) λ(x4:List iB×bd)=>.lf (x4.1,{B2:=x4.2.B2,Mem:=x4.2.Mem,B3:=x4.2.B3,B8:=x4.2.B8,B5:=x4.2.B5,D1:=x4.2.D1,A7:=x4.2.A7,B7:=wrap u64 (x4.2.B7+1),B4:=x4.2.B4,B6:=x4.2.B6}))) (.br (x1.2.1.C2==3) (.lf ([],{B2:=x1.1,Mem:=x1.2.2,B3:=m.B3,B8:=m.B8,B5:=m.B5,D1:=m.D1,A7:=m.A7,B7:=wrap u64 (m.B7+1),B4:=true,B6:=m.B6})) (.br (x1.2.1.C2==4) (.lf ([],{B2:=x1.1,Mem:=x1.2.2,B3:=m.B3,B8:=m.B8,B5:=m.B5,D1:=m.D1,A7:=m.A7,B7:=wrap u64 (m.B7+1),B4:=false,B6:=true})) (.lf ([],{B2:=x1.1,Mem:=x1.2.2,B3:=m.B3,B8:=m.B8,B5:=m.B5,D1:=m.D1,A7:=m.A7,B7:=wrap u64 (m.B7+1),B4:=false,B6:=m.B6})))))))
def Q3 m clock:=(NI m clock).m
abbrev Qhh m clock:=(NI m clock).p
def Za9:bc:=mT 76 [true,false] true [.ptr 0,.one (.int .u32)] [.box 43 49 (bd.iw (.row 1)),.arr 25 1 (.ints .u32)] (λa r=>NI (bd.iK (r.getD 0 default).cs (da .u32 r 1)) (au a 1)) (λX=>.sl 4 (.ah .cf (X.1)) true) (λX=>[⟨true,43,49,.gen [(bd.cu (X.2) (.all 1))]⟩,⟨false,25,1,.ints .u32 (X.2).Mem⟩])
theorem Z7l:bm pG Za9:=oT (.cons Qjp (.cons Ztb (.cons Zs3 (.cons Su (.cons Zow (.nil)))))) Tryz.func76 Tryz.call76 [.sl (.ah .cf) true,.row 25 1 (.ints .u32)] [] 2

import Derived.Test.YtaemmjbkndlkeaaGreatMigrateEndsYz
open Nat renaming blt->bN,beq->bX,lt_succ_self->cN
open List renaming length->dF,replicate->cO,take->cU,drop->cV,set->dB,getD->aV
open Int renaming toNat->dA,tdiv->eF,tmod->cZ
set_option maxRecDepth 100000
set_option linter.all false
namespace Go.Proofs.YtaemmjbkndlkeaaGreat
open Go Go.GD Go.IntKind
noncomputable section
def LB(m:List Int):Tree (List Int):=
.cn (bN (0:Nat) (1:Nat)&&bX (1:Nat) (1:Nat)&&List.all [D.int u32 (0:Int)] D.plain&&decide ((0:Int)<=(m.length:Int)/\(m.length:Int)<=(m.length:Int)/\(m.length:Int)<=(9223372036854775807:Int)/\(↑(4:Nat):Int)*(m.length:Int)<=(140737488355328:Int))) (let E1:=dF (cO (dA (m.length:Int)) (0:Int));.lf (cU (Min.min (m.length) E1) m++cV (Min.min (m.length) E1) (cO (dA (m.length:Int)) (0:Int))))
def XZ m:=(LB m).m
abbrev Qyt m:=(LB m).p
def Zot:bd:=mT 116 [] true [.one (.ints .u32)] [] (λa r=>LB (dh .u32 a 0)) (λX=>.all 0) (λX=>[⟨false,25,1,.ints .u32 X⟩])
theorem Zir:bn pG Zot:=oT (.nil) Tryz.func116 Tryz.call116 [.row 25 1 (.ints .u32)] [] 2
def Km(m:bg):Tree bg:=
.an (Qyt m.Mem) (.lv (XZ m.Mem) λ(x0:List Int)=>.lf ({B2:=m.B2,Mem:=x0,B3:=m.B3,B9:=m.B9,B5:=m.B5,D1:=m.D1,A6:=m.A6,B7:=m.B7,B4:=m.B4,B6:=m.B6}))
def TB m:=(Km m).m
abbrev Qt m:=(Km m).p
def Zrs:bd:=mT 74 [] true [.agg bg.sig] [] (λa r=>Km (bg.of (aC a 0))) (λX=>.agg (bg.cj X (.all 0))) (λX=>[⟨false,25,1,.ints .u32 X.Mem⟩])
theorem Z8g:bn pG Zrs:=oT (.cons Zir (.nil)) Tryz.func74 Tryz.call74 [.row 25 1 (.ints .u32)] [] 2
def Qv3(n k:Int)(z:(Int)×(List Int)):Prop:=0<=z.1/\(z.2.length:Int)=z.1/\(z.1<=k\/z.1=0)
def Uh(n k:Int)(z:(Int)×(List Int)):Nat:=(k-z.1).toNat
def LU(n k:Int):Tree (List UInt8):=
.lp inferInstance (Uh n k (0,[])+1) ((rE (n:Int)/\rE (k:Int)/\True/\rE (0:Int)/\True)/\rE ([]:List Int)/\True) (0,[]) λ(v0:Int×List Int)=>.br (decide (v0.1<k)) (.lv (Ui n (wrap i64 (eF v0.1 9))) λ(x0:Int)=>.cn (decide (1*(v0.2.length+1)<=140737488355328)) (.nx ((rE (n:Int)/\rE (k:Int)/\True/\rE ((wrap i64 (v0.1+1)):Int)/\True)/\rE ((v0.2++[wrap u8 x0]):List Int)/\True) (Sum.inl (wrap i64 (v0.1+1),v0.2++[wrap u8 x0])))) (.lf (Sum.inr (bytesOf v0.2)))
def Yq n k:=(LU n k).m
def Pg(n k:Int):Prop:=
k<=1000000000000
theorem Zf(n k:Int)(hw:Pg n k):(LU n k).p:=by
 simp only[Pg]at hw
 unfold Tree.p LU
 repeat'(first|refine fj (inv:=Qv3 n k) (μ:=Uh n k) ?_ (cN _) (λ_ _=>?_)|exact trivial|refine ab (λ_=>?_) (λ_=>?_)|refine ax ?_ ?_|refine c6 ?_ ?_|refine aq (λ_ _=>?_)|refine ei ?_|refine bj ?_|refine And.intro ?_ ?_)
 all_goals((try simp only[Qv3,Uh]at*);exact nL)
def Zi5:cg:={
 α:=(Int)×(List Int)
 F:=λst a=>([(0,(lk st 0)),(1,(lk st 1)),(5,.all 0),(6,.int i64 a.1)],[⟨false,5,1,.ints u8 a.2⟩])
 a0:=λst=>((lk st 6).toInt,(nC st.rows (rN st 5)))
 jb:=λst=>[]++[(rX st 5 0)]}
def Z9m:List (Nat×cg):=[(3,Zi5)]
def Zn2:bd:=kU 81 [] true [.one (.int .i64),.one (.int .i64)] [] (λa r=>Pg (ar a 0) (ar a 1)) (λa r=>Yq (ar a 0) (ar a 1)) (λX=>.str X) (λX=>[])
theorem Zjn:bn pG Zn2:=tG drawn jz (.cons Qvo (.nil)) Tryz.func81 Tryz.call81 (λa r=>LU (ar a 0) (ar a 1)) [] Z9m 3 (hp:=λa r h=>Zf (ar a 0) (ar a 1) h)
def Qsr(m:List Int):Tree Int:=
.br (cZ (m.length:Int) (32:Int) !=(0:Int)) (.lf 0) (.br (decide ((m.length:Int)>(1024:Int))) (.lf 0) (.lf (wrap i64 (eF (m.length:Int) 32))))
def wq m:=(Qsr m).m
def Zk4:bd:=mS 36 [] true [.one (.ints .u32)] [] (λa r=>Qsr (dh .u32 a 0)) (λX=>.int .i64 X) (λX=>[])
theorem Sc:bn pG Zk4:=oS (.nil) Tryz.func36 Tryz.call36 [] [] 2
def Qns(c:iH):Tree Bool:=
.lf (decide ((c.E0.length:Int)<=(16:Int)))
def Qkg c:=(Qns c).m
def Z1a:bd:=mS 82 [] true [.agg iH.sig] [] (λa r=>Qns (iH.of (aC a 0))) (λX=>.bool X) (λX=>[])
theorem Qyr:bn pG Z1a:=oS (.nil) Tryz.func82 Tryz.call82 [] [] 2
def Xz(t:iV):Tree Bool:=
.br t.F1 (.br t.D9 (.lf false) (.br t.F1 (.lf (t.D3 !=0)) (.br t.D9 (.lf true) (.lf (t.D3==0))))) (.br t.F1 (.lf (t.D3 !=0)) (.br t.D9 (.lf true) (.lf (t.D3==0))))
def Tp t:=(Xz t).m
def Z6i:bd:=mS 83 [] true [.agg iV.sig] [] (λa r=>Xz (iV.of (aC a 0))) (λX=>.bool X) (λX=>[])
theorem Z3s:bn pG Z6i:=oS (.nil) Tryz.func83 Tryz.call83 [] [] 2
def XA(d0:fv)(bm:Int):Tree Bool:=
.br (decide (d0.ae>64)) (.lf false) (.br (decide (d0.C9<0)) (.lf false) (.br (decide (d0.C9>3)) (.lf false) (.br (d0.C9 !=1) (.br (d0.F6==0) (.br (d0.C5==0) (.br (d0.C6==0) (.lf (decide (d0.C7=[]))) (.lf false)) (.lf false)) (.lf false)) (.br (decide (d0.C5>=d0.ae)) (.lf false) (.br (decide (wrap i64 d0.C6>=bm)) (.lf false) (.br (d0.F6==1) (.br (decide (d0.C7=[])) (.lf true) (.br (d0.F6==2) (.lf ((d0.C7.length:Int)==(128:Int))) (.lf false))) (.br (d0.F6==2) (.lf ((d0.C7.length:Int)==(128:Int))) (.lf false))))))))
def Ts d0 bm:=(XA d0 bm).m
def Zas:bd:=mS 84 [] true [.agg fv.sig,.one (.int .i64)] [] (λa r=>XA (fv.of (aC a 0)) (ar a 1)) (λX=>.bool X) (λX=>[])
theorem Z71:bn pG Zas:=oS (.nil) Tryz.func84 Tryz.call84 [] [] 2
def Qp(n:gz)(bm:Int):Tree Bool:=
let T1:Tree (Bool):=.br n.C4 (.br (decide (n.F8>=1)) (.lf (decide (n.F8<=128))) (.lf false)) (.lf (n.F8==0));.br n.D2 (.br n.C4 (.lf false) (.br (decide (wrap i64 n.D4>=bm)) (.lf false) (.br (!n.D2) (.br (n.D4 !=0) (.lf false) T1) T1))) (.br (!n.D2) (.br (n.D4 !=0) (.lf false) T1) T1)
def Tq n bm:=(Qp n bm).m
def Zge:bd:=mS 85 [] true [.agg gz.sig,.one (.int .i64)] [] (λa r=>Qp (gz.of (aC a 0)) (ar a 1)) (λX=>.bool X) (λX=>[])
theorem Zad:bn pG Zge:=oS (.nil) Tryz.func85 Tryz.call85 [] [] 2
def Qih(b:gm)(bm:Int)(z:(Int)):Prop:=0<=z/\z<=32
def Tw(b:gm)(bm:Int)(z:(Int)):Nat:=(32-z).toNat
def Lr(b:gm)(bm:Int):Tree Bool:=
.lp inferInstance (Tw b bm 0+1) ((rE (bm:Int)/\rZ/\rE (0:Int)/\True)/\(rE b.A2/\rE b.D0/\True)/\True) 0 λ(v0:Int)=>.br (decide (v0<32)) (.cn (decide (0<=wrap u64 v0)) (let T1:Tree ((Int)⊕(Bool)):=.nx ((rE (bm:Int)/\rZ/\rE ((wrap i64 (v0+1)):Int)/\True)/\(rE b.A2/\rE b.D0/\True)/\True) (Sum.inl (wrap i64 (v0+1)));.br (bb u32 (bc u32 b.D0 (wrap u64 v0)) (1:Int)==(1:Int)) (.br (decide (v0>=bm)) (.lf (Sum.inr false)) T1) T1)) (.lf (Sum.inr true))
def Tx b bm:=(Lr b bm).m
theorem Qwe(b:gm)(bm:Int):(Lr b bm).p:=by
 unfold Tree.p Lr
 repeat'(first|refine fj (inv:=Qih b bm) (μ:=Tw b bm) ?_ (cN _) (λ_ _=>?_)|exact trivial|refine ab (λ_=>?_) (λ_=>?_)|refine ax ?_ ?_|refine c6 ?_ ?_|refine aq (λ_ _=>?_)|refine ei ?_|refine bj ?_|refine And.intro ?_ ?_)
 all_goals((try simp only[Qih,Tw]at*);exact nL)
def Qws:cg:={
 α:=(Int)
 F:=λst a=>([(1,(lk st 1)),(2,.ptr 0 0 0),(5,.int i64 a)],[⟨true,40,2,.gen [[(cT st 2 0),(cT st 2 1)]]⟩])
 a0:=λst=>(lk st 5).toInt
 jb:=λst=>[]++[(rX st 2 0)]}
def Que:List (Nat×cg):=[(2,Qws)]
def Z0e:bd:=mS 86 [] true [.agg gm.sig,.one (.int .i64)] [] (λa r=>Lr (gm.of (aC a 0)) (ar a 1)) (λX=>.bool X) (λX=>[])
theorem Qww:bn pG Z0e:=oS (.nil) Tryz.func86 Tryz.call86 [] Que 3 (λ_ _ _=>by kernel_rfl) (λa r=>Qwe (gm.of (aC a 0)) (ar a 1)) (λ_ X=>by kernel_rfl)
def XQ(m:bg):Tree Bool:=
.lv (wq m.Mem) λ(x0:Int)=>.br (decide (x0<1)) (.lf false) (.br (m.B2.X.a0 !=0) (.lf false) (.br (decide (m.B2.C3.a0>31)) (.lf false) (.br (decide (m.B2.C3.a7>31)) (.lf false) (.br (decide (m.B2.C3.a6>255)) (.lf false) (.br (cZ m.B2.C3.a1 (4:Int) !=(0:Int)) (.lf false) (.lv (Qkg m.B3) λ(x1:Bool)=>.br (!x1) (.lf false) (.lv (Tp m.B9) λ(x2:Bool)=>.br (!x2) (.lf false) (.lv (Ts m.B5 x0) λ(x3:Bool)=>.br (!x3) (.lf false) (.lv (Tq m.D1 x0) λ(x4:Bool)=>.br (!x4) (.lf false) (.lv (Tx m.A6 x0) λ(x5:Bool)=>.br (!x5) (.lf false) (.br (decide (m.B7<=1152921504606846976)) (.br m.B4 (.lf (!m.B6)) (.lf true)) (.lf false))))))))))))
def IK m:=(XQ m).m
def Zt7:bd:=mS 34 [] true [.agg bg.sig] [] (λa r=>XQ (bg.of (aC a 0))) (λX=>.bool X) (λX=>[])
theorem Z5i:bn pG Zt7:=oS (.cons Sc (.cons Qyr (.cons Z3s (.cons Z71 (.cons Zad (.cons Qww (.nil))))))) Tryz.func34 Tryz.call34 [] [] 2
def Rs(is:Bool)(n:Int):Tree Int:=
.br is (.cn (decide (0<=wrap u64 n)) (.lf (eu u32 1 (wrap u64 n)))) (.lf 0)
def DL is n:=(Rs is n).m
abbrev Sd is n:=(Rs is n).p
def Zmx:bd:=mT 255 [] true [.one (.bool),.one (.int .i64)] [] (λa r=>Rs (kI a 0) (ar a 1)) (λX=>.int .u32 X) (λX=>[])
theorem Zhp:bn pG Zmx:=oT (.nil) Tryz.func255 Tryz.call255 [] [] 2
def Qlb(t:iV):Tree Bool:=
.lf t.D9
def XT t:=(Qlb t).m
def Qw5:bd:=mS 256 [] true [.agg iV.sig] [] (λa r=>Qlb (iV.of (aC a 0))) (λX=>.bool X) (λX=>[])
theorem Qu8:bn pG Qw5:=oS (.nil) Tryz.func256 Tryz.call256 [] [] 2
def Qhh(c:iH):Tree Bool:=
.lf (decide ((c.E0.length:Int)>(0:Int)))
def Tu c:=(Qhh c).m
def Qs4:bd:=mS 257 [] true [.agg iH.sig] [] (λa r=>Qhh (iH.of (aC a 0))) (λX=>.bool X) (λX=>[])
theorem Qqp:bn pG Qs4:=oS (.nil) Tryz.func257 Tryz.call257 [] [] 2
def Qme(d0:fv):Tree Bool:=
.br (d0.C9==2) (.lf true) (.lf (d0.C9==3))
def XU d0:=(Qme d0).m
def Qy3:bd:=mS 258 [] true [.agg fv.sig] [] (λa r=>Qme (fv.of (aC a 0))) (λX=>.bool X) (λX=>[])
theorem Qvm:bn pG Qy3:=oS (.nil) Tryz.func258 Tryz.call258 [] [] 2
def Qnw(n:gz):Tree Bool:=
.lf n.C4
def XV n:=(Qnw n).m
def Z0c:bd:=mS 259 [] true [.agg gz.sig] [] (λa r=>Qnw (gz.of (aC a 0))) (λX=>.bool X) (λX=>[])
theorem Qy9:bn pG Z0c:=oS (.nil) Tryz.func259 Tryz.call259 [] [] 2
def Qr4(b:gm)(z:(Int)×(Int)):Prop:=0<=z.2/\z.2<=32
def Qhv(b:gm)(z:(Int)×(Int)):Nat:=(32-z.2).toNat
def VR(b:gm):Tree Int:=
.lp inferInstance (Qhv b (0,0)+1) ((rZ/\rE (0:Int)/\rE (0:Int)/\True)/\(rE b.A2/\rE b.D0/\True)/\True) (0,0) λ(v0:Int×Int)=>.br (decide (v0.2<32)) (.cn (decide (0<=wrap u64 v0.2)) (.nx ((rZ/\rE ((wrap i64 (v0.1+wrap i64 (bb u32 (bc u32 b.D0 (wrap u64 v0.2)) 1))):Int)/\rE ((wrap i64 (v0.2+1)):Int)/\True)/\(rE b.A2/\rE b.D0/\True)/\True) (Sum.inl (wrap i64 (v0.1+wrap i64 (bb u32 (bc u32 b.D0 (wrap u64 v0.2)) 1)),wrap i64 (v0.2+1))))) (.lf (Sum.inr v0.1))
def Lk b:=(VR b).m
theorem Zbc(b:gm):(VR b).p:=by
 unfold Tree.p VR
 repeat'(first|refine fj (inv:=Qr4 b) (μ:=Qhv b) ?_ (cN _) (λ_ _=>?_)|exact trivial|refine ab (λ_=>?_) (λ_=>?_)|refine ax ?_ ?_|refine c6 ?_ ?_|refine aq (λ_ _=>?_)|refine ei ?_|refine bj ?_|refine And.intro ?_ ?_)
 all_goals((try simp only[Qr4,Qhv]at*);exact nL)
def Zef:cg:={
 α:=(Int)×(Int)
 F:=λst a=>([(1,.ptr 0 0 0),(3,.int i64 a.1),(4,.int i64 a.2)],[⟨true,40,2,.gen [[(cT st 1 0),(cT st 1 1)]]⟩])
 a0:=λst=>((lk st 3).toInt,(lk st 4).toInt)
 jb:=λst=>[]++[(rX st 1 0)]}
def Z64:List (Nat×cg):=[(3,Zef)]
def Zio:bd:=mS 225 [] true [.agg gm.sig] [] (λa r=>VR (gm.of (aC a 0))) (λX=>.int .i64 X) (λX=>[])
theorem Qxy:bn pG Zio:=oS (.nil) Tryz.func225 Tryz.call225 [] Z64 3 (λ_ _ _=>by kernel_rfl) (λa r=>Zbc (gm.of (aC a 0))) (λ_ X=>by kernel_rfl)
def Qa(b:gm):Tree Bool:=
.lv (Lk b) λ(x0:Int)=>.lf (wrap u64 x0 !=wrap u64 b.A2)
def Om b:=(Qa b).m
def Qrk:bd:=mS 260 [] true [.agg gm.sig] [] (λa r=>Qa (gm.of (aC a 0))) (λX=>.bool X) (λX=>[])
theorem Qqm:bn pG Qrk:=oS (.cons Qxy (.nil)) Tryz.func260 Tryz.call260 [] [] 2
def Rt(m:bg):Tree Int:=
.lv (XT m.B9) λ(x0:Bool)=>.an (Sd x0 0) (.lv (DL x0 0) λ(x1:Int)=>.lv (Tu m.B3) λ(x2:Bool)=>.an (Sd x2 1) (.lv (DL x2 1) λ(x3:Int)=>.lv (XU m.B5) λ(x4:Bool)=>.an (Sd x4 2) (.lv (DL x4 2) λ(x5:Int)=>.lv (XV m.D1) λ(x6:Bool)=>.an (Sd x6 3) (.lv (DL x6 3) λ(x7:Int)=>.lv (Om m.A6) λ(x8:Bool)=>.an (Sd x8 4) (.lv (DL x8 4) λ(x9:Int)=>.lf (iM u32 (iM u32 (iM u32 (iM u32 x1 x3) x5) x7) x9))))))
def Oo m:=(Rt m).m
abbrev Qv8 m:=(Rt m).p
def Zht:bd:=mT 210 [] true [.agg bg.sig] [] (λa r=>Rt (bg.of (aC a 0))) (λX=>.int .u32 X) (λX=>[])
theorem Zez:bn pG Zht:=oT (.cons Zhp (.cons Qu8 (.cons Qqp (.cons Qvm (.cons Qy9 (.cons Qqm (.nil))))))) Tryz.func210 Tryz.call210 [] [] 2
def Lx(m:bg):Tree Int:=
.an (Qv8 m) (.lv (Oo m) λ(x0:Int)=>.lf (bb u32 x0 m.B2.C3.a7))
def AZ m:=(Lx m).m
abbrev Qhw m:=(Lx m).p
def Zaf:bd:=mT 156 [] true [.agg bg.sig] [] (λa r=>Lx (bg.of (aC a 0))) (λX=>.int .u32 X) (λX=>[])
theorem Qs7:bn pG Zaf:=oT (.cons Zez (.nil)) Tryz.func156 Tryz.call156 [] [] 2
def Lz(m:bg):Tree Bool:=
.br m.B4 (.an (Qhw m) (.lv (AZ m) λ(x0:Int)=>.lf (x0==0))) (.lf false)
def IM m:=(Lz m).m
abbrev Qpk m:=(Lz m).p
def Zmw:bd:=mT 117 [] true [.agg bg.sig] [] (λa r=>Lz (bg.of (aC a 0))) (λX=>.bool X) (λX=>[])
theorem Z1t:bn pG Zmw:=oT (.cons Qs7 (.nil)) Tryz.func117 Tryz.call117 [] [] 2
def IN(m:bg):Tree Bool:=
.lv (IK m) λ(x0:Bool)=>.br (!x0) (.lf true) (.br m.B6 (.lf true) (.an (Qpk m) (.lv (IM m) λ(x1:Bool)=>.br x1 (.lf true) (.lf (decide (m.B7>=1152921504606846976))))))
def GK m:=(IN m).m
abbrev Qvc m:=(IN m).p
def Zin:bd:=mT 75 [] true [.agg bg.sig] [] (λa r=>IN (bg.of (aC a 0))) (λX=>.bool X) (λX=>[])
theorem Zhg:bn pG Zin:=oT (.cons Z5i (.cons Z1t (.nil))) Tryz.func75 Tryz.call75 [] [] 2
end
noncomputable section
def K7(m:List Int)(addr size v:Int):Tree (List Int):=
let E1:=bX 1 1&&bN 0 1&&decide (0<=wrap u32 (eF addr 4)/\wrap u32 (eF addr 4)<(m.length:Int));let E2:=dA (wrap u32 (eF addr 4));.br (size==4) (.cn E1 (.lf (dB m E2 v))) (.cn E1 (let E3:=decide (0<=wrap u32 (8*cZ addr 4));.cn E3 (.cn E3 (.cn E1 (.lf (dB m E2 (iM u32 (oJ u32 (m.getD E2 0) (eu u32 255 (wrap u32 (8*cZ addr 4)))) (eu u32 (bb u32 v 255) (wrap u32 (8*cZ addr 4))))))))))
def IE m addr size v:=(K7 m addr size v).m
abbrev Qm6 m addr size v:=(K7 m addr size v).p
def Zsl:bd:=mT 221 [true,false,false,false] true [.one (.row 0),.one (.int .u32),.one (.int .i64),.one (.int .u32)] [.arr 25 1 (.ints .u32)] (λa r=>K7 (cw .u32 r 0) (ar a 1) (ar a 2) (ar a 3)) (λX=>.dw []) (λX=>[⟨false,25,1,.ints .u32 X⟩])
theorem Z6t:bn pG Zsl:=oT (.nil) Tryz.func221 Tryz.call221 [] [] 2
def Zch(b:Bool):Tree Int:=
.br b (.lf 1) (.lf 0)
def Cb b:=(Zch b).m
def Zro:bd:=mS 211 [] true [.one (.bool)] [] (λa r=>Zch (kI a 0)) (λX=>.int .u32 X) (λX=>[])
theorem Qw4:bn pG Zro:=oS (.nil) Tryz.func211 Tryz.call211 [] [] 2
def N7(c:bu)(oA bad:Int):Tree bu:=
.lv (Cb (bb u32 c.C3.a0 (1:Int) !=(0:Int))) λ(x0:Int)=>.lv (Cb (bb u32 c.C3.a0 (2:Int) !=(0:Int))) λ(x1:Int)=>.lf ({X:=c.X,Pc:=c.C3.a1,C3:={a0:=iM u32 (oJ u32 (iM u32 (iM u32 (oJ u32 c.C3.a0 24) (wrap u32 (8*x0))) (wrap u32 (16*x1))) 2) 1,a1:=c.C3.a1,a2:=c.Pc,a3:=wrap u32 oA,a4:=bad,a5:=c.C3.a5,a6:=c.C3.a6,a7:=c.C3.a7}})
def pM c oA bad:=(N7 c oA bad).m
def Znb:bd:=mS 157 [] true [.agg bu.sig,.one (.int .i64),.one (.int .u32)] [] (λa r=>N7 (bu.of (aC a 0)) (ar a 1) (ar a 2)) (λX=>.agg (bu.cells X)) (λX=>[])
theorem VS:bn pG Znb:=oS (.cons Qw4 (.nil)) Tryz.func157 Tryz.call157 [] [] 2
def IC(m:List Int)(addr size:Int):Tree Bool:=
let T1:Tree (Bool):=.cn (decide (wrap u32 size≠0)) (.br (cZ addr (wrap u32 size)==0) (.lv (wq m) λ(x0:Int)=>.lf (decide (addr<wrap u32 (wrap i64 (128*x0))))) (.lf false));.br (size !=1) (.br (size !=4) (.lf false) T1) T1
def uk m addr size:=(IC m addr size).m
abbrev Qdx m addr size:=(IC m addr size).p
def Ze5:bd:=mT 214 [] true [.one (.ints .u32),.one (.int .u32),.one (.int .i64)] [] (λa r=>IC (dh .u32 a 0) (ar a 1) (ar a 2)) (λX=>.bool X) (λX=>[])
theorem Qmq:bn pG Ze5:=oT (.cons Sc (.nil)) Tryz.func214 Tryz.call214 [] [] 2
def DI(m:List Int)(addr size:Int):Tree (Int×Bool):=
.an (Qdx m addr size) (.lv (uk m addr size) λ(x0:Bool)=>.br (!x0) (.lf (0,false)) (.cn (bX 1 1&&bN 0 1&&decide (0<=wrap u32 (eF addr 4)/\wrap u32 (eF addr 4)<(m.length:Int))) (.br (size==1) (.cn (decide (0<=wrap u32 (8*cZ addr 4))) (.lf (bb u32 (bc u32 (m.getD (dA (wrap u32 (eF addr 4))) 0) (wrap u32 (8*cZ addr 4))) 255,true))) (.lf (m.getD (dA (wrap u32 (eF addr 4))) 0,true)))))
def oL m addr size:=(DI m addr size).m
abbrev VC m addr size:=(DI m addr size).p
def Zmy:bd:=mT 159 [] true [.one (.ints .u32),.one (.int .u32),.one (.int .i64)] [] (λa r=>DI (dh .u32 a 0) (ar a 1) (ar a 2)) (λX=>.dw [.int .u32 (X.1),.bool (X.2)]) (λX=>[])
theorem Qr8:bn pG Zmy:=oT (.cons Qmq (.nil)) Tryz.func159 Tryz.call159 [] [] 2
def K0(w:Int):Tree (ib×Bool):=
.lv (oK (wrap i64 (bc u32 w 24))) λ(x0:Int)=>let E5:=({Op:=0,A:=0,B:=0,C:=0,cf:=0}:ib);.br (x0==0) (.lf (E5,false)) (.br (x0==2) (let E3:=({Op:=wrap i64 (bc u32 w 24),A:=wrap i64 (bb u32 (bc u32 w 20) 15),B:=wrap i64 (bb u32 (bc u32 w 16) 15),C:=wrap i64 (bb u32 w 65535),cf:=0}:ib);.lv (EG E3) λ(x1:Bool)=>.br (!x1) (.lf (E5,false)) (.lf (E3,true))) (let T1:Tree ((ib×Bool)):=let E2:=({Op:=wrap i64 (bc u32 w 24),A:=wrap i64 (bb u32 (bc u32 w 20) 15),B:=wrap i64 (bb u32 (bc u32 w 16) 15),C:=0,cf:=wrap i32 (wrap i16 (bb u32 w 65535))}:ib);.lv (EG E2) λ(x2:Bool)=>.br (!x2) (.lf (E5,false)) (.lf (E2,true));.br (x0==3) T1 (.br (x0==7) T1 (let E4:=({Op:=wrap i64 (bc u32 w 24),A:=wrap i64 (bb u32 (bc u32 w 20) 15),B:=wrap i64 (bb u32 (bc u32 w 16) 15),C:=0,cf:=wrap i32 (bb u32 w 65535)}:ib);.lv (EG E4) λ(x4:Bool)=>.br (!x4) (.lf (E5,false)) (.lf (E4,true))))))
def AU w:=(K0 w).m
def Zhe:bd:=mS 160 [] true [.one (.int .u32)] [] (λa r=>K0 (ar a 0)) (λX=>.dw [.agg (ib.cells (X.1)),.bool (X.2)]) (λX=>[])
theorem Quq:bn pG Zhe:=oS (.cons RQ (.cons Qym (.nil))) Tryz.func160 Tryz.call160 [] [] 2
def Z1o(access:Int):Tree Bool:=
.br (decide (access>=1)) (.lf (decide (access<=3))) (.lf false)
def N3 access:=(Z1o access).m
def Zj2:bd:=mS 212 [] true [.one (.int .i64)] [] (λa r=>Z1o (ar a 0)) (λX=>.bool X) (λX=>[])
theorem Qxe:bn pG Zj2:=oS (.nil) Tryz.func212 Tryz.call212 [] [] 2
def Z1l(c:bu):Tree Bool:=
.lf (bb u32 c.C3.a0 (5:Int)==(4:Int))
def Xr c:=(Z1l c).m
def Zm2:bd:=mS 213 [] true [.agg bu.sig] [] (λa r=>Z1l (bu.of (aC a 0))) (λX=>.bool X) (λX=>[])
theorem Zeo:bn pG Zm2:=oS (.nil) Tryz.func213 Tryz.call213 [] [] 2
def Lh(access:Int):Tree Int:=
.br (access==1) (.lf 4) (.br (access==3) (.lf 6) (.lf 5))
def Ca access:=(Lh access).m
def Zac:bd:=mS 215 [] true [.one (.int .i64)] [] (λa r=>Lh (ar a 0)) (λX=>.int .i64 X) (λX=>[])
theorem Qt7:bn pG Zac:=oS (.nil) Tryz.func215 Tryz.call215 [] [] 2
def GF(m:List Int)(root va access:Int):Tree rF:=
.lv (Ca access) λ(x0:Int)=>.lv (wq m) λ(x1:Int)=>.lv (N3 access) λ(x2:Bool)=>let E4:=({Addr:=0,G1:=0,G0:=x0}:rF);.br (!x2) (.lf (E4)) (.br (decide (va>=4096)) (.lf (E4)) (.br (decide (root>=wrap u32 x1)) (.lf (E4)) (let E6:=wrap u32 (root*128)+wrap u32 (4*wrap u32 (eF va 128));let E3:=eF (wrap u32 E6) 4;.cn (bX 1 1&&bN 0 1&&decide (0<=wrap u32 E3/\wrap u32 E3<(m.length:Int))) (let E5:=m.getD (dA (wrap u32 E3)) 0;.br (bb u32 E5 (1:Int)==(0:Int)) (.lf (E4)) (let T1:Tree (rF):=.br (decide (bb u32 (bc u32 E5 8) 255>=wrap u32 x1)) (.lf (E4)) (.lf ({Addr:=wrap u32 (wrap u32 (bb u32 (bc u32 E5 8) (255:Int)*(128:Int))+cZ va 128),G1:=wrap u32 E6,G0:=0}));let T2:Tree (rF):=.br (access==1) (.br (bb u32 E5 (4:Int)==(0:Int)) (.lf (E4)) T1) T1;.br (access==3) (.br (bb u32 E5 (2:Int)==(0:Int)) (.lf (E4)) T2) T2)))))
def Al m root va access:=(GF m root va access).m
abbrev Qyi m root va access:=(GF m root va access).p
def Zmb:bd:=mT 216 [] true [.one (.ints .u32),.one (.int .u32),.one (.int .u32),.one (.int .i64)] [] (λa r=>GF (dh .u32 a 0) (ar a 1) (ar a 2) (ar a 3)) (λX=>.agg (rF.cells X)) (λX=>[])
theorem Zhs:bn pG Zmb:=oT (.cons Qt7 (.cons Sc (.cons Qxe (.nil)))) Tryz.func216 Tryz.call216 [] [] 2
def Lb(m:List Int)(entry access:Int):Tree (List Int):=
.an (Qdx m entry 4) (.lv (uk m entry 4) λ(x0:Bool)=>.br (!x0) (.lf m) (let E3:=bX 1 1&&bN 0 1&&decide (0<=wrap u32 (eF entry 4)/\wrap u32 (eF entry 4)<(m.length:Int));.cn E3 (.cn E3 (let E4:=dA (wrap u32 (eF entry 4));let E1:=dB m E4 (iM u32 (m.getD E4 0) 8);.br (access==3) (let E2:=bX 1 1&&bN 0 1&&decide (0<=wrap u32 (eF entry 4)/\wrap u32 (eF entry 4)<(↑(dF E1):Int));.cn E2 (.cn E2 (.lf (dB E1 E4 (iM u32 (aV E1 E4 0) 16))))) (.lf E1)))))
def Tg m entry access:=(Lb m entry access).m
abbrev Qyh m entry access:=(Lb m entry access).p
def Zou:bd:=mT 217 [true,false,false] true [.one (.row 0),.one (.int .u32),.one (.int .i64)] [.arr 25 1 (.ints .u32)] (λa r=>Lb (cw .u32 r 0) (ar a 1) (ar a 2)) (λX=>.dw []) (λX=>[⟨false,25,1,.ints .u32 X⟩])
theorem Zk9:bn pG Zou:=oT (.cons Qmq (.nil)) Tryz.func217 Tryz.call217 [] [] 2
def IH(c:bu)(m:List Int)(va size access:Int):Tree (Int×Int×(List Int)):=
.lv (N3 access) λ(x0:Bool)=>.br (!x0) (.lf (0,5,m)) (let T1:Tree ((Int×Int×(List Int))):=.cn (decide (wrap u32 size≠0)) (.br (cZ va (wrap u32 size) !=0) (.lf (0,3,m)) (.lv (Xr c) λ(x1:Bool)=>.br (!x1) (.an (Qdx m va size) (.lv (uk m va size) λ(x2:Bool)=>.br (!x2) (.lv (Ca access) λ(x3:Int)=>.lf (0,x3,m)) (.lf (va,0,m)))) (.an (Qyi m c.C3.a6 va access) (.lv (Al m c.C3.a6 va access) λ(x4:rF)=>.br (x4.G0 !=0) (.lf (0,x4.G0,m)) (.an (Qyh m x4.G1 access) (.lv (Tg m x4.G1 access) λ(x5:List Int)=>.lf (x4.Addr,0,x5)))))));.br (size !=1) (.br (size !=4) (.lf (0,5,m)) T1) T1)
def lQ c m va size access:=(IH c m va size access).m
abbrev Se c m va size access:=(IH c m va size access).p
def Zhi:bd:=mT 158 [false,true,false,false,false] true [.agg bu.sig,.one (.row 0),.one (.int .u32),.one (.int .i64),.one (.int .i64)] [.arr 25 1 (.ints .u32)] (λa r=>IH (bu.of (aC a 0)) (cw .u32 r 0) (ar a 2) (ar a 3) (ar a 4)) (λX=>.dw [.int .u32 (X.1),.int .i64 (X.2.1)]) (λX=>[⟨false,25,1,.ints .u32 (X.2.2)⟩])
theorem Qx3:bn pG Zhi:=oT (.cons Qxe (.cons Zeo (.cons Qmq (.cons Qt7 (.cons Zhs (.cons Zk9 (.nil))))))) Tryz.func158 Tryz.call158 [] [] 2
def Qn(op:Int):Tree Bool:=
.br (decide (op>=57)) (.lf (decide (op<=64))) (.lf false)
def KW op:=(Qn op).m
def Z1j:bd:=mS 161 [] true [.one (.int .i64)] [] (λa r=>Qn (ar a 0)) (λX=>.bool X) (λX=>[])
theorem Qyn:bn pG Z1j:=oS (.nil) Tryz.func161 Tryz.call161 [] [] 2
def N9(c:bu):Tree bu:=
.lv (Cb (bb u32 c.C3.a0 (8:Int) !=(0:Int))) λ(x0:Int)=>.lv (Cb (bb u32 c.C3.a0 (16:Int) !=(0:Int))) λ(x1:Int)=>.lf ({X:=c.X,Pc:=c.C3.a2,C3:={a0:=iM u32 (iM u32 (oJ u32 c.C3.a0 3) (wrap u32 (1*x0))) (wrap u32 (2*x1)),a1:=c.C3.a1,a2:=c.C3.a2,a3:=c.C3.a3,a4:=c.C3.a4,a5:=c.C3.a5,a6:=c.C3.a6,a7:=c.C3.a7}})
def Th c:=(N9 c).m
def Zg6:bd:=mS 218 [] true [.agg bu.sig] [] (λa r=>N9 (bu.of (aC a 0))) (λX=>.agg (bu.cells X)) (λX=>[])
theorem Zaj:bn pG Zg6:=oS (.cons Qw4 (.nil)) Tryz.func218 Tryz.call218 [] [] 2
def IG(c:bu)(r v:Int):Tree bu:=
.br (decide (r>0)) (.br (decide (r<16)) (.cn (bN 0 1&&decide (0<=r/\r<(↑16:Int))) (.lf ({X:=ir.of 0 (dB (ir.l c.X) r.toNat v),Pc:=c.Pc,C3:=c.C3}))) (.lf c)) (.lf c)
def lF c r v:=(IG c r v).m
abbrev Dq c r v:=(IG c r v).p
def Zs4:bd:=mT 121 [] true [.agg bu.sig,.one (.int .i64),.one (.int .u32)] [] (λa r=>IG (bu.of (aC a 0)) (ar a 1) (ar a 2)) (λX=>.agg (bu.cells X)) (λX=>[])
theorem Sf:bn pG Zs4:=oT (.nil) Tryz.func121 Tryz.call121 [] [] 2
def Li(c:bu)(jr v:Int):Tree bu:=
let E4:=bN 0 1&&decide (0<=jr/\jr<(↑8:Int));let T2:Tree (bu):=.cn E4 (.lf ({X:=c.X,Pc:=c.Pc,C3:=A8.of 0 (dB (A8.l c.C3) jr.toNat (bb u32 v 31))}));.br (jr==0) T2 (.br (jr==7) T2 (.br (jr==6) (.cn E4 (.lf ({X:=c.X,Pc:=c.Pc,C3:=A8.of 0 (dB (A8.l c.C3) jr.toNat (bb u32 v 255))}))) (let T3:Tree (bu):=.cn E4 (.lf ({X:=c.X,Pc:=c.Pc,C3:=A8.of 0 (dB (A8.l c.C3) jr.toNat (oJ u32 v 3))}));.br (jr==1) T3 (.br (jr==2) T3 (let T1:Tree (bu):=.cn E4 (.lf ({X:=c.X,Pc:=c.Pc,C3:=A8.of 0 (dB (A8.l c.C3) jr.toNat v)}));.br (jr==3) T1 (.br (jr==4) T1 (.br (jr==5) T1 (.lf c))))))))
def Od c jr v:=(Li c jr v).m
abbrev Quv c jr v:=(Li c jr v).p
def Zlf:bd:=mT 219 [] true [.agg bu.sig,.one (.int .i64),.one (.int .u32)] [] (λa r=>Li (bu.of (aC a 0)) (ar a 1) (ar a 2)) (λX=>.agg (bu.cells X)) (λX=>[])
theorem Ze7:bn pG Zlf:=oT (.nil) Tryz.func219 Tryz.call219 [] [] 2
def Rn(c:bu)(i:ib):Tree (bu×ly):=
.br (i.Op==56) (.lv (pM c 7 0) λ(x0:bu)=>.lf (x0,{C2:=0,F0:=0,F9:=0,Value:=0})) (.br (i.Op==57) (.lv (Th c) λ(x1:bu)=>.lf (x1,{C2:=0,F0:=0,F9:=0,Value:=0})) (.br (i.Op==58) (.cn (bN 0 1&&decide (0<=i.cf/\i.cf<(↑8:Int))) (let E3:=aV (A8.l c.C3) i.cf.toNat 0;.an (Dq c i.A E3) (.lv (lF c i.A E3) λ(x2:bu)=>.lf ({X:=x2.X,Pc:=wrap u32 (x2.Pc+4),C3:=x2.C3},{C2:=0,F0:=0,F9:=0,Value:=0})))) (let E2:=bN 0 1&&decide (0<=i.A/\i.A<(↑16:Int));.br (i.Op==59) (.cn E2 (let E4:=aV (ir.l c.X) i.A.toNat 0;.an (Quv c (wrap i64 i.cf) E4) (.lv (Od c (wrap i64 i.cf) E4) λ(x3:bu)=>.lf ({X:=x3.X,Pc:=wrap u32 (x3.Pc+4),C3:=x3.C3},{C2:=0,F0:=0,F9:=0,Value:=0})))) (let E1:=({X:=c.X,Pc:=wrap u32 (c.Pc+4),C3:=c.C3}:bu);.br (i.Op==60) (.lf (E1,{C2:=1,F0:=wrap i64 i.cf,F9:=i.A,Value:=0})) (.br (i.Op==61) (.cn E2 (.lf (E1,{C2:=2,F0:=wrap i64 i.cf,F9:=0,Value:=aV (ir.l c.X) i.A.toNat 0}))) (.br (i.Op==62) (.lf (E1,{C2:=3,F0:=0,F9:=0,Value:=0})) (.br (i.Op==63) (.lf (E1,{C2:=5,F0:=0,F9:=0,Value:=0})) (.br (i.Op==64) (.lf (E1,{C2:=4,F0:=0,F9:=0,Value:=0})) (.lf (E1,{C2:=0,F0:=0,F9:=0,Value:=0}))))))))))
def Xv c i:=(Rn c i).m
abbrev Qr2 c i:=(Rn c i).p
def Zfw:bd:=mT 162 [] true [.agg bu.sig,.agg ib.sig] [] (λa r=>Rn (bu.of (aC a 0)) (ib.of (aC a 1))) (λX=>.dw [.agg (bu.cells (X.1)),.agg (ly.cells (X.2))]) (λX=>[])
theorem Zbe:bn pG Zfw:=oT (.cons VS (.cons Zaj (.cons Sf (.cons Ze7 (.nil))))) Tryz.func162 Tryz.call162 [] [] 2
def Z1k(op a b:Int):Tree Bool:=
.br (op==40) (.lf (a==b)) (.br (op==41) (.lf (a !=b)) (.br (op==42) (.lf (decide (wrap i32 a<wrap i32 b))) (.br (op==43) (.lf (decide (wrap i32 a>=wrap i32 b))) (.br (op==44) (.lf (decide (a<b))) (.lf (decide (a>=b)))))))
def re op a b:=(Z1k op a b).m
def Zjp:bd:=mS 220 [] true [.one (.int .i64),.one (.int .u32),.one (.int .u32)] [] (λa r=>Z1k (ar a 0) (ar a 1) (ar a 2)) (λX=>.bool X) (λX=>[])
theorem Zh0:bn pG Zjp:=oS (.nil) Tryz.func220 Tryz.call220 [] [] 2
def Ro(c:bu)(i:ib):Tree bu:=
.br (i.Op==48) (.an (Dq c i.A (wrap u32 (c.Pc+4))) (.lv (lF c i.A (wrap u32 (c.Pc+4))) λ(x0:bu)=>.lf ({X:=x0.X,Pc:=wrap u32 (c.Pc+wrap u32 (4*wrap u32 i.cf)),C3:=x0.C3}))) (let E1:=bN 0 1&&decide (0<=i.B/\i.B<(↑16:Int));.br (i.Op==49) (.cn E1 (.an (Dq c i.A (wrap u32 (c.Pc+4))) (.lv (lF c i.A (wrap u32 (c.Pc+4))) λ(x1:bu)=>.lf ({X:=x1.X,Pc:=wrap u32 (aV (ir.l c.X) i.B.toNat 0+wrap u32 i.cf),C3:=x1.C3})))) (.cn (bN 0 1&&decide (0<=i.A/\i.A<(↑16:Int))) (.cn E1 (.lv (re i.Op (aV (ir.l c.X) i.A.toNat 0) (aV (ir.l c.X) i.B.toNat 0)) λ(x2:Bool)=>.br x2 (.lf ({X:=c.X,Pc:=wrap u32 (c.Pc+wrap u32 (4*wrap u32 i.cf)),C3:=c.C3})) (.lf ({X:=c.X,Pc:=wrap u32 (c.Pc+4),C3:=c.C3}))))))
def Z6q c i:=(Ro c i).m
abbrev Qwq c i:=(Ro c i).p
def Zmn:bd:=mT 163 [] true [.agg bu.sig,.agg ib.sig] [] (λa r=>Ro (bu.of (aC a 0)) (ib.of (aC a 1))) (λX=>.agg (bu.cells X)) (λX=>[])
theorem Zm0:bn pG Zmn:=oT (.cons Sf (.cons Zh0 (.nil))) Tryz.func163 Tryz.call163 [] [] 2
def Rm(x n:Int):Tree Int:=
.br (decide (n<1)) (.lf 0) (.br (decide (n>=32)) (.lf x) (.cn (decide (0<=wrap u64 n)) (.cn (decide (0<=wrap u64 (wrap i64 (n-1)))) (let E1:=bb u32 x (wrap u32 (eu u32 1 (wrap u64 n)-1));.br (bc u32 E1 (wrap u64 (wrap i64 (n-1)))==1) (.cn (decide (0<=wrap u64 n)) (.lf (iM u32 E1 (eu u32 4294967295 (wrap u64 n))))) (.lf E1)))))
def Gz x n:=(Rm x n).m
abbrev Qcj x n:=(Rm x n).p
def Z04:bd:=mT 222 [] true [.one (.int .u32),.one (.int .i64)] [] (λa r=>Rm (ar a 0) (ar a 1)) (λX=>.int .u32 X) (λX=>[])
theorem Qyf:bn pG Z04:=oT (.nil) Tryz.func222 Tryz.call222 [] [] 2
def Rp(c:bu)(m:List Int)(i:ib):Tree (bu×(List Int)):=
.cn (bN 0 1&&decide (0<=i.B/\i.B<(↑16:Int))) (let E4:=wrap u32 (aV (ir.l c.X) i.B.toNat 0+wrap u32 i.cf);let E5:=aV (ir.l c.X) i.A.toNat 0;let E6:=bN 0 1&&decide (0<=i.A/\i.A<(↑16:Int));let E7:=({X:=c.X,Pc:=wrap u32 (c.Pc+4),C3:=c.C3}:bu);let T1:Tree ((bu×(List Int))):=let T3:Tree ((bu×(List Int))):=.an (Se c m E4 4 3) (.lv (lQ c m E4 4 3) λ(x0:Int×Int×List Int)=>.br (x0.2.1 !=0) (.lv (pM c x0.2.1 E4) λ(x1:bu)=>.lf (x1,x0.2.2)) (.cn E6 (.an (Qm6 x0.2.2 x0.1 4 E5) (.lv (IE x0.2.2 x0.1 4 E5) λ(x2:List Int)=>.lf (E7,x2)))));.br (i.Op==35) T3 (.br (i.Op==36) T3 (.an (Se c m E4 4 2) (.lv (lQ c m E4 4 2) λ(x6:Int×Int×List Int)=>.br (x6.2.1 !=0) (.lv (pM c x6.2.1 E4) λ(x7:bu)=>.lf (x7,x6.2.2)) (.an (VC x6.2.2 x6.1 4) (.lv (oL x6.2.2 x6.1 4) λ(x8:Int×Bool)=>.br (i.Op==33) (.an (Qcj x8.1 8) (.lv (Gz x8.1 8) λ(x9:Int)=>.an (Dq c i.A x9) (.lv (lF c i.A x9) λ(lJ:bu)=>.lf ({X:=lJ.X,Pc:=wrap u32 (lJ.Pc+4),C3:=lJ.C3},x6.2.2)))) (.an (Dq c i.A x8.1) (.lv (lF c i.A x8.1) λ(mb:bu)=>.lf ({X:=mb.X,Pc:=wrap u32 (mb.Pc+4),C3:=mb.C3},x6.2.2))))))));.br (i.Op==32) T1 (.br (i.Op==35) T1 (let T2:Tree ((bu×(List Int))):=.an (Se c m E4 1 3) (.lv (lQ c m E4 1 3) λ(Ec:Int×Int×List Int)=>.br (Ec.2.1 !=0) (.lv (pM c Ec.2.1 E4) λ(x25:bu)=>.lf (x25,Ec.2.2)) (.cn E6 (.an (Qm6 Ec.2.2 Ec.1 1 E5) (.lv (IE Ec.2.2 Ec.1 1 E5) λ(x26:List Int)=>.lf (E7,x26)))));.br (i.Op==35) T2 (.br (i.Op==36) T2 (.an (Se c m E4 1 2) (.lv (lQ c m E4 1 2) λ(FO:Int×Int×List Int)=>.br (FO.2.1 !=0) (.lv (pM c FO.2.1 E4) λ(x31:bu)=>.lf (x31,FO.2.2)) (.an (VC FO.2.2 FO.1 1) (.lv (oL FO.2.2 FO.1 1) λ(VT:Int×Bool)=>.br (i.Op==33) (.an (Qcj VT.1 8) (.lv (Gz VT.1 8) λ(x33:Int)=>.an (Dq c i.A x33) (.lv (lF c i.A x33) λ(x34:bu)=>.lf ({X:=x34.X,Pc:=wrap u32 (x34.Pc+4),C3:=x34.C3},FO.2.2)))) (.an (Dq c i.A VT.1) (.lv (lF c i.A VT.1) λ(x35:bu)=>.lf ({X:=x35.X,Pc:=wrap u32 (x35.Pc+4),C3:=x35.C3},FO.2.2)))))))))))
def GG c m i:=(Rp c m i).m
abbrev Qna c m i:=(Rp c m i).p
def Z70:bd:=mT 164 [false,true,false] true [.agg bu.sig,.one (.row 0),.agg ib.sig] [.arr 25 1 (.ints .u32)] (λa r=>Rp (bu.of (aC a 0)) (cw .u32 r 0) (ib.of (aC a 2))) (λX=>.agg (bu.cells (X.1))) (λX=>[⟨false,25,1,.ints .u32 (X.2)⟩])
theorem Z3b:bn pG Z70:=oT (.cons Qx3 (.cons VS (.cons Z6t (.cons Qr8 (.cons Qyf (.cons Sf (.nil))))))) Tryz.func164 Tryz.call164 [] [] 2
def Z28(op:Int):Tree Int:=
.br (op==16) (.lf 1) (.br (op==17) (.lf 3) (.br (op==18) (.lf 4) (.br (op==19) (.lf 5) (.br (op==20) (.lf 6) (.br (op==21) (.lf 7) (.br (op==22) (.lf 8) (.br (op==23) (.lf 12) (.lf op))))))))
def Zcj op:=(Z28 op).m
def Zhm:bd:=mS 223 [] true [.one (.int .i64)] [] (λa r=>Z28 (ar a 0)) (λX=>.int .i64 X) (λX=>[])
theorem Zgo:bn pG Zhm:=oS (.nil) Tryz.func223 Tryz.call223 [] [] 2
def Lg(a b:Int):Tree (Int×Int):=
.br (b==0) (.lf (4294967295,a)) (.cn (decide (wrap i64 (wrap i32 b)≠0)) (.cn (decide (wrap i64 (wrap i32 b)≠0)) (.lf (wrap u32 (wrap i64 (eF (wrap i64 (wrap i32 a)) (wrap i64 (wrap i32 b)))),wrap u32 (cZ (wrap i64 (wrap i32 a)) (wrap i64 (wrap i32 b)))))))
def Ld a b:=(Lg a b).m
abbrev Qkn a b:=(Lg a b).p
def Zgk:bd:=mT 224 [] true [.one (.int .u32),.one (.int .u32)] [] (λa r=>Lg (ar a 0) (ar a 1)) (λX=>.dw [.int .u32 (X.1),.int .u32 (X.2)]) (λX=>[])
theorem Z9c:bn pG Zgk:=oT (.nil) Tryz.func224 Tryz.call224 [] [] 2
def Rl(op a b:Int):Tree (Int×Bool):=
.lv (Zcj op) λ(x0:Int)=>.br (x0==1) (.lf (wrap u32 (a+b),true)) (.br (x0==2) (.lf (wrap u32 (a-b),true)) (.br (x0==3) (.lf (bb u32 a b,true)) (.br (x0==4) (.lf (iM u32 a b,true)) (.br (x0==5) (.lf (rD u32 a b,true)) (.br (x0==6) (.lf (eu u32 a (bb u32 b 31),true)) (.br (x0==7) (.lf (bc u32 a (bb u32 b 31),true)) (.br (x0==8) (.lf (wrap u32 (bc i32 (wrap i32 a) (bb u32 b 31)),true)) (.br (x0==9) (.lf (wrap u32 (a*b),true)) (.br (x0==10) (.an (Qkn a b) (.lv (Ld a b) λ(x1:Int×Int)=>.lf (x1.1,true))) (.br (x0==11) (.an (Qkn a b) (.lv (Ld a b) λ(x2:Int×Int)=>.lf (x2.2,true))) (.br (x0==12) (.lv (Cb (decide (wrap i32 a<wrap i32 b))) λ(x3:Int)=>.lf (x3,true)) (.br (x0==13) (.lv (Cb (decide (a<b))) λ(x4:Int)=>.lf (x4,true)) (.lf (0,false))))))))))))))
def DJ op a b:=(Rl op a b).m
abbrev Qrf op a b:=(Rl op a b).p
def Zte:bd:=mT 165 [] true [.one (.int .i64),.one (.int .u32),.one (.int .u32)] [] (λa r=>Rl (ar a 0) (ar a 1) (ar a 2)) (λX=>.dw [.int .u32 (X.1),.bool (X.2)]) (λX=>[])
theorem Zo0:bn pG Zte:=oT (.cons Zgo (.cons Z9c (.cons Qw4 (.nil)))) Tryz.func165 Tryz.call165 [] [] 2
def Rq(c:bu)(m:List Int):Tree (bu×ly×(List Int)):=
.an (Se c m c.Pc 4 1) (.lv (lQ c m c.Pc 4 1) λ(x0:Int×Int×List Int)=>.br (x0.2.1 !=0) (.lv (pM c x0.2.1 c.Pc) λ(x1:bu)=>.lf (x1,{C2:=0,F0:=0,F9:=0,Value:=0},x0.2.2)) (.an (VC x0.2.2 x0.1 4) (.lv (oL x0.2.2 x0.1 4) λ(x2:Int×Bool)=>.lv (AU x2.1) λ(x3:ib×Bool)=>.br (!x3.2) (.lv (pM c 1 x2.1) λ(x4:bu)=>.lf (x4,{C2:=0,F0:=0,F9:=0,Value:=0},x0.2.2)) (.lv (KW x3.1.Op) λ(x5:Bool)=>let T1:Tree ((bu×ly×(List Int))):=.br (decide (x3.1.Op>=56)) (.an (Qr2 c x3.1) (.lv (Xv c x3.1) λ(x7:bu×ly)=>.lf (x7.1,x7.2,x0.2.2))) (.br (decide (x3.1.Op>=40)) (.an (Qwq c x3.1) (.lv (Z6q c x3.1) λ(x8:bu)=>.lf (x8,{C2:=0,F0:=0,F9:=0,Value:=0},x0.2.2))) (.br (decide (x3.1.Op>=32)) (.an (Qna c x0.2.2 x3.1) (.lv (GG c x0.2.2 x3.1) λ(x9:bu×List Int)=>.lf (x9.1,{C2:=0,F0:=0,F9:=0,Value:=0},x9.2))) (.br (x3.1.Op==24) (.an (Dq c x3.1.A (eu u32 (wrap u32 x3.1.cf) 16)) (.lv (lF c x3.1.A (eu u32 (wrap u32 x3.1.cf) 16)) λ(lJ:bu)=>.lf ({X:=lJ.X,Pc:=wrap u32 (lJ.Pc+4),C3:=lJ.C3},{C2:=0,F0:=0,F9:=0,Value:=0},x0.2.2))) (let E2:=aV (ir.l c.X) x3.1.B.toNat 0;let E3:=bN 0 1&&decide (0<=x3.1.B/\x3.1.B<(↑16:Int));.br (decide (x3.1.Op<=13)) (.cn (bN 0 1&&decide (0<=x3.1.C/\x3.1.C<(↑16:Int))) (.cn E3 (let E4:=aV (ir.l c.X) x3.1.C.toNat 0;.an (Qrf x3.1.Op E2 E4) (.lv (DJ x3.1.Op E2 E4) λ(mb:Int×Bool)=>.an (Dq c x3.1.A mb.1) (.lv (lF c x3.1.A mb.1) λ(oR:bu)=>.lf ({X:=oR.X,Pc:=wrap u32 (oR.Pc+4),C3:=oR.C3},{C2:=0,F0:=0,F9:=0,Value:=0},x0.2.2)))))) (.cn E3 (.an (Qrf x3.1.Op E2 (wrap u32 x3.1.cf)) (.lv (DJ x3.1.Op E2 (wrap u32 x3.1.cf)) λ(uO:Int×Bool)=>.an (Dq c x3.1.A uO.1) (.lv (lF c x3.1.A uO.1) λ(AH:bu)=>.lf ({X:=AH.X,Pc:=wrap u32 (AH.Pc+4),C3:=AH.C3},{C2:=0,F0:=0,F9:=0,Value:=0},x0.2.2)))))))));.br x5 (.br (bb u32 c.C3.a0 (1:Int)==(0:Int)) (.lv (pM c 2 x2.1) λ(x6:bu)=>.lf (x6,{C2:=0,F0:=0,F9:=0,Value:=0},x0.2.2)) T1) T1))))
def AW c m:=(Rq c m).m
abbrev Z6b c m:=(Rq c m).p
def xE:bd:=mT 119 [false,true] true [.agg bu.sig,.one (.row 0)] [.arr 25 1 (.ints .u32)] (λa r=>Rq (bu.of (aC a 0)) (cw .u32 r 0)) (λX=>.dw [.agg (bu.cells (X.1)),.agg (ly.cells (X.2.1))]) (λX=>[⟨false,25,1,.ints .u32 (X.2.2)⟩])
theorem Zrj:bn pG xE:=oT (.cons Qx3 (.cons VS (.cons Qr8 (.cons Quq (.cons Qyn (.cons Zbe (.cons Zm0 (.cons Z3b (.cons Sf (.cons Zo0 (.nil))))))))))) Tryz.func119 Tryz.call119 [] [] 2
end
noncomputable section
def Oj(m:List Int)(frame:Int):Tree Bool:=
.lv (wq m) λ(x0:Int)=>.lf (decide (wrap u64 frame<wrap u64 x0))
def tB m frame:=(Oj m frame).m
def Zoz:bd:=mS 226 [] true [.one (.ints .u32),.one (.int .u32)] [] (λa r=>Oj (dh .u32 a 0) (ar a 1)) (λX=>.bool X) (λX=>[])
theorem R3:bn pG Zoz:=oS (.cons Sc (.nil)) Tryz.func226 Tryz.call226 [] [] 2
def Qez(m:bg)(z:(Int)):Nat:=(32-z).toNat
def LA(m:bg):Tree bu:=
.an (Qhw m) (.lv (AZ m) λ(x0:Int)=>.br (bb u32 m.B2.C3.a0 (2:Int)==(0:Int)) (.lf m.B2) (.br (x0==0) (.lf m.B2) (.lp inferInstance (Qez m 0+1) ((rZ/\rZ/\rE (x0:Int)/\rE (0:Int)/\True)/\(mE m (((ai.Nil (ai.ints u32 m.Mem)\/rE (1:Nat))/\rE m.Mem)) True)/\(rE (0:Int)/\rE (0:Int)/\rE (0:Int)/\rE (0:Int)/\rE (0:Int)/\rE (0:Int)/\rE (0:Int)/\rE (0:Int)/\rE (0:Int)/\rE (0:Int)/\rE (0:Int)/\rE (0:Int)/\rE (0:Int)/\rE (0:Int)/\rE (0:Int)/\rE (0:Int)/\rE (0:Int)/\rE (0:Int)/\rE (0:Int)/\rE (0:Int)/\rE (0:Int)/\rE (0:Int)/\rE (0:Int)/\rE (0:Int)/\rE (0:Int)/\True)/\True) 0 λ(v0:Int)=>.cn (decide (0<=wrap u64 v0)) (.br (bb u32 (bc u32 x0 (wrap u64 v0)) (1:Int)==(0:Int)) (.nx ((rZ/\rZ/\rE (x0:Int)/\rE ((wrap i64 (v0+1)):Int)/\True)/\(mE m (((ai.Nil (ai.ints u32 m.Mem)\/rE (1:Nat))/\rE m.Mem)) True)/\(rE (0:Int)/\rE (0:Int)/\rE (0:Int)/\rE (0:Int)/\rE (0:Int)/\rE (0:Int)/\rE (0:Int)/\rE (0:Int)/\rE (0:Int)/\rE (0:Int)/\rE (0:Int)/\rE (0:Int)/\rE (0:Int)/\rE (0:Int)/\rE (0:Int)/\rE (0:Int)/\rE (0:Int)/\rE (0:Int)/\rE (0:Int)/\rE (0:Int)/\rE (0:Int)/\rE (0:Int)/\rE (0:Int)/\rE (0:Int)/\rE (0:Int)/\True)/\True) (Sum.inl (wrap i64 (v0+1)))) (.lv (pM m.B2 (wrap i64 (16+v0)) 0) λ(x1:bu)=>.lf (Sum.inr x1))))))
def rh m:=(LA m).m
abbrev Qbf m:=(LA m).p
def Qvk:cg:={
 α:=(Int)
 F:=λst a=>([(1,.ptr 0 0 0),(2,.ptr 1 0 0),(3,(lk st 3)),(4,.int i64 a)],[⟨true,43,49,.gen [mB (cT st 1)]⟩,⟨true,29,25,.gen [[(cT st 2 0),(cT st 2 1),(cT st 2 2),(cT st 2 3),(cT st 2 4),(cT st 2 5),(cT st 2 6),(cT st 2 7),(cT st 2 8),(cT st 2 9),(cT st 2 10),(cT st 2 11),(cT st 2 12),(cT st 2 13),(cT st 2 14),(cT st 2 15),(cT st 2 16),(cT st 2 17),(cT st 2 18),(cT st 2 19),(cT st 2 20),(cT st 2 21),(cT st 2 22),(cT st 2 23),(cT st 2 24)]]⟩])
 a0:=λst=>(lk st 4).toInt
 jb:=λst=>[]++[(rX st 1 0),(rX st 2 1)]}
def Qrn:List (Nat×cg):=[(5,Qvk)]
def Qxb:bd:=mT 118 [] true [.agg bg.sig] [] (λa r=>LA (bg.of (aC a 0))) (λX=>.agg (bu.cells X)) (λX=>[])
theorem Qjs:bn pG Qxb:=oT (.cons Qs7 (.cons VS (.nil))) Tryz.func118 Tryz.call118 [] Qrn 3
def GI(c:iH)(port:Int):Tree (iH×Int):=
let T1:Tree ((iH×Int)):=.br (port==0) (.cn (decide ((0:Int)<=(1:Int)/\1<=(c.E0.length:Int)/\(c.E0.length:Int)<=(c.E0.length:Int))) (.cn (decide ((0:Int)<=(0:Int)/\0<(c.E0.length:Int))) (.lf ({E0:=cU (dA (c.E0.length:Int)-dA 1) (cV (dA 1) c.E0)},wrap u32 (↑(UInt8.toNat (c.E0.getD (dA 0) (0:UInt8))):Int))))) (.br (port==1) (.lf (c,wrap u32 (c.E0.length:Int))) (.lf (c,0)));.br (port==0) (.br ((c.E0.length:Int)==(0:Int)) (.lf (c,4294967295)) T1) T1
def Ll c port:=(GI c port).m
theorem Qx9(c:iH)(port:Int):(GI c port).p:=by
 unfold Tree.p GI
 repeat'(first|exact trivial|refine ab (λ_=>?_) (λ_=>?_)|refine ax ?_ ?_|refine c6 ?_ ?_|refine aq (λ_ _=>?_)|refine ei ?_|refine bj ?_|refine And.intro ?_ ?_)
 all_goals(exact nL)
def Z42:bd:=mS 166 [] true [.agg iH.sig,.one (.int .i64)] [] (λa r=>GI (iH.of (aC a 0)) (ar a 1)) (λX=>.dw [.agg (iH.cells (X.1)),.int .u32 (X.2)]) (λX=>[])
theorem Qz2:bn pG Z42:=oS (.nil) Tryz.func166 Tryz.call166 [] [] 2 (λ_ _ _=>by kernel_rfl) (λa r=>Qx9 (iH.of (aC a 0)) (ar a 1)) (λ_ X=>by kernel_rfl)
def Vf(t:iV):Tree Int:=
.br t.D9 (.lf 1) (.lf 0)
def XY t:=(Vf t).m
def Z9n:bd:=mS 167 [] true [.agg iV.sig] [] (λa r=>Vf (iV.of (aC a 0))) (λX=>.int .u32 X) (λX=>[])
theorem Z76:bn pG Z9n:=oS (.nil) Tryz.func167 Tryz.call167 [] [] 2
def Ve(d0:fv)(port:Int):Tree Int:=
.br (port==4) (.lf d0.C8) (.br (port==5) (.lf d0.Frame) (.br (port==6) (.lf (wrap u32 d0.C9)) (.lf 0)))
def XX d0 port:=(Ve d0 port).m
def Zh4:bd:=mS 168 [] true [.agg fv.sig,.one (.int .i64)] [] (λa r=>Ve (fv.of (aC a 0)) (ar a 1)) (λX=>.int .u32 X) (λX=>[])
theorem Zat:bn pG Zh4:=oS (.nil) Tryz.func168 Tryz.call168 [] [] 2
def Oi(n:gz)(port:Int):Tree Int:=
.br (port==7) (.lf n.Frame) (.br (port==8) (.lf n.F8) (.br (port==9) (.br n.D2 (.br n.C4 (.lf (wrap u32 ((1:Int)+(2:Int)))) (.lf 1)) (.br n.C4 (.lf (wrap u32 ((0:Int)+(2:Int)))) (.lf 0))) (.lf 0)))
def To n port:=(Oi n port).m
def Zip:bd:=mS 169 [] true [.agg gz.sig,.one (.int .i64)] [] (λa r=>Oi (gz.of (aC a 0)) (ar a 1)) (λX=>.int .u32 X) (λX=>[])
theorem Zg3:bn pG Zip:=oS (.nil) Tryz.func169 Tryz.call169 [] [] 2
def Lq(b:gm)(port:Int):Tree Int:=
.br (port==10) (.lf b.A2) (.br (port==11) (.lv (Lk b) λ(x0:Int)=>.lf (wrap u32 x0)) (.lf 0))
def Lp b port:=(Lq b port).m
def Z3d:bd:=mS 170 [] true [.agg gm.sig,.one (.int .i64)] [] (λa r=>Lq (gm.of (aC a 0)) (ar a 1)) (λX=>.int .u32 X) (λX=>[])
theorem Qzz:bn pG Z3d:=oS (.cons Qxy (.nil)) Tryz.func170 Tryz.call170 [] [] 2
def Nk(m:bg)(port clock:Int):Tree (Int×bg):=
.br (decide (port<=1)) (.lv (Ll m.B3 port) λ(x0:iH×Int)=>.lf (x0.2,{B2:=m.B2,Mem:=m.Mem,B3:=x0.1,B9:=m.B9,B5:=m.B5,D1:=m.D1,A6:=m.A6,B7:=m.B7,B4:=m.B4,B6:=m.B6})) (.br (port==2) (.lf (clock,m)) (.br (port==3) (.lv (XY m.B9) λ(x1:Int)=>.lf (x1,m)) (.br (decide (port<=6)) (.lv (XX m.B5 port) λ(x2:Int)=>.lf (x2,m)) (.br (decide (port<=9)) (.lv (To m.D1 port) λ(x3:Int)=>.lf (x3,m)) (.lv (Lp m.A6 port) λ(x4:Int)=>.lf (x4,m))))))
def DM m port clock:=(Nk m port clock).m
def zE:bd:=mS 120 [true,false,false] true [.ptr 0,.one (.int .i64),.one (.int .u32)] [.box 43 49 (bg.ik (.row 1)),.arr 25 1 (.ints .u32)] (λa r=>Nk (bg.iE (r.getD 0 default).cs (cw .u32 r 1)) (ar a 1) (ar a 2)) (λX=>.int .u32 (X.1)) (λX=>[⟨true,43,49,.gen [(bg.cj (X.2) (.all 1))]⟩,⟨false,25,1,.ints .u32 (X.2).Mem⟩])
theorem Zto:bn pG zE:=oS (.cons Qz2 (.cons Z76 (.cons Zat (.cons Zg3 (.cons Qzz (.nil)))))) Tryz.func120 Tryz.call120 [.row 25 1 (.ints .u32)] [] 2
def XD(deadline:Int):Tree iV:=
.br (deadline==0) (.lf ({F1:=false,D3:=0,D9:=false})) (.lf ({F1:=true,D3:=deadline,D9:=false}))
def XC deadline:=(XD deadline).m
def Zrh:bd:=mS 171 [] true [.one (.int .u32)] [] (λa r=>XD (ar a 0)) (λX=>.agg (iV.cells X)) (λX=>[])
theorem Zon:bn pG Zrh:=oS (.nil) Tryz.func171 Tryz.call171 [] [] 2
def Qy4(x n:Int)(z:(Int)×(List Int)):Prop:=0<=z.1/\(z.2.length:Int)=z.1/\(z.1<=n\/z.1=0)
def Vd(x n:Int)(z:(Int)×(List Int)):Nat:=(n-z.1).toNat
def Mr(x n:Int):Tree (List UInt8):=
.lp inferInstance (Vd x n (0,[])+1) ((rE (x:Int)/\rE (n:Int)/\True/\rE (0:Int)/\True)/\rE ([]:List Int)/\True) (0,[]) λ(v0:Int×List Int)=>.br (decide (v0.1<n)) (.cn (decide (0<=wrap u64 (wrap i64 (8*v0.1)))) (.cn (decide (1*(v0.2.length+1)<=140737488355328)) (.nx ((rE (x:Int)/\rE (n:Int)/\True/\rE ((wrap i64 (v0.1+1)):Int)/\True)/\rE ((v0.2++[wrap u8 (bc u32 x (wrap u64 (wrap i64 (8*v0.1))))]):List Int)/\True) (Sum.inl (wrap i64 (v0.1+1),v0.2++[wrap u8 (bc u32 x (wrap u64 (wrap i64 (8*v0.1))))]))))) (.lf (Sum.inr (bytesOf v0.2)))
def Xj x n:=(Mr x n).m
def VU(x n:Int):Prop:=
n<=1000000000000
theorem Zly(x n:Int)(hw:VU x n):(Mr x n).p:=by
 simp only[VU]at hw
 unfold Tree.p Mr
 repeat'(first|refine fj (inv:=Qy4 x n) (μ:=Vd x n) ?_ (cN _) (λ_ _=>?_)|exact trivial|refine ab (λ_=>?_) (λ_=>?_)|refine ax ?_ ?_|refine c6 ?_ ?_|refine aq (λ_ _=>?_)|refine ei ?_|refine bj ?_|refine And.intro ?_ ?_)
 all_goals((try simp only[Qy4,Vd]at*);exact nL)
def Zo6:cg:={
 α:=(Int)×(List Int)
 F:=λst a=>([(0,(lk st 0)),(1,(lk st 1)),(5,.all 0),(6,.int i64 a.1)],[⟨false,5,1,.ints u8 a.2⟩])
 a0:=λst=>((lk st 6).toInt,(nC st.rows (rN st 5)))
 jb:=λst=>[]++[(rX st 5 0)]}
def Zh6:List (Nat×cg):=[(3,Zo6)]
def Zs6:bd:=kU 206 [] true [.one (.int .u32),.one (.int .i64)] [] (λa r=>VU (ar a 0) (ar a 1)) (λa r=>Xj (ar a 0) (ar a 1)) (λX=>.str X) (λX=>[])
theorem Zne:bn pG Zs6:=tG drawn jz (.nil) Tryz.func206 Tryz.call206 (λa r=>Mr (ar a 0) (ar a 1)) [] Zh6 3 (hp:=λa r h=>Zly (ar a 0) (ar a 1) h)
def Xk(m:List Int)(frame:Int)(z:(Int)×(List Int)):Nat:=(32-z.1).toNat
def GC(m:List Int)(frame:Int):Tree ((List UInt8)×Bool):=
.br (decide (frame<0)) (.lf ([],false)) (.lv (wq m) λ(x0:Int)=>.br (decide (frame>=x0)) (.lf ([],false)) (.lp inferInstance (Xk m frame (0,[])+1) ((((ai.Nil (ai.ints u32 m)\/rE (1:Nat))/\rE (m:List Int))/\rE (frame:Int)/\True/\rE (0:Int)/\True)/\rE ([]:List Int)/\True) (0,[]) λ(v0:Int×List Int)=>.br (decide (v0.1<32)) (.cn (bX 1 1&&bN 0 1&&decide (0<=wrap i64 (wrap i64 (frame*32)+v0.1)/\wrap i64 (wrap i64 (frame*32)+v0.1)<(m.length:Int))) (let E1:=m.getD (dA (wrap i64 (wrap i64 (frame*32)+v0.1))) 0;.an (VU E1 4) (.lv (Xj E1 4) λ(x1:List UInt8)=>.cn (decide (1*(v0.2.length+dF (o8 x1))<=140737488355328)) (.nx ((((ai.Nil (ai.ints u32 m)\/rE (1:Nat))/\rE (m:List Int))/\rE (frame:Int)/\True/\rE ((wrap i64 (v0.1+1)):Int)/\True)/\rE ((v0.2++o8 x1):List Int)/\True) (Sum.inl (wrap i64 (v0.1+1),v0.2++o8 x1)))))) (.lf (Sum.inr (bytesOf v0.2,true)))))
def K1 m frame:=(GC m frame).m
abbrev Qik m frame:=(GC m frame).p
def Zi6:cg:={
 α:=(Int)×(List Int)
 F:=λst a=>([(0,(lk st 0)),(1,(lk st 1)),(6,.all 0),(7,.int i64 a.1)],[⟨false,5,1,.ints u8 a.2⟩])
 a0:=λst=>((lk st 7).toInt,(nC st.rows (rN st 6)))
 jb:=λst=>[]++[(rX st 6 0)]}
def Zb8:List (Nat×cg):=[(5,Zi6)]
def Zoq:bd:=mT 149 [] true [.one (.ints .u32),.one (.int .i64)] [] (λa r=>GC (dh .u32 a 0) (ar a 1)) (λX=>.dw [.str (X.1),.bool (X.2)]) (λX=>[])
theorem Z27:bn pG Zoq:=oT (.cons Sc (.cons Zne (.nil))) Tryz.func149 Tryz.call149 [] Zb8 3
def Qv1(d0:fv)(gk:Int):Tree (iq×Bool):=
.br (d0.C9 !=1) (.lf ({C2:=0,At:=0,C8:=0,F2:=[]},false)) (.br (d0.F6==1) (.lf ({C2:=3,At:=gk,C8:=d0.C5,F2:=[]},true)) (.br (d0.F6==2) (.lf ({C2:=4,At:=gk,C8:=d0.C5,F2:=d0.C7},true)) (.lf ({C2:=0,At:=0,C8:=0,F2:=[]},false))))
def XH d0 gk:=(Qv1 d0 gk).m
def Z9u:bd:=mS 227 [] true [.agg fv.sig,.one (.int .u64)] [] (λa r=>Qv1 (fv.of (aC a 0)) (ar a 1)) (λX=>.dw [.agg (iq.cells (X.1)),.bool (X.2)]) (λX=>[])
theorem Z6r:bn pG Z9u:=oS (.nil) Tryz.func227 Tryz.call227 [] [] 2
def Lm(d0:fv)(m:List Int)(port v gk:Int):Tree (fv×(List iq)):=
.br (port==4) (.lf ({ae:=d0.ae,C8:=v,Frame:=d0.Frame,C9:=d0.C9,F6:=d0.F6,C5:=d0.C5,C6:=d0.C6,C7:=d0.C7},[])) (.br (port==5) (.lf ({ae:=d0.ae,C8:=d0.C8,Frame:=v,C9:=d0.C9,F6:=d0.F6,C5:=d0.C5,C6:=d0.C6,C7:=d0.C7},[])) (.br (port !=6) (.lf (d0,[])) (let T1:Tree ((fv×(List iq))):=.br (d0.C9==0) (let T2:Tree ((fv×(List iq))):=.lf ({ae:=d0.ae,C8:=d0.C8,Frame:=d0.Frame,C9:=3,F6:=d0.F6,C5:=d0.C5,C6:=d0.C6,C7:=d0.C7},[]);.br (decide (d0.C8>=d0.ae)) T2 (.lv (tB m d0.Frame) λ(x0:Bool)=>.br (!x0) T2 (.br (v==2) (.an (Qik m (wrap i64 d0.Frame)) (.lv (K1 m (wrap i64 d0.Frame)) λ(x1:List UInt8×Bool)=>.lv (XH {ae:=d0.ae,C8:=d0.C8,Frame:=d0.Frame,C9:=1,F6:=wrap i64 v,C5:=d0.C8,C6:=d0.Frame,C7:=x1.1} gk) λ(x2:iq×Bool)=>.lf ({ae:=d0.ae,C8:=d0.C8,Frame:=d0.Frame,C9:=1,F6:=wrap i64 v,C5:=d0.C8,C6:=d0.Frame,C7:=x1.1},[x2.1]))) (.lv (XH {ae:=d0.ae,C8:=d0.C8,Frame:=d0.Frame,C9:=1,F6:=wrap i64 v,C5:=d0.C8,C6:=d0.Frame,C7:=[]} gk) λ(x3:iq×Bool)=>.lf ({ae:=d0.ae,C8:=d0.C8,Frame:=d0.Frame,C9:=1,F6:=wrap i64 v,C5:=d0.C8,C6:=d0.Frame,C7:=[]},[x3.1]))))) (.lf (d0,[]));.br (v==0) (let T3:Tree ((fv×(List iq))):=.lf ({ae:=d0.ae,C8:=d0.C8,Frame:=d0.Frame,C9:=0,F6:=d0.F6,C5:=d0.C5,C6:=d0.C6,C7:=d0.C7},[]);.br (d0.C9==2) T3 (.br (d0.C9==3) T3 (.br (v==1) T1 (.br (v==2) T1 (.lf (d0,[])))))) (.br (v==1) T1 (.br (v==2) T1 (.lf (d0,[])))))))
def XF d0 m port v gk:=(Lm d0 m port v gk).m
abbrev Qpv d0 m port v gk:=(Lm d0 m port v gk).p
def Z9w:bd:=mT 172 [] true [.agg fv.sig,.one (.ints .u32),.one (.int .i64),.one (.int .u32),.one (.int .u64)] [] (λa r=>Lm (fv.of (aC a 0)) (dh .u32 a 1) (ar a 2) (ar a 3) (ar a 4)) (λX=>.dw [.agg (fv.cells (X.1)),.sl 4 (.ah .bw (X.2)) true]) (λX=>[])
theorem Z8p:bn pG Z9w:=oT (.cons R3 (.cons Z27 (.cons Z6r (.nil)))) Tryz.func172 Tryz.call172 [.sl (.ah .bw) true] [] 2
def Ln(n:gz)(m:List Int)(port v gk:Int):Tree (gz×(List iq)):=
.br (port==7) (.lf ({Frame:=v,F7:=n.F7,D2:=n.D2,D4:=n.D4,C4:=n.C4,F8:=n.F8},[])) (.br (port==8) (.lf ({Frame:=n.Frame,F7:=v,D2:=n.D2,D4:=n.D4,C4:=n.C4,F8:=n.F8},[])) (.br (port !=9) (.lf (n,[])) (.br (v==0) (.lf ({Frame:=n.Frame,F7:=n.F7,D2:=n.D2,D4:=n.D4,C4:=false,F8:=0},[])) (let T1:Tree ((gz×(List iq))):=.br (v==2) (.lv (tB m n.Frame) λ(x2:Bool)=>.br x2 (.br (!n.D2) (.br (!n.C4) (.lf ({Frame:=n.Frame,F7:=n.F7,D2:=true,D4:=n.Frame,C4:=n.C4,F8:=n.F8},[])) (.lf (n,[]))) (.lf (n,[]))) (.lf (n,[]))) (.lf (n,[]));.br (v==1) (.br (decide (n.F7>=1)) (.br (decide (n.F7<=128)) (.lv (tB m n.Frame) λ(x0:Bool)=>.br x0 (.an (Qik m (wrap i64 n.Frame)) (.lv (K1 m (wrap i64 n.Frame)) λ(x1:List UInt8×Bool)=>.cn (decide ((0:Int)<=(0:Int)/\0<=n.F7/\n.F7<=(x1.1.length:Int))) (.lf (n,[{C2:=2,At:=gk,C8:=0,F2:=cU (dA n.F7-dA 0) (cV (dA 0) x1.1)}])))) T1) T1) T1) T1))))
def XJ n m port v gk:=(Ln n m port v gk).m
abbrev Qs9 n m port v gk:=(Ln n m port v gk).p
def Zds:bd:=mT 173 [] true [.agg gz.sig,.one (.ints .u32),.one (.int .i64),.one (.int .u32),.one (.int .u64)] [] (λa r=>Ln (gz.of (aC a 0)) (dh .u32 a 1) (ar a 2) (ar a 3) (ar a 4)) (λX=>.dw [.agg (gz.cells (X.1)),.sl 4 (.ah .bw (X.2)) true]) (λX=>[])
theorem Za2:bn pG Zds:=oT (.cons R3 (.cons Z27 (.nil))) Tryz.func173 Tryz.call173 [.sl (.ah .bw) true] [] 2
def XN(b:gm)(m:List Int)(port v:Int)(z:(Int)×(List Int)):Nat:=(32-z.1).toNat
def AX(b:gm)(m:List Int)(port v:Int):Tree (gm×(List Int)):=
let T1:Tree ((gm×(List Int))):=.br (port==11) (.br (decide (v<32)) (.cn (decide (0<=v)) (.lf ({A2:=b.A2,D0:=oJ u32 b.D0 (eu u32 1 v)},m))) (.lf (b,m))) (.lf (b,m));.br (port==10) (.lv (tB m v) λ(x0:Bool)=>.br x0 (.cn (decide (0<=v)) (.br (bb u32 (bc u32 b.D0 v) (1:Int)==(0:Int)) (.cn (decide (0<=v)) (.lp inferInstance (XN b m port v (0,m)+1) ((True/\rE (v:Int)/\rZ/\rZ/\rE (0:Int)/\True)/\rE (m:List Int)/\(rE b.A2/\rE ((iM u32 b.D0 (eu u32 1 v)):Int)/\True)/\(rE (0:Int)/\rE (0:Int)/\True)/\True) (0,m) λ(v0:Int×List Int)=>.br (decide (v0.1<32)) (let E2:=wrap i64 (wrap i64 v*32)+v0.1;.cn (bX 1 1&&bN 0 1&&decide (0<=wrap i64 E2/\wrap i64 E2<(v0.2.length:Int))) (.nx ((True/\rE (v:Int)/\rZ/\rZ/\rE ((wrap i64 (v0.1+1)):Int)/\True)/\rE ((dB v0.2 (dA (wrap i64 (wrap i64 (wrap i64 v*32)+v0.1))) 0):List Int)/\(rE b.A2/\rE ((iM u32 b.D0 (eu u32 1 v)):Int)/\True)/\(rE (0:Int)/\rE (0:Int)/\True)/\True) (Sum.inl (wrap i64 (v0.1+1),dB v0.2 (dA (wrap i64 E2)) 0)))) (.lf (Sum.inr ({A2:=b.A2,D0:=iM u32 b.D0 (eu u32 1 v)},v0.2))))) T1)) T1) T1
def AY b m port v:=(AX b m port v).m
abbrev Qwx b m port v:=(AX b m port v).p
def Zi8:cg:={
 α:=(Int)×(List Int)
 F:=λst a=>([(1,.all 0),(3,(lk st 3)),(4,.ptr 1 0 0),(8,.ptr 2 0 0),(9,.int i64 a.1)],[⟨false,25,1,.ints u32 a.2⟩,⟨true,40,2,.gen [[(cT st 4 0),(cT st 4 1)]]⟩,⟨true,40,2,.gen [[(cT st 8 0),(cT st 8 1)]]⟩])
 a0:=λst=>((lk st 9).toInt,(nC st.rows 0))
 jb:=λst=>[0]++[(rX st 4 1),(rX st 8 2)]}
def Zaz:List (Nat×cg):=[(4,Zi8)]
def Zol:bd:=mT 174 [false,true,false,false] true [.agg gm.sig,.one (.row 0),.one (.int .i64),.one (.int .u32)] [.arr 25 1 (.ints .u32)] (λa r=>AX (gm.of (aC a 0)) (cw .u32 r 0) (ar a 2) (ar a 3)) (λX=>.agg (gm.cells (X.1))) (λX=>[⟨false,25,1,.ints .u32 (X.2)⟩])
theorem Zl:bn pG Zol:=oT (.cons R3 (.nil)) Tryz.func174 Tryz.call174 [] Zaz 3
def Kl(m:bg)(port v:Int):Tree ((List iq)×bg):=
.br (port==0) (.lf ([{C2:=1,At:=m.B7,C8:=0,F2:=[(λ(n:Int)=>UInt8.ofNat n.toNat) (wrap u8 v)]}],m)) (.br (decide (port<=2)) (.lf ([],m)) (.br (port==3) (.lv (XC v) λ(x0:iV)=>.lf ([],{B2:=m.B2,Mem:=m.Mem,B3:=m.B3,B9:=x0,B5:=m.B5,D1:=m.D1,A6:=m.A6,B7:=m.B7,B4:=m.B4,B6:=m.B6})) (.br (decide (port<=6)) (.an (Qpv m.B5 m.Mem port v m.B7) (.lv (XF m.B5 m.Mem port v m.B7) λ(x1:fv×List iq)=>.lf (x1.2,{B2:=m.B2,Mem:=m.Mem,B3:=m.B3,B9:=m.B9,B5:=x1.1,D1:=m.D1,A6:=m.A6,B7:=m.B7,B4:=m.B4,B6:=m.B6}))) (.br (decide (port<=9)) (.an (Qs9 m.D1 m.Mem port v m.B7) (.lv (XJ m.D1 m.Mem port v m.B7) λ(x2:gz×List iq)=>.lf (x2.2,{B2:=m.B2,Mem:=m.Mem,B3:=m.B3,B9:=m.B9,B5:=m.B5,D1:=x2.1,A6:=m.A6,B7:=m.B7,B4:=m.B4,B6:=m.B6}))) (.an (Qwx m.A6 m.Mem port v) (.lv (AY m.A6 m.Mem port v) λ(x3:gm×List Int)=>.lf ([],{B2:=m.B2,Mem:=x3.2,B3:=m.B3,B9:=m.B9,B5:=m.B5,D1:=m.D1,A6:=x3.1,B7:=m.B7,B4:=m.B4,B6:=m.B6})))))))
def EL m port v:=(Kl m port v).m
abbrev Z29 m port v:=(Kl m port v).p
def Ztn:bd:=mT 122 [true,false,false] true [.ptr 0,.one (.int .i64),.one (.int .u32)] [.box 43 49 (bg.ik (.row 1)),.arr 25 1 (.ints .u32)] (λa r=>Kl (bg.iE (r.getD 0 default).cs (cw .u32 r 1)) (ar a 1) (ar a 2)) (λX=>.sl 4 (.ah .bw (X.1)) true) (λX=>[⟨true,43,49,.gen [(bg.cj (X.2) (.all 1))]⟩,⟨false,25,1,.ints .u32 (X.2).Mem⟩])
theorem Zn3:bn pG Ztn:=oT (.cons Zon (.cons Z8p (.cons Za2 (.cons Zl (.nil))))) Tryz.func122 Tryz.call122 [.sl (.ah .bw) true,.row 25 1 (.ints .u32)] [] 2
def Nl(m:bg)(clock:Int):Tree ((List iq)×bg):=
.an (Qbf m) (.lv (rh m) λ(x0:bu)=>.an (Z6b x0 m.Mem) (.lv (AW x0 m.Mem) λ(x1:bu×ly×List Int)=>let E1:=({B2:=x1.1,Mem:=x1.2.2,B3:=m.B3,B9:=m.B9,B5:=m.B5,D1:=m.D1,A6:=m.A6,B7:=m.B7,B4:=false,B6:=m.B6}:bg);.br (x1.2.1.C2==1) (.lv (DM E1 x1.2.1.F0 clock) λ(x2:Int×bg)=>.an (Dq x2.2.B2 x1.2.1.F9 x2.1) (.lv (lF x2.2.B2 x1.2.1.F9 x2.1) λ(x3:bu)=>.lf ([],{B2:=x3,Mem:=x2.2.Mem,B3:=x2.2.B3,B9:=x2.2.B9,B5:=x2.2.B5,D1:=x2.2.D1,A6:=x2.2.A6,B7:=wrap u64 (x2.2.B7+1),B4:=x2.2.B4,B6:=x2.2.B6}))) (.br (x1.2.1.C2==2) (.an (Z29 E1 x1.2.1.F0 x1.2.1.Value) (.lv (EL E1 x1.2.1.F0 x1.2.1.Value) λ(x4:List iq×bg)=>.lf (x4.1,{B2:=x4.2.B2,Mem:=x4.2.Mem,B3:=x4.2.B3,B9:=x4.2.B9,B5:=x4.2.B5,D1:=x4.2.D1,A6:=x4.2.A6,B7:=wrap u64 (x4.2.B7+1),B4:=x4.2.B4,B6:=x4.2.B6}))) (.br (x1.2.1.C2==3) (.lf ([],{B2:=x1.1,Mem:=x1.2.2,B3:=m.B3,B9:=m.B9,B5:=m.B5,D1:=m.D1,A6:=m.A6,B7:=wrap u64 (m.B7+1),B4:=true,B6:=m.B6})) (.br (x1.2.1.C2==4) (.lf ([],{B2:=x1.1,Mem:=x1.2.2,B3:=m.B3,B9:=m.B9,B5:=m.B5,D1:=m.D1,A6:=m.A6,B7:=wrap u64 (m.B7+1),B4:=false,B6:=true})) (.lf ([],{B2:=x1.1,Mem:=x1.2.2,B3:=m.B3,B9:=m.B9,B5:=m.B5,D1:=m.D1,A6:=m.A6,B7:=wrap u64 (m.B7+1),B4:=false,B6:=m.B6})))))))
def Am m clock:=(Nl m clock).m
abbrev Qhs m clock:=(Nl m clock).p
def Z9f:bd:=mT 76 [true,false] true [.ptr 0,.one (.int .u32)] [.box 43 49 (bg.ik (.row 1)),.arr 25 1 (.ints .u32)] (λa r=>Nl (bg.iE (r.getD 0 default).cs (cw .u32 r 1)) (ar a 1)) (λX=>.sl 4 (.ah .bw (X.1)) true) (λX=>[⟨true,43,49,.gen [(bg.cj (X.2) (.all 1))]⟩,⟨false,25,1,.ints .u32 (X.2).Mem⟩])
theorem Qt3:bn pG Z9f:=oT (.cons Qjs (.cons Zrj (.cons Zto (.cons Sf (.cons Zn3 (.nil)))))) Tryz.func76 Tryz.call76 [.sl (.ah .bw) true,.row 25 1 (.ints .u32)] [] 2

import Derived.Test.YtaemmjbkndlkeaaGreatMigrateStartsYz
open Nat renaming blt->bN,beq->bX,lt_succ_self->cN
open List renaming length->dF,replicate->cO,take->cU,drop->cV,set->dB,getD->aV
open Int renaming toNat->dA,tdiv->eF,tmod->cZ
set_option maxRecDepth 100000
set_option linter.all false
namespace Go.Proofs.YtaemmjbkndlkeaaGreat
open Go Go.GD Go.IntKind
noncomputable section
def L8(m:List Int):Tree (List Int):=
.cn (bN (0:Nat) (1:Nat)&&bX (1:Nat) (1:Nat)&&List.all [D.int u32 (0:Int)] D.plain&&decide ((0:Int)<=(m.length:Int)/\(m.length:Int)<=(m.length:Int)/\(m.length:Int)<=(9223372036854775807:Int)/\(↑(4:Nat):Int)*(m.length:Int)<=(140737488355328:Int))) (let E1:=dF (cO (dA (m.length:Int)) (0:Int));.lf (cU (Min.min (m.length) E1) m++cV (Min.min (m.length) E1) (cO (dA (m.length:Int)) (0:Int))))
def Ys m:=(L8 m).m
abbrev Qz1 m:=(L8 m).p
def Zo7:bb:=mT 116 [] true [.one (.ints .u32)] [] (λa r=>L8 (de .u32 a 0)) (λX=>.all 0) (λX=>[⟨false,25,1,.ints .u32 X⟩])
theorem Zms:bj pG Zo7:=oT (.nil) Tryz.func116 Tryz.call116 [.row 25 1 (.ints .u32)] [] 2
def KR(m:bg):Tree bg:=
.an (Qz1 m.Mem) (.lv (Ys m.Mem) λ(x0:List Int)=>.lf ({B4:=m.B4,Mem:=x0,B1:=m.B1,B8:=m.B8,B7:=m.B7,D4:=m.D4,A6:=m.A6,B6:=m.B6,B2:=m.B2,B5:=m.B5}))
def Ui m:=(KR m).m
abbrev Qtb m:=(KR m).p
def Zuj:bb:=mT 74 [] true [.agg bg.sig] [] (λa r=>KR (bg.of (aC a 0))) (λX=>.agg (bg.cq X (.all 0))) (λX=>[⟨false,25,1,.ints .u32 X.Mem⟩])
theorem Znn:bj pG Zuj:=oT (.cons Zms (.nil)) Tryz.func74 Tryz.call74 [.row 25 1 (.ints .u32)] [] 2
def Qvt(n k:Int)(z:(Int)×(List Int)):Prop:=0<=z.1/\(z.2.length:Int)=z.1/\(z.1<=k\/z.1=0)
def UN(n k:Int)(z:(Int)×(List Int)):Nat:=(k-z.1).toNat
def Ml(n k:Int):Tree (List UInt8):=
.lp inferInstance (UN n k (0,[])+1) ((rE (n:Int)/\rE (k:Int)/\True/\rE (0:Int)/\True)/\rE ([]:List Int)/\True) (0,[]) λ(v0:Int×List Int)=>.br (decide (v0.1<k)) (.lv (Zft n (wrap i64 (eF v0.1 9))) λ(x0:Int)=>.cn (decide (1*(v0.2.length+1)<=140737488355328)) (.nx ((rE (n:Int)/\rE (k:Int)/\True/\rE ((wrap i64 (v0.1+1)):Int)/\True)/\rE ((v0.2++[wrap u8 x0]):List Int)/\True) (Sum.inl (wrap i64 (v0.1+1),v0.2++[wrap u8 x0])))) (.lf (Sum.inr (bytesOf v0.2)))
def YR n k:=(Ml n k).m
def PJ(n k:Int):Prop:=
k<=1000000000000
theorem Zhp(n k:Int)(hw:PJ n k):(Ml n k).p:=by
 simp only[PJ]at hw
 unfold Tree.p Ml
 repeat'(first|refine eu (inv:=Qvt n k) (μ:=UN n k) ?_ (cN _) (λ_ _=>?_)|exact trivial|refine ae (λ_=>?_) (λ_=>?_)|refine av ?_ ?_|refine cg ?_ ?_|refine aq (λ_ _=>?_)|refine ee ?_|refine ba ?_|refine And.intro ?_ ?_)
 all_goals((try simp only[Qvt,UN]at*);exact lU)
def Zn3:bu:={
 α:=(Int)×(List Int)
 F:=λst a=>([(0,(lk st 0)),(1,(lk st 1)),(5,.all 0),(6,.int i64 a.1)],[⟨false,5,1,.ints u8 a.2⟩])
 a0:=λst=>((lk st 6).toInt,(pZ st.rows (rN st 5)))
 iZ:=λst=>[]++[(rX st 5 0)]}
def Zch:List (Nat×bu):=[(3,Zn3)]
def Zoq:bb:=kH 81 [] true [.one (.int .i64),.one (.int .i64)] [] (λa r=>PJ (au a 0) (au a 1)) (λa r=>YR (au a 0) (au a 1)) (λX=>.str X) (λX=>[])
theorem Zld:bj pG Zoq:=rU drawn jt (.cons Z9g (.nil)) Tryz.func81 Tryz.call81 (λa r=>Ml (au a 0) (au a 1)) [] Zch 3 (hp:=λa r h=>Zhp (au a 0) (au a 1) h)
def Qsg(m:List Int):Tree Int:=
.br (cZ (m.length:Int) (32:Int) !=(0:Int)) (.lf 0) (.br (decide ((m.length:Int)>(1024:Int))) (.lf 0) (.lf (wrap i64 (eF (m.length:Int) 32))))
def rL m:=(Qsg m).m
def Zj9:bb:=mS 36 [] true [.one (.ints .u32)] [] (λa r=>Qsg (de .u32 a 0)) (λX=>.int .i64 X) (λX=>[])
theorem Nb:bj pG Zj9:=oS (.nil) Tryz.func36 Tryz.call36 [] [] 2
def Qog(c:iV):Tree Bool:=
.lf (decide ((c.D9.length:Int)<=(16:Int)))
def Qjt c:=(Qog c).m
def Z1y:bb:=mS 82 [] true [.agg iV.sig] [] (λa r=>Qog (iV.of (aC a 0))) (λX=>.bool X) (λX=>[])
theorem Qys:bj pG Z1y:=oS (.nil) Tryz.func82 Tryz.call82 [] [] 2
def XZ(t:jc):Tree Bool:=
.br t.F1 (.br t.E0 (.lf false) (.br t.F1 (.lf (t.D3 !=0)) (.br t.E0 (.lf true) (.lf (t.D3==0))))) (.br t.F1 (.lf (t.D3 !=0)) (.br t.E0 (.lf true) (.lf (t.D3==0))))
def TZ t:=(XZ t).m
def Z9q:bb:=mS 83 [] true [.agg jc.sig] [] (λa r=>XZ (jc.of (aC a 0))) (λX=>.bool X) (λX=>[])
theorem Z4i:bj pG Z9q:=oS (.nil) Tryz.func83 Tryz.call83 [] [] 2
def X1(d0:gh)(bc:Int):Tree Bool:=
.br (decide (d0.ab>64)) (.lf false) (.br (decide (d0.C9<0)) (.lf false) (.br (decide (d0.C9>3)) (.lf false) (.br (d0.C9 !=1) (.br (d0.F5==0) (.br (d0.C5==0) (.br (d0.C6==0) (.lf (decide (d0.C7=[]))) (.lf false)) (.lf false)) (.lf false)) (.br (decide (d0.C5>=d0.ab)) (.lf false) (.br (decide (wrap i64 d0.C6>=bc)) (.lf false) (.br (d0.F5==1) (.br (decide (d0.C7=[])) (.lf true) (.br (d0.F5==2) (.lf ((d0.C7.length:Int)==(128:Int))) (.lf false))) (.br (d0.F5==2) (.lf ((d0.C7.length:Int)==(128:Int))) (.lf false))))))))
def T8 d0 bc:=(X1 d0 bc).m
def Zaq:bb:=mS 84 [] true [.agg gh.sig,.one (.int .i64)] [] (λa r=>X1 (gh.of (aC a 0)) (au a 1)) (λX=>.bool X) (λX=>[])
theorem Z9k:bj pG Zaq:=oS (.nil) Tryz.func84 Tryz.call84 [] [] 2
def X0(n:ik)(bc:Int):Tree Bool:=
let T1:Tree (Bool):=.br n.C4 (.br (decide (n.F9>=1)) (.lf (decide (n.F9<=128))) (.lf false)) (.lf (n.F9==0));.br n.D1 (.br n.C4 (.lf false) (.br (decide (wrap i64 n.D2>=bc)) (.lf false) (.br (!n.D1) (.br (n.D2 !=0) (.lf false) T1) T1))) (.br (!n.D1) (.br (n.D2 !=0) (.lf false) T1) T1)
def T0 n bc:=(X0 n bc).m
def Zfd:bb:=mS 85 [] true [.agg ik.sig,.one (.int .i64)] [] (λa r=>X0 (ik.of (aC a 0)) (au a 1)) (λX=>.bool X) (λX=>[])
theorem Zb7:bj pG Zfd:=oS (.nil) Tryz.func85 Tryz.call85 [] [] 2
def Qiu(b:gx)(bc:Int)(z:(Int)):Prop:=0<=z/\z<=32
def Uc(b:gx)(bc:Int)(z:(Int)):Nat:=(32-z).toNat
def L0(b:gx)(bc:Int):Tree Bool:=
.lp inferInstance (Uc b bc 0+1) ((rE (bc:Int)/\rZ/\rE (0:Int)/\True)/\(rE b.A2/\rE b.D0/\True)/\True) 0 λ(v0:Int)=>.br (decide (v0<32)) (.cn (decide (0<=wrap u64 v0)) (let T1:Tree ((Int)⊕(Bool)):=.nx ((rE (bc:Int)/\rZ/\rE ((wrap i64 (v0+1)):Int)/\True)/\(rE b.A2/\rE b.D0/\True)/\True) (Sum.inl (wrap i64 (v0+1)));.br (bh u32 (bm u32 b.D0 (wrap u64 v0)) (1:Int)==(1:Int)) (.br (decide (v0>=bc)) (.lf (Sum.inr false)) T1) T1)) (.lf (Sum.inr true))
def Ud b bc:=(L0 b bc).m
theorem Qx7(b:gx)(bc:Int):(L0 b bc).p:=by
 unfold Tree.p L0
 repeat'(first|refine eu (inv:=Qiu b bc) (μ:=Uc b bc) ?_ (cN _) (λ_ _=>?_)|exact trivial|refine ae (λ_=>?_) (λ_=>?_)|refine av ?_ ?_|refine cg ?_ ?_|refine aq (λ_ _=>?_)|refine ee ?_|refine ba ?_|refine And.intro ?_ ?_)
 all_goals((try simp only[Qiu,Uc]at*);exact lU)
def Qzl:bu:={
 α:=(Int)
 F:=λst a=>([(1,(lk st 1)),(2,.ptr 0 0 0),(5,.int i64 a)],[⟨true,40,2,.gen [[(cT st 2 0),(cT st 2 1)]]⟩])
 a0:=λst=>(lk st 5).toInt
 iZ:=λst=>[]++[(rX st 2 0)]}
def Qv:List (Nat×bu):=[(2,Qzl)]
def Z0f:bb:=mS 86 [] true [.agg gx.sig,.one (.int .i64)] [] (λa r=>L0 (gx.of (aC a 0)) (au a 1)) (λX=>.bool X) (λX=>[])
theorem Qyb:bj pG Z0f:=oS (.nil) Tryz.func86 Tryz.call86 [] Qv 3 (λ_ _ _=>by kernel_rfl) (λa r=>Qx7 (gx.of (aC a 0)) (au a 1)) (λ_ X=>by kernel_rfl)
def Yi(m:bg):Tree Bool:=
.lv (rL m.Mem) λ(x0:Int)=>.br (decide (x0<1)) (.lf false) (.br (m.B4.X.a0 !=0) (.lf false) (.br (decide (m.B4.C3.a0>31)) (.lf false) (.br (decide (m.B4.C3.a7>31)) (.lf false) (.br (decide (m.B4.C3.a6>255)) (.lf false) (.br (cZ m.B4.C3.a1 (4:Int) !=(0:Int)) (.lf false) (.lv (Qjt m.B1) λ(x1:Bool)=>.br (!x1) (.lf false) (.lv (TZ m.B8) λ(x2:Bool)=>.br (!x2) (.lf false) (.lv (T8 m.B7 x0) λ(x3:Bool)=>.br (!x3) (.lf false) (.lv (T0 m.D4 x0) λ(x4:Bool)=>.br (!x4) (.lf false) (.lv (Ud m.A6 x0) λ(x5:Bool)=>.br (!x5) (.lf false) (.br (decide (m.B6<=1152921504606846976)) (.br m.B2 (.lf (!m.B5)) (.lf true)) (.lf false))))))))))))
def rh m:=(Yi m).m
def Zsy:bb:=mS 34 [] true [.agg bg.sig] [] (λa r=>Yi (bg.of (aC a 0))) (λX=>.bool X) (λX=>[])
theorem Z7m:bj pG Zsy:=oS (.cons Nb (.cons Qys (.cons Z4i (.cons Z9k (.cons Zb7 (.cons Qyb (.nil))))))) Tryz.func34 Tryz.call34 [] [] 2
def Sa(is:Bool)(n:Int):Tree Int:=
.br is (.cn (decide (0<=wrap u64 n)) (.lf (ep u32 1 (wrap u64 n)))) (.lf 0)
def DU is n:=(Sa is n).m
abbrev SL is n:=(Sa is n).p
def Zo0:bb:=mT 255 [] true [.one (.bool),.one (.int .i64)] [] (λa r=>Sa (kF a 0) (au a 1)) (λX=>.int .u32 X) (λX=>[])
theorem Ziz:bj pG Zo0:=oT (.nil) Tryz.func255 Tryz.call255 [] [] 2
def Qkm(t:jc):Tree Bool:=
.lf t.E0
def Ym t:=(Qkm t).m
def Qw4:bb:=mS 256 [] true [.agg jc.sig] [] (λa r=>Qkm (jc.of (aC a 0))) (λX=>.bool X) (λX=>[])
theorem Qva:bj pG Qw4:=oS (.nil) Tryz.func256 Tryz.call256 [] [] 2
def Qhu(c:iV):Tree Bool:=
.lf (decide ((c.D9.length:Int)>(0:Int)))
def Ua c:=(Qhu c).m
def Qs9:bb:=mS 257 [] true [.agg iV.sig] [] (λa r=>Qhu (iV.of (aC a 0))) (λX=>.bool X) (λX=>[])
theorem Qrg:bj pG Qs9:=oS (.nil) Tryz.func257 Tryz.call257 [] [] 2
def Qm7(d0:gh):Tree Bool:=
.br (d0.C9==2) (.lf true) (.lf (d0.C9==3))
def Yn d0:=(Qm7 d0).m
def Qy:bb:=mS 258 [] true [.agg gh.sig] [] (λa r=>Qm7 (gh.of (aC a 0))) (λX=>.bool X) (λX=>[])
theorem Qwi:bj pG Qy:=oS (.nil) Tryz.func258 Tryz.call258 [] [] 2
def Qo4(n:ik):Tree Bool:=
.lf n.C4
def Yo n:=(Qo4 n).m
def Z2n:bb:=mS 259 [] true [.agg ik.sig] [] (λa r=>Qo4 (ik.of (aC a 0))) (λX=>.bool X) (λX=>[])
theorem Qy5:bj pG Z2n:=oS (.nil) Tryz.func259 Tryz.call259 [] [] 2
def Qti(b:gx)(z:(Int)×(Int)):Prop:=0<=z.2/\z.2<=32
def Qi1(b:gx)(z:(Int)×(Int)):Nat:=(32-z.2).toNat
def Wk(b:gx):Tree Int:=
.lp inferInstance (Qi1 b (0,0)+1) ((rZ/\rE (0:Int)/\rE (0:Int)/\True)/\(rE b.A2/\rE b.D0/\True)/\True) (0,0) λ(v0:Int×Int)=>.br (decide (v0.2<32)) (.cn (decide (0<=wrap u64 v0.2)) (.nx ((rZ/\rE ((wrap i64 (v0.1+wrap i64 (bh u32 (bm u32 b.D0 (wrap u64 v0.2)) 1))):Int)/\rE ((wrap i64 (v0.2+1)):Int)/\True)/\(rE b.A2/\rE b.D0/\True)/\True) (Sum.inl (wrap i64 (v0.1+wrap i64 (bh u32 (bm u32 b.D0 (wrap u64 v0.2)) 1)),wrap i64 (v0.2+1))))) (.lf (Sum.inr v0.1))
def LS b:=(Wk b).m
theorem Zbd(b:gx):(Wk b).p:=by
 unfold Tree.p Wk
 repeat'(first|refine eu (inv:=Qti b) (μ:=Qi1 b) ?_ (cN _) (λ_ _=>?_)|exact trivial|refine ae (λ_=>?_) (λ_=>?_)|refine av ?_ ?_|refine cg ?_ ?_|refine aq (λ_ _=>?_)|refine ee ?_|refine ba ?_|refine And.intro ?_ ?_)
 all_goals((try simp only[Qti,Qi1]at*);exact lU)
def Zgh:bu:={
 α:=(Int)×(Int)
 F:=λst a=>([(1,.ptr 0 0 0),(3,.int i64 a.1),(4,.int i64 a.2)],[⟨true,40,2,.gen [[(cT st 1 0),(cT st 1 1)]]⟩])
 a0:=λst=>((lk st 3).toInt,(lk st 4).toInt)
 iZ:=λst=>[]++[(rX st 1 0)]}
def Z9w:List (Nat×bu):=[(3,Zgh)]
def Zma:bb:=mS 225 [] true [.agg gx.sig] [] (λa r=>Wk (gx.of (aC a 0))) (λX=>.int .i64 X) (λX=>[])
theorem Qy3:bj pG Zma:=oS (.nil) Tryz.func225 Tryz.call225 [] Z9w 3 (λ_ _ _=>by kernel_rfl) (λa r=>Zbd (gx.of (aC a 0))) (λ_ X=>by kernel_rfl)
def Yd(b:gx):Tree Bool:=
.lv (LS b) λ(x0:Int)=>.lf (wrap u64 x0 !=wrap u64 b.A2)
def OR b:=(Yd b).m
def Qt5:bb:=mS 260 [] true [.agg gx.sig] [] (λa r=>Yd (gx.of (aC a 0))) (λX=>.bool X) (λX=>[])
theorem Qr5:bj pG Qt5:=oS (.cons Qy3 (.nil)) Tryz.func260 Tryz.call260 [] [] 2
def Sb(m:bg):Tree Int:=
.lv (Ym m.B8) λ(x0:Bool)=>.an (SL x0 0) (.lv (DU x0 0) λ(x1:Int)=>.lv (Ua m.B1) λ(x2:Bool)=>.an (SL x2 1) (.lv (DU x2 1) λ(x3:Int)=>.lv (Yn m.B7) λ(x4:Bool)=>.an (SL x4 2) (.lv (DU x4 2) λ(x5:Int)=>.lv (Yo m.D4) λ(x6:Bool)=>.an (SL x6 3) (.lv (DU x6 3) λ(x7:Int)=>.lv (OR m.A6) λ(x8:Bool)=>.an (SL x8 4) (.lv (DU x8 4) λ(x9:Int)=>.lf (iN u32 (iN u32 (iN u32 (iN u32 x1 x3) x5) x7) x9))))))
def OU m:=(Sb m).m
abbrev Qvg m:=(Sb m).p
def Zlv:bb:=mT 210 [] true [.agg bg.sig] [] (λa r=>Sb (bg.of (aC a 0))) (λX=>.int .u32 X) (λX=>[])
theorem Zhx:bj pG Zlv:=oT (.cons Ziz (.cons Qva (.cons Qrg (.cons Qwi (.cons Qy5 (.cons Qr5 (.nil))))))) Tryz.func210 Tryz.call210 [] [] 2
def L4(m:bg):Tree Int:=
.an (Qvg m) (.lv (OU m) λ(x0:Int)=>.lf (bh u32 x0 m.B4.C3.a7))
def Bf m:=(L4 m).m
abbrev Qib m:=(L4 m).p
def Zc5:bb:=mT 156 [] true [.agg bg.sig] [] (λa r=>L4 (bg.of (aC a 0))) (λX=>.int .u32 X) (λX=>[])
theorem Qsx:bj pG Zc5:=oT (.cons Zhx (.nil)) Tryz.func156 Tryz.call156 [] [] 2
def L6(m:bg):Tree Bool:=
.br m.B2 (.an (Qib m) (.lv (Bf m) λ(x0:Int)=>.lf (x0==0))) (.lf false)
def Je m:=(L6 m).m
abbrev Qpx m:=(L6 m).p
def Zpv:bb:=mT 117 [] true [.agg bg.sig] [] (λa r=>L6 (bg.of (aC a 0))) (λX=>.bool X) (λX=>[])
theorem Zkc:bj pG Zpv:=oT (.cons Qsx (.nil)) Tryz.func117 Tryz.call117 [] [] 2
def Uh(m:bg):Tree Bool:=
.lv (rh m) λ(x0:Bool)=>.br (!x0) (.lf true) (.br m.B5 (.lf true) (.an (Qpx m) (.lv (Je m) λ(x1:Bool)=>.br x1 (.lf true) (.lf (decide (m.B6>=1152921504606846976))))))
def GW m:=(Uh m).m
abbrev Zcg m:=(Uh m).p
end
noncomputable section
def LF(m:List Int)(addr size v:Int):Tree (List Int):=
let E1:=bX 1 1&&bN 0 1&&decide (0<=wrap u32 (eF addr 4)/\wrap u32 (eF addr 4)<(m.length:Int));let E2:=dA (wrap u32 (eF addr 4));.br (size==4) (.cn E1 (.lf (dB m E2 v))) (.cn E1 (let E3:=decide (0<=wrap u32 (8*cZ addr 4));.cn E3 (.cn E3 (.cn E1 (.lf (dB m E2 (iN u32 (oM u32 (m.getD E2 0) (ep u32 255 (wrap u32 (8*cZ addr 4)))) (ep u32 (bh u32 v 255) (wrap u32 (8*cZ addr 4))))))))))
def I7 m addr size v:=(LF m addr size v).m
abbrev Qmc m addr size v:=(LF m addr size v).p
def Zsv:bb:=mT 221 [true,false,false,false] true [.one (.row 0),.one (.int .u32),.one (.int .i64),.one (.int .u32)] [.arr 25 1 (.ints .u32)] (λa r=>LF (cy .u32 r 0) (au a 1) (au a 2) (au a 3)) (λX=>.dw []) (λX=>[⟨false,25,1,.ints .u32 X⟩])
theorem Z7t:bj pG Zsv:=oT (.nil) Tryz.func221 Tryz.call221 [] [] 2
def Zdi(b:Bool):Tree Int:=
.br b (.lf 1) (.lf 0)
def Cl b:=(Zdi b).m
def Ztr:bb:=mS 211 [] true [.one (.bool)] [] (λa r=>Zdi (kF a 0)) (λX=>.int .u32 X) (λX=>[])
theorem Qwo:bj pG Ztr:=oS (.nil) Tryz.func211 Tryz.call211 [] [] 2
def OC(c:bq)(oE bad:Int):Tree bq:=
.lv (Cl (bh u32 c.C3.a0 (1:Int) !=(0:Int))) λ(x0:Int)=>.lv (Cl (bh u32 c.C3.a0 (2:Int) !=(0:Int))) λ(x1:Int)=>.lf ({X:=c.X,Pc:=c.C3.a1,C3:={a0:=iN u32 (oM u32 (iN u32 (iN u32 (oM u32 c.C3.a0 24) (wrap u32 (8*x0))) (wrap u32 (16*x1))) 2) 1,a1:=c.C3.a1,a2:=c.Pc,a3:=wrap u32 oE,a4:=bad,a5:=c.C3.a5,a6:=c.C3.a6,a7:=c.C3.a7}})
def pN c oE bad:=(OC c oE bad).m
def Zoz:bb:=mS 157 [] true [.agg bq.sig,.one (.int .i64),.one (.int .u32)] [] (λa r=>OC (bq.of (aC a 0)) (au a 1) (au a 2)) (λX=>.agg (bq.cells X)) (λX=>[])
theorem Wl:bj pG Zoz:=oS (.cons Qwo (.nil)) Tryz.func157 Tryz.call157 [] [] 2
def I5(m:List Int)(addr size:Int):Tree Bool:=
let T1:Tree (Bool):=.cn (decide (wrap u32 size≠0)) (.br (cZ addr (wrap u32 size)==0) (.lv (rL m) λ(x0:Int)=>.lf (decide (addr<wrap u32 (wrap i64 (128*x0))))) (.lf false));.br (size !=1) (.br (size !=4) (.lf false) T1) T1
def uw m addr size:=(I5 m addr size).m
abbrev Qea m addr size:=(I5 m addr size).p
def Zf8:bb:=mT 214 [] true [.one (.ints .u32),.one (.int .u32),.one (.int .i64)] [] (λa r=>I5 (de .u32 a 0) (au a 1) (au a 2)) (λX=>.bool X) (λX=>[])
theorem Qnd:bj pG Zf8:=oT (.cons Nb (.nil)) Tryz.func214 Tryz.call214 [] [] 2
def DR(m:List Int)(addr size:Int):Tree (Int×Bool):=
.an (Qea m addr size) (.lv (uw m addr size) λ(x0:Bool)=>.br (!x0) (.lf (0,false)) (.cn (bX 1 1&&bN 0 1&&decide (0<=wrap u32 (eF addr 4)/\wrap u32 (eF addr 4)<(m.length:Int))) (.br (size==1) (.cn (decide (0<=wrap u32 (8*cZ addr 4))) (.lf (bh u32 (bm u32 (m.getD (dA (wrap u32 (eF addr 4))) 0) (wrap u32 (8*cZ addr 4))) 255,true))) (.lf (m.getD (dA (wrap u32 (eF addr 4))) 0,true)))))
def oP m addr size:=(DR m addr size).m
abbrev V5 m addr size:=(DR m addr size).p
def Zpu:bb:=mT 159 [] true [.one (.ints .u32),.one (.int .u32),.one (.int .i64)] [] (λa r=>DR (de .u32 a 0) (au a 1) (au a 2)) (λX=>.dw [.int .u32 (X.1),.bool (X.2)]) (λX=>[])
theorem Qsp:bj pG Zpu:=oT (.cons Qnd (.nil)) Tryz.func159 Tryz.call159 [] [] 2
def Ly(w:Int):Tree (ib×Bool):=
.lv (oO (wrap i64 (bm u32 w 24))) λ(x0:Int)=>let E5:=({Op:=0,A:=0,B:=0,C:=0,bz:=0}:ib);.br (x0==0) (.lf (E5,false)) (.br (x0==2) (let E3:=({Op:=wrap i64 (bm u32 w 24),A:=wrap i64 (bh u32 (bm u32 w 20) 15),B:=wrap i64 (bh u32 (bm u32 w 16) 15),C:=wrap i64 (bh u32 w 65535),bz:=0}:ib);.lv (EM E3) λ(x1:Bool)=>.br (!x1) (.lf (E5,false)) (.lf (E3,true))) (let T1:Tree ((ib×Bool)):=let E2:=({Op:=wrap i64 (bm u32 w 24),A:=wrap i64 (bh u32 (bm u32 w 20) 15),B:=wrap i64 (bh u32 (bm u32 w 16) 15),C:=0,bz:=wrap i32 (wrap i16 (bh u32 w 65535))}:ib);.lv (EM E2) λ(x2:Bool)=>.br (!x2) (.lf (E5,false)) (.lf (E2,true));.br (x0==3) T1 (.br (x0==7) T1 (let E4:=({Op:=wrap i64 (bm u32 w 24),A:=wrap i64 (bh u32 (bm u32 w 20) 15),B:=wrap i64 (bh u32 (bm u32 w 16) 15),C:=0,bz:=wrap i32 (bh u32 w 65535)}:ib);.lv (EM E4) λ(x4:Bool)=>.br (!x4) (.lf (E5,false)) (.lf (E4,true))))))
def Ba w:=(Ly w).m
def Zi6:bb:=mS 160 [] true [.one (.int .u32)] [] (λa r=>Ly (au a 0)) (λX=>.dw [.agg (ib.cells (X.1)),.bool (X.2)]) (λX=>[])
theorem Qvv:bj pG Zi6:=oS (.cons Sv (.cons Qxb (.nil))) Tryz.func160 Tryz.call160 [] [] 2
def Z3f(access:Int):Tree Bool:=
.br (decide (access>=1)) (.lf (decide (access<=3))) (.lf false)
def Oy access:=(Z3f access).m
def Zkv:bb:=mS 212 [] true [.one (.int .i64)] [] (λa r=>Z3f (au a 0)) (λX=>.bool X) (λX=>[])
theorem Qxn:bj pG Zkv:=oS (.nil) Tryz.func212 Tryz.call212 [] [] 2
def Z3l(c:bq):Tree Bool:=
.lf (bh u32 c.C3.a0 (5:Int)==(4:Int))
def XR c:=(Z3l c).m
def Zmf:bb:=mS 213 [] true [.agg bq.sig] [] (λa r=>Z3l (bq.of (aC a 0))) (λX=>.bool X) (λX=>[])
theorem Zgq:bj pG Zmf:=oS (.nil) Tryz.func213 Tryz.call213 [] [] 2
def LP(access:Int):Tree Int:=
.br (access==1) (.lf 4) (.br (access==3) (.lf 6) (.lf 5))
def Cj access:=(LP access).m
def Zc9:bb:=mS 215 [] true [.one (.int .i64)] [] (λa r=>LP (au a 0)) (λX=>.int .i64 X) (λX=>[])
theorem Qrs:bj pG Zc9:=oS (.nil) Tryz.func215 Tryz.call215 [] [] 2
def GQ(m:List Int)(root va access:Int):Tree rG:=
.lv (Cj access) λ(x0:Int)=>.lv (rL m) λ(x1:Int)=>.lv (Oy access) λ(x2:Bool)=>let E4:=({Addr:=0,G1:=0,G0:=x0}:rG);.br (!x2) (.lf (E4)) (.br (decide (va>=4096)) (.lf (E4)) (.br (decide (root>=wrap u32 x1)) (.lf (E4)) (let E6:=wrap u32 (root*128)+wrap u32 (4*wrap u32 (eF va 128));let E3:=eF (wrap u32 E6) 4;.cn (bX 1 1&&bN 0 1&&decide (0<=wrap u32 E3/\wrap u32 E3<(m.length:Int))) (let E5:=m.getD (dA (wrap u32 E3)) 0;.br (bh u32 E5 (1:Int)==(0:Int)) (.lf (E4)) (let T1:Tree (rG):=.br (decide (bh u32 (bm u32 E5 8) 255>=wrap u32 x1)) (.lf (E4)) (.lf ({Addr:=wrap u32 (wrap u32 (bh u32 (bm u32 E5 8) (255:Int)*(128:Int))+cZ va 128),G1:=wrap u32 E6,G0:=0}));let T2:Tree (rG):=.br (access==1) (.br (bh u32 E5 (4:Int)==(0:Int)) (.lf (E4)) T1) T1;.br (access==3) (.br (bh u32 E5 (2:Int)==(0:Int)) (.lf (E4)) T2) T2)))))
def Ar m root va access:=(GQ m root va access).m
abbrev Qxq m root va access:=(GQ m root va access).p
def Znx:bb:=mT 216 [] true [.one (.ints .u32),.one (.int .u32),.one (.int .u32),.one (.int .i64)] [] (λa r=>GQ (de .u32 a 0) (au a 1) (au a 2) (au a 3)) (λX=>.agg (rG.cells X)) (λX=>[])
theorem Zlg:bj pG Znx:=oT (.cons Qrs (.cons Nb (.cons Qxn (.nil)))) Tryz.func216 Tryz.call216 [] [] 2
def Qg(m:List Int)(entry access:Int):Tree (List Int):=
.an (Qea m entry 4) (.lv (uw m entry 4) λ(x0:Bool)=>.br (!x0) (.lf m) (let E3:=bX 1 1&&bN 0 1&&decide (0<=wrap u32 (eF entry 4)/\wrap u32 (eF entry 4)<(m.length:Int));.cn E3 (.cn E3 (let E4:=dA (wrap u32 (eF entry 4));let E1:=dB m E4 (iN u32 (m.getD E4 0) 8);.br (access==3) (let E2:=bX 1 1&&bN 0 1&&decide (0<=wrap u32 (eF entry 4)/\wrap u32 (eF entry 4)<(↑(dF E1):Int));.cn E2 (.cn E2 (.lf (dB E1 E4 (iN u32 (aV E1 E4 0) 16))))) (.lf E1)))))
def TQ m entry access:=(Qg m entry access).m
abbrev Qz6 m entry access:=(Qg m entry access).p
def Zpa:bb:=mT 217 [true,false,false] true [.one (.row 0),.one (.int .u32),.one (.int .i64)] [.arr 25 1 (.ints .u32)] (λa r=>Qg (cy .u32 r 0) (au a 1) (au a 2)) (λX=>.dw []) (λX=>[⟨false,25,1,.ints .u32 X⟩])
theorem Zjc:bj pG Zpa:=oT (.cons Qnd (.nil)) Tryz.func217 Tryz.call217 [] [] 2
def Ja(c:bq)(m:List Int)(va size access:Int):Tree (Int×Int×(List Int)):=
.lv (Oy access) λ(x0:Bool)=>.br (!x0) (.lf (0,5,m)) (let T1:Tree ((Int×Int×(List Int))):=.cn (decide (wrap u32 size≠0)) (.br (cZ va (wrap u32 size) !=0) (.lf (0,3,m)) (.lv (XR c) λ(x1:Bool)=>.br (!x1) (.an (Qea m va size) (.lv (uw m va size) λ(x2:Bool)=>.br (!x2) (.lv (Cj access) λ(x3:Int)=>.lf (0,x3,m)) (.lf (va,0,m)))) (.an (Qxq m c.C3.a6 va access) (.lv (Ar m c.C3.a6 va access) λ(x4:rG)=>.br (x4.G0 !=0) (.lf (0,x4.G0,m)) (.an (Qz6 m x4.G1 access) (.lv (TQ m x4.G1 access) λ(x5:List Int)=>.lf (x4.Addr,0,x5)))))));.br (size !=1) (.br (size !=4) (.lf (0,5,m)) T1) T1)
def lR c m va size access:=(Ja c m va size access).m
abbrev SM c m va size access:=(Ja c m va size access).p
def Zjq:bb:=mT 158 [false,true,false,false,false] true [.agg bq.sig,.one (.row 0),.one (.int .u32),.one (.int .i64),.one (.int .i64)] [.arr 25 1 (.ints .u32)] (λa r=>Ja (bq.of (aC a 0)) (cy .u32 r 0) (au a 2) (au a 3) (au a 4)) (λX=>.dw [.int .u32 (X.1),.int .i64 (X.2.1)]) (λX=>[⟨false,25,1,.ints .u32 (X.2.2)⟩])
theorem Qy2:bj pG Zjq:=oT (.cons Qxn (.cons Zgq (.cons Qnd (.cons Qrs (.cons Zlg (.cons Zjc (.nil))))))) Tryz.func158 Tryz.call158 [] [] 2
def Qoi(op:Int):Tree Bool:=
.br (decide (op>=57)) (.lf (decide (op<=64))) (.lf false)
def Lv op:=(Qoi op).m
def Z0b:bb:=mS 161 [] true [.one (.int .i64)] [] (λa r=>Qoi (au a 0)) (λX=>.bool X) (λX=>[])
theorem Qzu:bj pG Z0b:=oS (.nil) Tryz.func161 Tryz.call161 [] [] 2
def OE(c:bq):Tree bq:=
.lv (Cl (bh u32 c.C3.a0 (8:Int) !=(0:Int))) λ(x0:Int)=>.lv (Cl (bh u32 c.C3.a0 (16:Int) !=(0:Int))) λ(x1:Int)=>.lf ({X:=c.X,Pc:=c.C3.a2,C3:={a0:=iN u32 (iN u32 (oM u32 c.C3.a0 3) (wrap u32 (1*x0))) (wrap u32 (2*x1)),a1:=c.C3.a1,a2:=c.C3.a2,a3:=c.C3.a3,a4:=c.C3.a4,a5:=c.C3.a5,a6:=c.C3.a6,a7:=c.C3.a7}})
def TR c:=(OE c).m
def Zfp:bb:=mS 218 [] true [.agg bq.sig] [] (λa r=>OE (bq.of (aC a 0))) (λX=>.agg (bq.cells X)) (λX=>[])
theorem Zby:bj pG Zfp:=oS (.cons Qwo (.nil)) Tryz.func218 Tryz.call218 [] [] 2
def I9(c:bq)(r v:Int):Tree bq:=
.br (decide (r>0)) (.br (decide (r<16)) (.cn (bN 0 1&&decide (0<=r/\r<(↑16:Int))) (.lf ({X:=iI.of 0 (dB (iI.l c.X) r.toNat v),Pc:=c.Pc,C3:=c.C3}))) (.lf c)) (.lf c)
def lH c r v:=(I9 c r v).m
abbrev Dz c r v:=(I9 c r v).p
def Zth:bb:=mT 121 [] true [.agg bq.sig,.one (.int .i64),.one (.int .u32)] [] (λa r=>I9 (bq.of (aC a 0)) (au a 1) (au a 2)) (λX=>.agg (bq.cells X)) (λX=>[])
theorem Ql:bj pG Zth:=oT (.nil) Tryz.func121 Tryz.call121 [] [] 2
def LQ(c:bq)(jr v:Int):Tree bq:=
let E4:=bN 0 1&&decide (0<=jr/\jr<(↑8:Int));let T2:Tree (bq):=.cn E4 (.lf ({X:=c.X,Pc:=c.Pc,C3:=A8.of 0 (dB (A8.l c.C3) jr.toNat (bh u32 v 31))}));.br (jr==0) T2 (.br (jr==7) T2 (.br (jr==6) (.cn E4 (.lf ({X:=c.X,Pc:=c.Pc,C3:=A8.of 0 (dB (A8.l c.C3) jr.toNat (bh u32 v 255))}))) (let T3:Tree (bq):=.cn E4 (.lf ({X:=c.X,Pc:=c.Pc,C3:=A8.of 0 (dB (A8.l c.C3) jr.toNat (oM u32 v 3))}));.br (jr==1) T3 (.br (jr==2) T3 (let T1:Tree (bq):=.cn E4 (.lf ({X:=c.X,Pc:=c.Pc,C3:=A8.of 0 (dB (A8.l c.C3) jr.toNat v)}));.br (jr==3) T1 (.br (jr==4) T1 (.br (jr==5) T1 (.lf c))))))))
def OI c jr v:=(LQ c jr v).m
abbrev Qw1 c jr v:=(LQ c jr v).p
def Zme:bb:=mT 219 [] true [.agg bq.sig,.one (.int .i64),.one (.int .u32)] [] (λa r=>LQ (bq.of (aC a 0)) (au a 1) (au a 2)) (λX=>.agg (bq.cells X)) (λX=>[])
theorem Zgm:bj pG Zme:=oT (.nil) Tryz.func219 Tryz.call219 [] [] 2
def R6(c:bq)(i:ib):Tree (bq×lD):=
.br (i.Op==56) (.lv (pN c 7 0) λ(x0:bq)=>.lf (x0,{C2:=0,D8:=0,F7:=0,Value:=0})) (.br (i.Op==57) (.lv (TR c) λ(x1:bq)=>.lf (x1,{C2:=0,D8:=0,F7:=0,Value:=0})) (.br (i.Op==58) (.cn (bN 0 1&&decide (0<=i.bz/\i.bz<(↑8:Int))) (let E3:=aV (A8.l c.C3) i.bz.toNat 0;.an (Dz c i.A E3) (.lv (lH c i.A E3) λ(x2:bq)=>.lf ({X:=x2.X,Pc:=wrap u32 (x2.Pc+4),C3:=x2.C3},{C2:=0,D8:=0,F7:=0,Value:=0})))) (let E2:=bN 0 1&&decide (0<=i.A/\i.A<(↑16:Int));.br (i.Op==59) (.cn E2 (let E4:=aV (iI.l c.X) i.A.toNat 0;.an (Qw1 c (wrap i64 i.bz) E4) (.lv (OI c (wrap i64 i.bz) E4) λ(x3:bq)=>.lf ({X:=x3.X,Pc:=wrap u32 (x3.Pc+4),C3:=x3.C3},{C2:=0,D8:=0,F7:=0,Value:=0})))) (let E1:=({X:=c.X,Pc:=wrap u32 (c.Pc+4),C3:=c.C3}:bq);.br (i.Op==60) (.lf (E1,{C2:=1,D8:=wrap i64 i.bz,F7:=i.A,Value:=0})) (.br (i.Op==61) (.cn E2 (.lf (E1,{C2:=2,D8:=wrap i64 i.bz,F7:=0,Value:=aV (iI.l c.X) i.A.toNat 0}))) (.br (i.Op==62) (.lf (E1,{C2:=3,D8:=0,F7:=0,Value:=0})) (.br (i.Op==63) (.lf (E1,{C2:=5,D8:=0,F7:=0,Value:=0})) (.br (i.Op==64) (.lf (E1,{C2:=4,D8:=0,F7:=0,Value:=0})) (.lf (E1,{C2:=0,D8:=0,F7:=0,Value:=0}))))))))))
def XV c i:=(R6 c i).m
abbrev Qrp c i:=(R6 c i).p
def Zf3:bb:=mT 162 [] true [.agg bq.sig,.agg ib.sig] [] (λa r=>R6 (bq.of (aC a 0)) (ib.of (aC a 1))) (λX=>.dw [.agg (bq.cells (X.1)),.agg (lD.cells (X.2))]) (λX=>[])
theorem Zbr:bj pG Zf3:=oT (.cons Wl (.cons Zby (.cons Ql (.cons Zgm (.nil))))) Tryz.func162 Tryz.call162 [] [] 2
def Z3x(op a b:Int):Tree Bool:=
.br (op==40) (.lf (a==b)) (.br (op==41) (.lf (a !=b)) (.br (op==42) (.lf (decide (wrap i32 a<wrap i32 b))) (.br (op==43) (.lf (decide (wrap i32 a>=wrap i32 b))) (.br (op==44) (.lf (decide (a<b))) (.lf (decide (a>=b)))))))
def re op a b:=(Z3x op a b).m
def Zmp:bb:=mS 220 [] true [.one (.int .i64),.one (.int .u32),.one (.int .u32)] [] (λa r=>Z3x (au a 0) (au a 1) (au a 2)) (λX=>.bool X) (λX=>[])
theorem Zgf:bj pG Zmp:=oS (.nil) Tryz.func220 Tryz.call220 [] [] 2
def R7(c:bq)(i:ib):Tree bq:=
.br (i.Op==48) (.an (Dz c i.A (wrap u32 (c.Pc+4))) (.lv (lH c i.A (wrap u32 (c.Pc+4))) λ(x0:bq)=>.lf ({X:=x0.X,Pc:=wrap u32 (c.Pc+wrap u32 (4*wrap u32 i.bz)),C3:=x0.C3}))) (let E1:=bN 0 1&&decide (0<=i.B/\i.B<(↑16:Int));.br (i.Op==49) (.cn E1 (.an (Dz c i.A (wrap u32 (c.Pc+4))) (.lv (lH c i.A (wrap u32 (c.Pc+4))) λ(x1:bq)=>.lf ({X:=x1.X,Pc:=wrap u32 (aV (iI.l c.X) i.B.toNat 0+wrap u32 i.bz),C3:=x1.C3})))) (.cn (bN 0 1&&decide (0<=i.A/\i.A<(↑16:Int))) (.cn E1 (.lv (re i.Op (aV (iI.l c.X) i.A.toNat 0) (aV (iI.l c.X) i.B.toNat 0)) λ(x2:Bool)=>.br x2 (.lf ({X:=c.X,Pc:=wrap u32 (c.Pc+wrap u32 (4*wrap u32 i.bz)),C3:=c.C3})) (.lf ({X:=c.X,Pc:=wrap u32 (c.Pc+4),C3:=c.C3}))))))
def Z7r c i:=(R7 c i).m
abbrev Qye c i:=(R7 c i).p
def Zp6:bb:=mT 163 [] true [.agg bq.sig,.agg ib.sig] [] (λa r=>R7 (bq.of (aC a 0)) (ib.of (aC a 1))) (λX=>.agg (bq.cells X)) (λX=>[])
theorem Zjx:bj pG Zp6:=oT (.cons Ql (.cons Zgf (.nil))) Tryz.func163 Tryz.call163 [] [] 2
def R5(x n:Int):Tree Int:=
.br (decide (n<1)) (.lf 0) (.br (decide (n>=32)) (.lf x) (.cn (decide (0<=wrap u64 n)) (.cn (decide (0<=wrap u64 (wrap i64 (n-1)))) (let E1:=bh u32 x (wrap u32 (ep u32 1 (wrap u64 n)-1));.br (bm u32 E1 (wrap u64 (wrap i64 (n-1)))==1) (.cn (decide (0<=wrap u64 n)) (.lf (iN u32 E1 (ep u32 4294967295 (wrap u64 n))))) (.lf E1)))))
def GM x n:=(R5 x n).m
abbrev Qd0 x n:=(R5 x n).p
def Z2o:bb:=mT 222 [] true [.one (.int .u32),.one (.int .i64)] [] (λa r=>R5 (au a 0) (au a 1)) (λX=>.int .u32 X) (λX=>[])
theorem Qxc:bj pG Z2o:=oT (.nil) Tryz.func222 Tryz.call222 [] [] 2
def R8(c:bq)(m:List Int)(i:ib):Tree (bq×(List Int)):=
.cn (bN 0 1&&decide (0<=i.B/\i.B<(↑16:Int))) (let E4:=wrap u32 (aV (iI.l c.X) i.B.toNat 0+wrap u32 i.bz);let E5:=aV (iI.l c.X) i.A.toNat 0;let E6:=bN 0 1&&decide (0<=i.A/\i.A<(↑16:Int));let E7:=({X:=c.X,Pc:=wrap u32 (c.Pc+4),C3:=c.C3}:bq);let T1:Tree ((bq×(List Int))):=let T3:Tree ((bq×(List Int))):=.an (SM c m E4 4 3) (.lv (lR c m E4 4 3) λ(x0:Int×Int×List Int)=>.br (x0.2.1 !=0) (.lv (pN c x0.2.1 E4) λ(x1:bq)=>.lf (x1,x0.2.2)) (.cn E6 (.an (Qmc x0.2.2 x0.1 4 E5) (.lv (I7 x0.2.2 x0.1 4 E5) λ(x2:List Int)=>.lf (E7,x2)))));.br (i.Op==35) T3 (.br (i.Op==36) T3 (.an (SM c m E4 4 2) (.lv (lR c m E4 4 2) λ(x6:Int×Int×List Int)=>.br (x6.2.1 !=0) (.lv (pN c x6.2.1 E4) λ(x7:bq)=>.lf (x7,x6.2.2)) (.an (V5 x6.2.2 x6.1 4) (.lv (oP x6.2.2 x6.1 4) λ(x8:Int×Bool)=>.br (i.Op==33) (.an (Qd0 x8.1 8) (.lv (GM x8.1 8) λ(x9:Int)=>.an (Dz c i.A x9) (.lv (lH c i.A x9) λ(lI:bq)=>.lf ({X:=lI.X,Pc:=wrap u32 (lI.Pc+4),C3:=lI.C3},x6.2.2)))) (.an (Dz c i.A x8.1) (.lv (lH c i.A x8.1) λ(mu:bq)=>.lf ({X:=mu.X,Pc:=wrap u32 (mu.Pc+4),C3:=mu.C3},x6.2.2))))))));.br (i.Op==32) T1 (.br (i.Op==35) T1 (let T2:Tree ((bq×(List Int))):=.an (SM c m E4 1 3) (.lv (lR c m E4 1 3) λ(Aw:Int×Int×List Int)=>.br (Aw.2.1 !=0) (.lv (pN c Aw.2.1 E4) λ(Y0:bq)=>.lf (Y0,Aw.2.2)) (.cn E6 (.an (Qmc Aw.2.2 Aw.1 1 E5) (.lv (I7 Aw.2.2 Aw.1 1 E5) λ(Y1:List Int)=>.lf (E7,Y1)))));.br (i.Op==35) T2 (.br (i.Op==36) T2 (.an (SM c m E4 1 2) (.lv (lR c m E4 1 2) λ(CB:Int×Int×List Int)=>.br (CB.2.1 !=0) (.lv (pN c CB.2.1 E4) λ(Y2:bq)=>.lf (Y2,CB.2.2)) (.an (V5 CB.2.2 CB.1 1) (.lv (oP CB.2.2 CB.1 1) λ(Mo:Int×Bool)=>.br (i.Op==33) (.an (Qd0 Mo.1 8) (.lv (GM Mo.1 8) λ(UO:Int)=>.an (Dz c i.A UO) (.lv (lH c i.A UO) λ(P2:bq)=>.lf ({X:=P2.X,Pc:=wrap u32 (P2.Pc+4),C3:=P2.C3},CB.2.2)))) (.an (Dz c i.A Mo.1) (.lv (lH c i.A Mo.1) λ(P3:bq)=>.lf ({X:=P3.X,Pc:=wrap u32 (P3.Pc+4),C3:=P3.C3},CB.2.2)))))))))))
def GR c m i:=(R8 c m i).m
abbrev Qo9 c m i:=(R8 c m i).p
def Z6j:bb:=mT 164 [false,true,false] true [.agg bq.sig,.one (.row 0),.agg ib.sig] [.arr 25 1 (.ints .u32)] (λa r=>R8 (bq.of (aC a 0)) (cy .u32 r 0) (ib.of (aC a 2))) (λX=>.agg (bq.cells (X.1))) (λX=>[⟨false,25,1,.ints .u32 (X.2)⟩])
theorem Z4u:bj pG Z6j:=oT (.cons Qy2 (.cons Wl (.cons Z7t (.cons Qsp (.cons Qxc (.cons Ql (.nil))))))) Tryz.func164 Tryz.call164 [] [] 2
def Z3i(op:Int):Tree Int:=
.br (op==16) (.lf 1) (.br (op==17) (.lf 3) (.br (op==18) (.lf 4) (.br (op==19) (.lf 5) (.br (op==20) (.lf 6) (.br (op==21) (.lf 7) (.br (op==22) (.lf 8) (.br (op==23) (.lf 12) (.lf op))))))))
def Ze2 op:=(Z3i op).m
def Zk5:bb:=mS 223 [] true [.one (.int .i64)] [] (λa r=>Z3i (au a 0)) (λX=>.int .i64 X) (λX=>[])
theorem Zfw:bj pG Zk5:=oS (.nil) Tryz.func223 Tryz.call223 [] [] 2
def LN(a b:Int):Tree (Int×Int):=
.br (b==0) (.lf (4294967295,a)) (.cn (decide (wrap i64 (wrap i32 b)≠0)) (.cn (decide (wrap i64 (wrap i32 b)≠0)) (.lf (wrap u32 (wrap i64 (eF (wrap i64 (wrap i32 a)) (wrap i64 (wrap i32 b)))),wrap u32 (cZ (wrap i64 (wrap i32 a)) (wrap i64 (wrap i32 b)))))))
def LK a b:=(LN a b).m
abbrev Qko a b:=(LN a b).p
def Zgs:bb:=mT 224 [] true [.one (.int .u32),.one (.int .u32)] [] (λa r=>LN (au a 0) (au a 1)) (λX=>.dw [.int .u32 (X.1),.int .u32 (X.2)]) (λX=>[])
theorem Zbz:bj pG Zgs:=oT (.nil) Tryz.func224 Tryz.call224 [] [] 2
def R4(op a b:Int):Tree (Int×Bool):=
.lv (Ze2 op) λ(x0:Int)=>.br (x0==1) (.lf (wrap u32 (a+b),true)) (.br (x0==2) (.lf (wrap u32 (a-b),true)) (.br (x0==3) (.lf (bh u32 a b,true)) (.br (x0==4) (.lf (iN u32 a b,true)) (.br (x0==5) (.lf (rD u32 a b,true)) (.br (x0==6) (.lf (ep u32 a (bh u32 b 31),true)) (.br (x0==7) (.lf (bm u32 a (bh u32 b 31),true)) (.br (x0==8) (.lf (wrap u32 (bm i32 (wrap i32 a) (bh u32 b 31)),true)) (.br (x0==9) (.lf (wrap u32 (a*b),true)) (.br (x0==10) (.an (Qko a b) (.lv (LK a b) λ(x1:Int×Int)=>.lf (x1.1,true))) (.br (x0==11) (.an (Qko a b) (.lv (LK a b) λ(x2:Int×Int)=>.lf (x2.2,true))) (.br (x0==12) (.lv (Cl (decide (wrap i32 a<wrap i32 b))) λ(x3:Int)=>.lf (x3,true)) (.br (x0==13) (.lv (Cl (decide (a<b))) λ(x4:Int)=>.lf (x4,true)) (.lf (0,false))))))))))))))
def DS op a b:=(R4 op a b).m
abbrev Qs op a b:=(R4 op a b).p
def Zug:bb:=mT 165 [] true [.one (.int .i64),.one (.int .u32),.one (.int .u32)] [] (λa r=>R4 (au a 0) (au a 1) (au a 2)) (λX=>.dw [.int .u32 (X.1),.bool (X.2)]) (λX=>[])
theorem Zpd:bj pG Zug:=oT (.cons Zfw (.cons Zbz (.cons Qwo (.nil)))) Tryz.func165 Tryz.call165 [] [] 2
def Qt(c:bq)(m:List Int):Tree (bq×lD×(List Int)):=
.an (SM c m c.Pc 4 1) (.lv (lR c m c.Pc 4 1) λ(x0:Int×Int×List Int)=>.br (x0.2.1 !=0) (.lv (pN c x0.2.1 c.Pc) λ(x1:bq)=>.lf (x1,{C2:=0,D8:=0,F7:=0,Value:=0},x0.2.2)) (.an (V5 x0.2.2 x0.1 4) (.lv (oP x0.2.2 x0.1 4) λ(x2:Int×Bool)=>.lv (Ba x2.1) λ(x3:ib×Bool)=>.br (!x3.2) (.lv (pN c 1 x2.1) λ(x4:bq)=>.lf (x4,{C2:=0,D8:=0,F7:=0,Value:=0},x0.2.2)) (.lv (Lv x3.1.Op) λ(x5:Bool)=>let T1:Tree ((bq×lD×(List Int))):=.br (decide (x3.1.Op>=56)) (.an (Qrp c x3.1) (.lv (XV c x3.1) λ(x7:bq×lD)=>.lf (x7.1,x7.2,x0.2.2))) (.br (decide (x3.1.Op>=40)) (.an (Qye c x3.1) (.lv (Z7r c x3.1) λ(x8:bq)=>.lf (x8,{C2:=0,D8:=0,F7:=0,Value:=0},x0.2.2))) (.br (decide (x3.1.Op>=32)) (.an (Qo9 c x0.2.2 x3.1) (.lv (GR c x0.2.2 x3.1) λ(x9:bq×List Int)=>.lf (x9.1,{C2:=0,D8:=0,F7:=0,Value:=0},x9.2))) (.br (x3.1.Op==24) (.an (Dz c x3.1.A (ep u32 (wrap u32 x3.1.bz) 16)) (.lv (lH c x3.1.A (ep u32 (wrap u32 x3.1.bz) 16)) λ(lI:bq)=>.lf ({X:=lI.X,Pc:=wrap u32 (lI.Pc+4),C3:=lI.C3},{C2:=0,D8:=0,F7:=0,Value:=0},x0.2.2))) (let E2:=aV (iI.l c.X) x3.1.B.toNat 0;let E3:=bN 0 1&&decide (0<=x3.1.B/\x3.1.B<(↑16:Int));.br (decide (x3.1.Op<=13)) (.cn (bN 0 1&&decide (0<=x3.1.C/\x3.1.C<(↑16:Int))) (.cn E3 (let E4:=aV (iI.l c.X) x3.1.C.toNat 0;.an (Qs x3.1.Op E2 E4) (.lv (DS x3.1.Op E2 E4) λ(mu:Int×Bool)=>.an (Dz c x3.1.A mu.1) (.lv (lH c x3.1.A mu.1) λ(ot:bq)=>.lf ({X:=ot.X,Pc:=wrap u32 (ot.Pc+4),C3:=ot.C3},{C2:=0,D8:=0,F7:=0,Value:=0},x0.2.2)))))) (.cn E3 (.an (Qs x3.1.Op E2 (wrap u32 x3.1.bz)) (.lv (DS x3.1.Op E2 (wrap u32 x3.1.bz)) λ(tN:Int×Bool)=>.an (Dz c x3.1.A tN.1) (.lv (lH c x3.1.A tN.1) λ(Bj:bq)=>.lf ({X:=Bj.X,Pc:=wrap u32 (Bj.Pc+4),C3:=Bj.C3},{C2:=0,D8:=0,F7:=0,Value:=0},x0.2.2)))))))));.br x5 (.br (bh u32 c.C3.a0 (1:Int)==(0:Int)) (.lv (pN c 2 x2.1) λ(x6:bq)=>.lf (x6,{C2:=0,D8:=0,F7:=0,Value:=0},x0.2.2)) T1) T1))))
def Bc c m:=(Qt c m).m
abbrev Z6m c m:=(Qt c m).p
def zE:bb:=mT 119 [false,true] true [.agg bq.sig,.one (.row 0)] [.arr 25 1 (.ints .u32)] (λa r=>Qt (bq.of (aC a 0)) (cy .u32 r 0)) (λX=>.dw [.agg (bq.cells (X.1)),.agg (lD.cells (X.2.1))]) (λX=>[⟨false,25,1,.ints .u32 (X.2.2)⟩])
theorem Zte:bj pG zE:=oT (.cons Qy2 (.cons Wl (.cons Qsp (.cons Qvv (.cons Qzu (.cons Zbr (.cons Zjx (.cons Z4u (.cons Ql (.cons Zpd (.nil))))))))))) Tryz.func119 Tryz.call119 [] [] 2
end
noncomputable section
def OO(m:List Int)(frame:Int):Tree Bool:=
.lv (rL m) λ(x0:Int)=>.lf (decide (wrap u64 frame<wrap u64 x0))
def tJ m frame:=(OO m frame).m
def Zon:bb:=mS 226 [] true [.one (.ints .u32),.one (.int .u32)] [] (λa r=>OO (de .u32 a 0) (au a 1)) (λX=>.bool X) (λX=>[])
theorem SC:bj pG Zon:=oS (.cons Nb (.nil)) Tryz.func226 Tryz.call226 [] [] 2
def Qff(m:bg)(z:(Int)):Nat:=(32-z).toNat
def L7(m:bg):Tree bq:=
.an (Qib m) (.lv (Bf m) λ(x0:Int)=>.br (bh u32 m.B4.C3.a0 (2:Int)==(0:Int)) (.lf m.B4) (.br (x0==0) (.lf m.B4) (.lp inferInstance (Qff m 0+1) ((rZ/\rZ/\rE (x0:Int)/\rE (0:Int)/\True)/\(mE m (((ai.Nil (ai.ints u32 m.Mem)\/rE (1:Nat))/\rE m.Mem)) True)/\(rE (0:Int)/\rE (0:Int)/\rE (0:Int)/\rE (0:Int)/\rE (0:Int)/\rE (0:Int)/\rE (0:Int)/\rE (0:Int)/\rE (0:Int)/\rE (0:Int)/\rE (0:Int)/\rE (0:Int)/\rE (0:Int)/\rE (0:Int)/\rE (0:Int)/\rE (0:Int)/\rE (0:Int)/\rE (0:Int)/\rE (0:Int)/\rE (0:Int)/\rE (0:Int)/\rE (0:Int)/\rE (0:Int)/\rE (0:Int)/\rE (0:Int)/\True)/\True) 0 λ(v0:Int)=>.cn (decide (0<=wrap u64 v0)) (.br (bh u32 (bm u32 x0 (wrap u64 v0)) (1:Int)==(0:Int)) (.nx ((rZ/\rZ/\rE (x0:Int)/\rE ((wrap i64 (v0+1)):Int)/\True)/\(mE m (((ai.Nil (ai.ints u32 m.Mem)\/rE (1:Nat))/\rE m.Mem)) True)/\(rE (0:Int)/\rE (0:Int)/\rE (0:Int)/\rE (0:Int)/\rE (0:Int)/\rE (0:Int)/\rE (0:Int)/\rE (0:Int)/\rE (0:Int)/\rE (0:Int)/\rE (0:Int)/\rE (0:Int)/\rE (0:Int)/\rE (0:Int)/\rE (0:Int)/\rE (0:Int)/\rE (0:Int)/\rE (0:Int)/\rE (0:Int)/\rE (0:Int)/\rE (0:Int)/\rE (0:Int)/\rE (0:Int)/\rE (0:Int)/\rE (0:Int)/\True)/\True) (Sum.inl (wrap i64 (v0+1)))) (.lv (pN m.B4 (wrap i64 (16+v0)) 0) λ(x1:bq)=>.lf (Sum.inr x1))))))
def ri m:=(L7 m).m
abbrev Qbr m:=(L7 m).p
def Qx9:bu:={
 α:=(Int)
 F:=λst a=>([(1,.ptr 0 0 0),(2,.ptr 1 0 0),(3,(lk st 3)),(4,.int i64 a)],[⟨true,43,49,.gen [mB (cT st 1)]⟩,⟨true,29,25,.gen [[(cT st 2 0),(cT st 2 1),(cT st 2 2),(cT st 2 3),(cT st 2 4),(cT st 2 5),(cT st 2 6),(cT st 2 7),(cT st 2 8),(cT st 2 9),(cT st 2 10),(cT st 2 11),(cT st 2 12),(cT st 2 13),(cT st 2 14),(cT st 2 15),(cT st 2 16),(cT st 2 17),(cT st 2 18),(cT st 2 19),(cT st 2 20),(cT st 2 21),(cT st 2 22),(cT st 2 23),(cT st 2 24)]]⟩])
 a0:=λst=>(lk st 4).toInt
 iZ:=λst=>[]++[(rX st 1 0),(rX st 2 1)]}
def Qtc:List (Nat×bu):=[(5,Qx9)]
def Qxi:bb:=mT 118 [] true [.agg bg.sig] [] (λa r=>L7 (bg.of (aC a 0))) (λX=>.agg (bq.cells X)) (λX=>[])
theorem Qk8:bj pG Qxi:=oT (.cons Qsx (.cons Wl (.nil))) Tryz.func118 Tryz.call118 [] Qtc 3
def GU(c:iV)(port:Int):Tree (iV×Int):=
let T1:Tree ((iV×Int)):=.br (port==0) (.cn (decide ((0:Int)<=(1:Int)/\1<=(c.D9.length:Int)/\(c.D9.length:Int)<=(c.D9.length:Int))) (.cn (decide ((0:Int)<=(0:Int)/\0<(c.D9.length:Int))) (.lf ({D9:=cU (dA (c.D9.length:Int)-dA 1) (cV (dA 1) c.D9)},wrap u32 (↑(UInt8.toNat (c.D9.getD (dA 0) (0:UInt8))):Int))))) (.br (port==1) (.lf (c,wrap u32 (c.D9.length:Int))) (.lf (c,0)));.br (port==0) (.br ((c.D9.length:Int)==(0:Int)) (.lf (c,4294967295)) T1) T1
def LU c port:=(GU c port).m
theorem Qzd(c:iV)(port:Int):(GU c port).p:=by
 unfold Tree.p GU
 repeat'(first|exact trivial|refine ae (λ_=>?_) (λ_=>?_)|refine av ?_ ?_|refine cg ?_ ?_|refine aq (λ_ _=>?_)|refine ee ?_|refine ba ?_|refine And.intro ?_ ?_)
 all_goals(exact lU)
def Z44:bb:=mS 166 [] true [.agg iV.sig,.one (.int .i64)] [] (λa r=>GU (iV.of (aC a 0)) (au a 1)) (λX=>.dw [.agg (iV.cells (X.1)),.int .u32 (X.2)]) (λX=>[])
theorem Z1a:bj pG Z44:=oS (.nil) Tryz.func166 Tryz.call166 [] [] 2 (λ_ _ _=>by kernel_rfl) (λa r=>Qzd (iV.of (aC a 0)) (au a 1)) (λ_ X=>by kernel_rfl)
def VI(t:jc):Tree Int:=
.br t.E0 (.lf 1) (.lf 0)
def Yr t:=(VI t).m
def Zau:bb:=mS 167 [] true [.agg jc.sig] [] (λa r=>VI (jc.of (aC a 0))) (λX=>.int .u32 X) (λX=>[])
theorem Z82:bj pG Zau:=oS (.nil) Tryz.func167 Tryz.call167 [] [] 2
def VH(d0:gh)(port:Int):Tree Int:=
.br (port==4) (.lf d0.C8) (.br (port==5) (.lf d0.Frame) (.br (port==6) (.lf (wrap u32 d0.C9)) (.lf 0)))
def Yq d0 port:=(VH d0 port).m
def Zgj:bb:=mS 168 [] true [.agg gh.sig,.one (.int .i64)] [] (λa r=>VH (gh.of (aC a 0)) (au a 1)) (λX=>.int .u32 X) (λX=>[])
theorem Zcl:bj pG Zgj:=oS (.nil) Tryz.func168 Tryz.call168 [] [] 2
def ON(n:ik)(port:Int):Tree Int:=
.br (port==7) (.lf n.Frame) (.br (port==8) (.lf n.F9) (.br (port==9) (.br n.D1 (.br n.C4 (.lf (wrap u32 ((1:Int)+(2:Int)))) (.lf 1)) (.br n.C4 (.lf (wrap u32 ((0:Int)+(2:Int)))) (.lf 0))) (.lf 0)))
def TY n port:=(ON n port).m
def Zn1:bb:=mS 169 [] true [.agg ik.sig,.one (.int .i64)] [] (λa r=>ON (ik.of (aC a 0)) (au a 1)) (λX=>.int .u32 X) (λX=>[])
theorem Zg7:bj pG Zn1:=oS (.nil) Tryz.func169 Tryz.call169 [] [] 2
def LZ(b:gx)(port:Int):Tree Int:=
.br (port==10) (.lf b.A2) (.br (port==11) (.lv (LS b) λ(x0:Int)=>.lf (wrap u32 x0)) (.lf 0))
def LY b port:=(LZ b port).m
def Z42:bb:=mS 170 [] true [.agg gx.sig,.one (.int .i64)] [] (λa r=>LZ (gx.of (aC a 0)) (au a 1)) (λX=>.int .u32 X) (λX=>[])
theorem Z0w:bj pG Z42:=oS (.cons Qy3 (.nil)) Tryz.func170 Tryz.call170 [] [] 2
def NN(m:bg)(port clock:Int):Tree (Int×bg):=
.br (decide (port<=1)) (.lv (LU m.B1 port) λ(x0:iV×Int)=>.lf (x0.2,{B4:=m.B4,Mem:=m.Mem,B1:=x0.1,B8:=m.B8,B7:=m.B7,D4:=m.D4,A6:=m.A6,B6:=m.B6,B2:=m.B2,B5:=m.B5})) (.br (port==2) (.lf (clock,m)) (.br (port==3) (.lv (Yr m.B8) λ(x1:Int)=>.lf (x1,m)) (.br (decide (port<=6)) (.lv (Yq m.B7 port) λ(x2:Int)=>.lf (x2,m)) (.br (decide (port<=9)) (.lv (TY m.D4 port) λ(x3:Int)=>.lf (x3,m)) (.lv (LY m.A6 port) λ(x4:Int)=>.lf (x4,m))))))
def DV m port clock:=(NN m port clock).m
def yE:bb:=mS 120 [true,false,false] true [.ptr 0,.one (.int .i64),.one (.int .u32)] [.box 43 49 (bg.il (.row 1)),.arr 25 1 (.ints .u32)] (λa r=>NN (bg.iF (r.getD 0 default).cs (cy .u32 r 1)) (au a 1) (au a 2)) (λX=>.int .u32 (X.1)) (λX=>[⟨true,43,49,.gen [(bg.cq (X.2) (.all 1))]⟩,⟨false,25,1,.ints .u32 (X.2).Mem⟩])
theorem Zsu:bj pG yE:=oS (.cons Z1a (.cons Z82 (.cons Zcl (.cons Zg7 (.cons Z0w (.nil)))))) Tryz.func120 Tryz.call120 [.row 25 1 (.ints .u32)] [] 2
def X4(deadline:Int):Tree jc:=
.br (deadline==0) (.lf ({F1:=false,D3:=0,E0:=false})) (.lf ({F1:=true,D3:=deadline,E0:=false}))
def X3 deadline:=(X4 deadline).m
def Ztf:bb:=mS 171 [] true [.one (.int .u32)] [] (λa r=>X4 (au a 0)) (λX=>.agg (jc.cells X)) (λX=>[])
theorem Zq8:bj pG Ztf:=oS (.nil) Tryz.func171 Tryz.call171 [] [] 2
def Qzp(x n:Int)(z:(Int)×(List Int)):Prop:=0<=z.1/\(z.2.length:Int)=z.1/\(z.1<=n\/z.1=0)
def VG(x n:Int)(z:(Int)×(List Int)):Nat:=(n-z.1).toNat
def MU(x n:Int):Tree (List UInt8):=
.lp inferInstance (VG x n (0,[])+1) ((rE (x:Int)/\rE (n:Int)/\True/\rE (0:Int)/\True)/\rE ([]:List Int)/\True) (0,[]) λ(v0:Int×List Int)=>.br (decide (v0.1<n)) (.cn (decide (0<=wrap u64 (wrap i64 (8*v0.1)))) (.cn (decide (1*(v0.2.length+1)<=140737488355328)) (.nx ((rE (x:Int)/\rE (n:Int)/\True/\rE ((wrap i64 (v0.1+1)):Int)/\True)/\rE ((v0.2++[wrap u8 (bm u32 x (wrap u64 (wrap i64 (8*v0.1))))]):List Int)/\True) (Sum.inl (wrap i64 (v0.1+1),v0.2++[wrap u8 (bm u32 x (wrap u64 (wrap i64 (8*v0.1))))]))))) (.lf (Sum.inr (bytesOf v0.2)))
def XJ x n:=(MU x n).m
def Wm(x n:Int):Prop:=
n<=1000000000000
theorem Zjj(x n:Int)(hw:Wm x n):(MU x n).p:=by
 simp only[Wm]at hw
 unfold Tree.p MU
 repeat'(first|refine eu (inv:=Qzp x n) (μ:=VG x n) ?_ (cN _) (λ_ _=>?_)|exact trivial|refine ae (λ_=>?_) (λ_=>?_)|refine av ?_ ?_|refine cg ?_ ?_|refine aq (λ_ _=>?_)|refine ee ?_|refine ba ?_|refine And.intro ?_ ?_)
 all_goals((try simp only[Qzp,VG]at*);exact lU)
def Znl:bu:={
 α:=(Int)×(List Int)
 F:=λst a=>([(0,(lk st 0)),(1,(lk st 1)),(5,.all 0),(6,.int i64 a.1)],[⟨false,5,1,.ints u8 a.2⟩])
 a0:=λst=>((lk st 6).toInt,(pZ st.rows (rN st 5)))
 iZ:=λst=>[]++[(rX st 5 0)]}
def Zge:List (Nat×bu):=[(3,Znl)]
def Zu5:bb:=kH 206 [] true [.one (.int .u32),.one (.int .i64)] [] (λa r=>Wm (au a 0) (au a 1)) (λa r=>XJ (au a 0) (au a 1)) (λX=>.str X) (λX=>[])
theorem Zob:bj pG Zu5:=rU drawn jt (.nil) Tryz.func206 Tryz.call206 (λa r=>MU (au a 0) (au a 1)) [] Zge 3 (hp:=λa r h=>Zjj (au a 0) (au a 1) h)
def XK(m:List Int)(frame:Int)(z:(Int)×(List Int)):Nat:=(32-z.1).toNat
def GP(m:List Int)(frame:Int):Tree ((List UInt8)×Bool):=
.br (decide (frame<0)) (.lf ([],false)) (.lv (rL m) λ(x0:Int)=>.br (decide (frame>=x0)) (.lf ([],false)) (.lp inferInstance (XK m frame (0,[])+1) ((((ai.Nil (ai.ints u32 m)\/rE (1:Nat))/\rE (m:List Int))/\rE (frame:Int)/\True/\rE (0:Int)/\True)/\rE ([]:List Int)/\True) (0,[]) λ(v0:Int×List Int)=>.br (decide (v0.1<32)) (.cn (bX 1 1&&bN 0 1&&decide (0<=wrap i64 (wrap i64 (frame*32)+v0.1)/\wrap i64 (wrap i64 (frame*32)+v0.1)<(m.length:Int))) (let E1:=m.getD (dA (wrap i64 (wrap i64 (frame*32)+v0.1))) 0;.an (Wm E1 4) (.lv (XJ E1 4) λ(x1:List UInt8)=>.cn (decide (1*(v0.2.length+dF (o8 x1))<=140737488355328)) (.nx ((((ai.Nil (ai.ints u32 m)\/rE (1:Nat))/\rE (m:List Int))/\rE (frame:Int)/\True/\rE ((wrap i64 (v0.1+1)):Int)/\True)/\rE ((v0.2++o8 x1):List Int)/\True) (Sum.inl (wrap i64 (v0.1+1),v0.2++o8 x1)))))) (.lf (Sum.inr (bytesOf v0.2,true)))))
def Lz m frame:=(GP m frame).m
abbrev Qjb m frame:=(GP m frame).p
def Zjf:bu:={
 α:=(Int)×(List Int)
 F:=λst a=>([(0,(lk st 0)),(1,(lk st 1)),(6,.all 0),(7,.int i64 a.1)],[⟨false,5,1,.ints u8 a.2⟩])
 a0:=λst=>((lk st 7).toInt,(pZ st.rows (rN st 6)))
 iZ:=λst=>[]++[(rX st 6 0)]}
def Zba:List (Nat×bu):=[(5,Zjf)]
def Zoa:bb:=mT 149 [] true [.one (.ints .u32),.one (.int .i64)] [] (λa r=>GP (de .u32 a 0) (au a 1)) (λX=>.dw [.str (X.1),.bool (X.2)]) (λX=>[])
theorem Z39:bj pG Zoa:=oT (.cons Nb (.cons Zob (.nil))) Tryz.func149 Tryz.call149 [] Zba 3
def Qvh(d0:gh)(gl:Int):Tree (ir×Bool):=
.br (d0.C9 !=1) (.lf ({C2:=0,At:=0,C8:=0,F0:=[]},false)) (.br (d0.F5==1) (.lf ({C2:=3,At:=gl,C8:=d0.C5,F0:=[]},true)) (.br (d0.F5==2) (.lf ({C2:=4,At:=gl,C8:=d0.C5,F0:=d0.C7},true)) (.lf ({C2:=0,At:=0,C8:=0,F0:=[]},false))))
def X8 d0 gl:=(Qvh d0 gl).m
def Zbc:bb:=mS 227 [] true [.agg gh.sig,.one (.int .u64)] [] (λa r=>Qvh (gh.of (aC a 0)) (au a 1)) (λX=>.dw [.agg (ir.cells (X.1)),.bool (X.2)]) (λX=>[])
theorem Z7i:bj pG Zbc:=oS (.nil) Tryz.func227 Tryz.call227 [] [] 2
def LV(d0:gh)(m:List Int)(port v gl:Int):Tree (gh×(List ir)):=
.br (port==4) (.lf ({ab:=d0.ab,C8:=v,Frame:=d0.Frame,C9:=d0.C9,F5:=d0.F5,C5:=d0.C5,C6:=d0.C6,C7:=d0.C7},[])) (.br (port==5) (.lf ({ab:=d0.ab,C8:=d0.C8,Frame:=v,C9:=d0.C9,F5:=d0.F5,C5:=d0.C5,C6:=d0.C6,C7:=d0.C7},[])) (.br (port !=6) (.lf (d0,[])) (let T1:Tree ((gh×(List ir))):=.br (d0.C9==0) (let T2:Tree ((gh×(List ir))):=.lf ({ab:=d0.ab,C8:=d0.C8,Frame:=d0.Frame,C9:=3,F5:=d0.F5,C5:=d0.C5,C6:=d0.C6,C7:=d0.C7},[]);.br (decide (d0.C8>=d0.ab)) T2 (.lv (tJ m d0.Frame) λ(x0:Bool)=>.br (!x0) T2 (.br (v==2) (.an (Qjb m (wrap i64 d0.Frame)) (.lv (Lz m (wrap i64 d0.Frame)) λ(x1:List UInt8×Bool)=>.lv (X8 {ab:=d0.ab,C8:=d0.C8,Frame:=d0.Frame,C9:=1,F5:=wrap i64 v,C5:=d0.C8,C6:=d0.Frame,C7:=x1.1} gl) λ(x2:ir×Bool)=>.lf ({ab:=d0.ab,C8:=d0.C8,Frame:=d0.Frame,C9:=1,F5:=wrap i64 v,C5:=d0.C8,C6:=d0.Frame,C7:=x1.1},[x2.1]))) (.lv (X8 {ab:=d0.ab,C8:=d0.C8,Frame:=d0.Frame,C9:=1,F5:=wrap i64 v,C5:=d0.C8,C6:=d0.Frame,C7:=[]} gl) λ(x3:ir×Bool)=>.lf ({ab:=d0.ab,C8:=d0.C8,Frame:=d0.Frame,C9:=1,F5:=wrap i64 v,C5:=d0.C8,C6:=d0.Frame,C7:=[]},[x3.1]))))) (.lf (d0,[]));.br (v==0) (let T3:Tree ((gh×(List ir))):=.lf ({ab:=d0.ab,C8:=d0.C8,Frame:=d0.Frame,C9:=0,F5:=d0.F5,C5:=d0.C5,C6:=d0.C6,C7:=d0.C7},[]);.br (d0.C9==2) T3 (.br (d0.C9==3) T3 (.br (v==1) T1 (.br (v==2) T1 (.lf (d0,[])))))) (.br (v==1) T1 (.br (v==2) T1 (.lf (d0,[])))))))
def X6 d0 m port v gl:=(LV d0 m port v gl).m
abbrev Qqg d0 m port v gl:=(LV d0 m port v gl).p
def Zco:bb:=mT 172 [] true [.agg gh.sig,.one (.ints .u32),.one (.int .i64),.one (.int .u32),.one (.int .u64)] [] (λa r=>LV (gh.of (aC a 0)) (de .u32 a 1) (au a 2) (au a 3) (au a 4)) (λX=>.dw [.agg (gh.cells (X.1)),.sl 4 (.ah .cf (X.2)) true]) (λX=>[])
theorem Z7x:bj pG Zco:=oT (.cons SC (.cons Z39 (.cons Z7i (.nil)))) Tryz.func172 Tryz.call172 [.sl (.ah .cf) true] [] 2
def LW(n:ik)(m:List Int)(port v gl:Int):Tree (ik×(List ir)):=
.br (port==7) (.lf ({Frame:=v,F6:=n.F6,D1:=n.D1,D2:=n.D2,C4:=n.C4,F9:=n.F9},[])) (.br (port==8) (.lf ({Frame:=n.Frame,F6:=v,D1:=n.D1,D2:=n.D2,C4:=n.C4,F9:=n.F9},[])) (.br (port !=9) (.lf (n,[])) (.br (v==0) (.lf ({Frame:=n.Frame,F6:=n.F6,D1:=n.D1,D2:=n.D2,C4:=false,F9:=0},[])) (let T1:Tree ((ik×(List ir))):=.br (v==2) (.lv (tJ m n.Frame) λ(x2:Bool)=>.br x2 (.br (!n.D1) (.br (!n.C4) (.lf ({Frame:=n.Frame,F6:=n.F6,D1:=true,D2:=n.Frame,C4:=n.C4,F9:=n.F9},[])) (.lf (n,[]))) (.lf (n,[]))) (.lf (n,[]))) (.lf (n,[]));.br (v==1) (.br (decide (n.F6>=1)) (.br (decide (n.F6<=128)) (.lv (tJ m n.Frame) λ(x0:Bool)=>.br x0 (.an (Qjb m (wrap i64 n.Frame)) (.lv (Lz m (wrap i64 n.Frame)) λ(x1:List UInt8×Bool)=>.cn (decide ((0:Int)<=(0:Int)/\0<=n.F6/\n.F6<=(x1.1.length:Int))) (.lf (n,[{C2:=2,At:=gl,C8:=0,F0:=cU (dA n.F6-dA 0) (cV (dA 0) x1.1)}])))) T1) T1) T1) T1))))
def Ya n m port v gl:=(LW n m port v gl).m
abbrev Qrr n m port v gl:=(LW n m port v gl).p
def Zia:bb:=mT 173 [] true [.agg ik.sig,.one (.ints .u32),.one (.int .i64),.one (.int .u32),.one (.int .u64)] [] (λa r=>LW (ik.of (aC a 0)) (de .u32 a 1) (au a 2) (au a 3) (au a 4)) (λX=>.dw [.agg (ik.cells (X.1)),.sl 4 (.ah .cf (X.2)) true]) (λX=>[])
theorem Zal:bj pG Zia:=oT (.cons SC (.cons Z39 (.nil))) Tryz.func173 Tryz.call173 [.sl (.ah .cf) true] [] 2
def Yf(b:gx)(m:List Int)(port v:Int)(z:(Int)×(List Int)):Nat:=(32-z.1).toNat
def Bd(b:gx)(m:List Int)(port v:Int):Tree (gx×(List Int)):=
let T1:Tree ((gx×(List Int))):=.br (port==11) (.br (decide (v<32)) (.cn (decide (0<=v)) (.lf ({A2:=b.A2,D0:=oM u32 b.D0 (ep u32 1 v)},m))) (.lf (b,m))) (.lf (b,m));.br (port==10) (.lv (tJ m v) λ(x0:Bool)=>.br x0 (.cn (decide (0<=v)) (.br (bh u32 (bm u32 b.D0 v) (1:Int)==(0:Int)) (.cn (decide (0<=v)) (.lp inferInstance (Yf b m port v (0,m)+1) ((True/\rE (v:Int)/\rZ/\rZ/\rE (0:Int)/\True)/\rE (m:List Int)/\(rE b.A2/\rE ((iN u32 b.D0 (ep u32 1 v)):Int)/\True)/\(rE (0:Int)/\rE (0:Int)/\True)/\True) (0,m) λ(v0:Int×List Int)=>.br (decide (v0.1<32)) (let E2:=wrap i64 (wrap i64 v*32)+v0.1;.cn (bX 1 1&&bN 0 1&&decide (0<=wrap i64 E2/\wrap i64 E2<(v0.2.length:Int))) (.nx ((True/\rE (v:Int)/\rZ/\rZ/\rE ((wrap i64 (v0.1+1)):Int)/\True)/\rE ((dB v0.2 (dA (wrap i64 (wrap i64 (wrap i64 v*32)+v0.1))) 0):List Int)/\(rE b.A2/\rE ((iN u32 b.D0 (ep u32 1 v)):Int)/\True)/\(rE (0:Int)/\rE (0:Int)/\True)/\True) (Sum.inl (wrap i64 (v0.1+1),dB v0.2 (dA (wrap i64 E2)) 0)))) (.lf (Sum.inr ({A2:=b.A2,D0:=iN u32 b.D0 (ep u32 1 v)},v0.2))))) T1)) T1) T1
def Q8 b m port v:=(Bd b m port v).m
abbrev Qzj b m port v:=(Bd b m port v).p
def Zkg:bu:={
 α:=(Int)×(List Int)
 F:=λst a=>([(1,.all 0),(3,(lk st 3)),(4,.ptr 1 0 0),(8,.ptr 2 0 0),(9,.int i64 a.1)],[⟨false,25,1,.ints u32 a.2⟩,⟨true,40,2,.gen [[(cT st 4 0),(cT st 4 1)]]⟩,⟨true,40,2,.gen [[(cT st 8 0),(cT st 8 1)]]⟩])
 a0:=λst=>((lk st 9).toInt,(pZ st.rows 0))
 iZ:=λst=>[0]++[(rX st 4 1),(rX st 8 2)]}
def Zbx:List (Nat×bu):=[(4,Zkg)]
def Zpy:bb:=mT 174 [false,true,false,false] true [.agg gx.sig,.one (.row 0),.one (.int .i64),.one (.int .u32)] [.arr 25 1 (.ints .u32)] (λa r=>Bd (gx.of (aC a 0)) (cy .u32 r 0) (au a 2) (au a 3)) (λX=>.agg (gx.cells (X.1))) (λX=>[⟨false,25,1,.ints .u32 (X.2)⟩])
theorem Zlo:bj pG Zpy:=oT (.cons SC (.nil)) Tryz.func174 Tryz.call174 [] Zbx 3
def KQ(m:bg)(port v:Int):Tree ((List ir)×bg):=
.br (port==0) (.lf ([{C2:=1,At:=m.B6,C8:=0,F0:=[(λ(n:Int)=>UInt8.ofNat n.toNat) (wrap u8 v)]}],m)) (.br (decide (port<=2)) (.lf ([],m)) (.br (port==3) (.lv (X3 v) λ(x0:jc)=>.lf ([],{B4:=m.B4,Mem:=m.Mem,B1:=m.B1,B8:=x0,B7:=m.B7,D4:=m.D4,A6:=m.A6,B6:=m.B6,B2:=m.B2,B5:=m.B5})) (.br (decide (port<=6)) (.an (Qqg m.B7 m.Mem port v m.B6) (.lv (X6 m.B7 m.Mem port v m.B6) λ(x1:gh×List ir)=>.lf (x1.2,{B4:=m.B4,Mem:=m.Mem,B1:=m.B1,B8:=m.B8,B7:=x1.1,D4:=m.D4,A6:=m.A6,B6:=m.B6,B2:=m.B2,B5:=m.B5}))) (.br (decide (port<=9)) (.an (Qrr m.D4 m.Mem port v m.B6) (.lv (Ya m.D4 m.Mem port v m.B6) λ(x2:ik×List ir)=>.lf (x2.2,{B4:=m.B4,Mem:=m.Mem,B1:=m.B1,B8:=m.B8,B7:=m.B7,D4:=x2.1,A6:=m.A6,B6:=m.B6,B2:=m.B2,B5:=m.B5}))) (.an (Qzj m.A6 m.Mem port v) (.lv (Q8 m.A6 m.Mem port v) λ(x3:gx×List Int)=>.lf ([],{B4:=m.B4,Mem:=x3.2,B1:=m.B1,B8:=m.B8,B7:=m.B7,D4:=m.D4,A6:=x3.1,B6:=m.B6,B2:=m.B2,B5:=m.B5})))))))
def ET m port v:=(KQ m port v).m
abbrev Z3g m port v:=(KQ m port v).p
def Ztc:bb:=mT 122 [true,false,false] true [.ptr 0,.one (.int .i64),.one (.int .u32)] [.box 43 49 (bg.il (.row 1)),.arr 25 1 (.ints .u32)] (λa r=>KQ (bg.iF (r.getD 0 default).cs (cy .u32 r 1)) (au a 1) (au a 2)) (λX=>.sl 4 (.ah .cf (X.1)) true) (λX=>[⟨true,43,49,.gen [(bg.cq (X.2) (.all 1))]⟩,⟨false,25,1,.ints .u32 (X.2).Mem⟩])
theorem Zp:bj pG Ztc:=oT (.cons Zq8 (.cons Z7x (.cons Zal (.cons Zlo (.nil))))) Tryz.func122 Tryz.call122 [.sl (.ah .cf) true,.row 25 1 (.ints .u32)] [] 2
def NO(m:bg)(clock:Int):Tree ((List ir)×bg):=
.an (Qbr m) (.lv (ri m) λ(x0:bq)=>.an (Z6m x0 m.Mem) (.lv (Bc x0 m.Mem) λ(x1:bq×lD×List Int)=>let E1:=({B4:=x1.1,Mem:=x1.2.2,B1:=m.B1,B8:=m.B8,B7:=m.B7,D4:=m.D4,A6:=m.A6,B6:=m.B6,B2:=false,B5:=m.B5}:bg);.br (x1.2.1.C2==1) (.lv (DV E1 x1.2.1.D8 clock) λ(x2:Int×bg)=>.an (Dz x2.2.B4 x1.2.1.F7 x2.1) (.lv (lH x2.2.B4 x1.2.1.F7 x2.1) λ(x3:bq)=>.lf ([],{B4:=x3,Mem:=x2.2.Mem,B1:=x2.2.B1,B8:=x2.2.B8,B7:=x2.2.B7,D4:=x2.2.D4,A6:=x2.2.A6,B6:=wrap u64 (x2.2.B6+1),B2:=x2.2.B2,B5:=x2.2.B5}))) (.br (x1.2.1.C2==2) (.an (Z3g E1 x1.2.1.D8 x1.2.1.Value) (.lv (ET E1 x1.2.1.D8 x1.2.1.Value) λ(x4:List ir×bg)=>.lf (x4.1,{B4:=x4.2.B4,Mem:=x4.2.Mem,B1:=x4.2.B1,B8:=x4.2.B8,B7:=x4.2.B7,D4:=x4.2.D4,A6:=x4.2.A6,B6:=wrap u64 (x4.2.B6+1),B2:=x4.2.B2,B5:=x4.2.B5}))) (.br (x1.2.1.C2==3) (.lf ([],{B4:=x1.1,Mem:=x1.2.2,B1:=m.B1,B8:=m.B8,B7:=m.B7,D4:=m.D4,A6:=m.A6,B6:=wrap u64 (m.B6+1),B2:=true,B5:=m.B5})) (.br (x1.2.1.C2==4) (.lf ([],{B4:=x1.1,Mem:=x1.2.2,B1:=m.B1,B8:=m.B8,B7:=m.B7,D4:=m.D4,A6:=m.A6,B6:=wrap u64 (m.B6+1),B2:=false,B5:=true})) (.lf ([],{B4:=x1.1,Mem:=x1.2.2,B1:=m.B1,B8:=m.B8,B7:=m.B7,D4:=m.D4,A6:=m.A6,B6:=wrap u64 (m.B6+1),B2:=false,B5:=m.B5})))))))
def Au m clock:=(NO m clock).m
abbrev Qi3 m clock:=(NO m clock).p
def Zci:bb:=mT 76 [true,false] true [.ptr 0,.one (.int .u32)] [.box 43 49 (bg.il (.row 1)),.arr 25 1 (.ints .u32)] (λa r=>NO (bg.iF (r.getD 0 default).cs (cy .u32 r 1)) (au a 1)) (λX=>.sl 4 (.ah .cf (X.1)) true) (λX=>[⟨true,43,49,.gen [(bg.cq (X.2) (.all 1))]⟩,⟨false,25,1,.ints .u32 (X.2).Mem⟩])
theorem Z8j:bj pG Zci:=oT (.cons Qk8 (.cons Zte (.cons Zsu (.cons Ql (.cons Zp (.nil)))))) Tryz.func76 Tryz.call76 [.sl (.ah .cf) true,.row 25 1 (.ints .u32)] [] 2

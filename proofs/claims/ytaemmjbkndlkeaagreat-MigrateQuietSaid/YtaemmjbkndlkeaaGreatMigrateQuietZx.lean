import Derived.Test.YtaemmjbkndlkeaaGreatMigrateQuietYz
open Nat renaming blt->bN,beq->bX,lt_succ_self->cN
open List renaming length->dF,replicate->cO,take->cU,drop->cV,set->dB,getD->aV
open Int renaming toNat->dA,tdiv->eF,tmod->cZ
set_option maxRecDepth 100000
set_option linter.all false
namespace Go.Proofs.YtaemmjbkndlkeaaGreat
open Go Go.GD Go.IntKind
noncomputable section
def Lx(m:List Int):Tree (List Int):=
.cn (bN (0:Nat) (1:Nat)&&bX (1:Nat) (1:Nat)&&List.all [D.int u32 (0:Int)] D.plain&&decide ((0:Int)<=(m.length:Int)/\(m.length:Int)<=(m.length:Int)/\(m.length:Int)<=(9223372036854775807:Int)/\(↑(4:Nat):Int)*(m.length:Int)<=(140737488355328:Int))) (let E1:=dF (cO (dA (m.length:Int)) (0:Int));.lf (cU (Min.min (m.length) E1) m++cV (Min.min (m.length) E1) (cO (dA (m.length:Int)) (0:Int))))
def XM m:=(Lx m).m
abbrev Qyc m:=(Lx m).p
def Zn1:ba:=mT 116 [] true [.one (.ints .u32)] [] (λa r=>Lx (dh .u32 a 0)) (λX=>.all 0) (λX=>[⟨false,25,1,.ints .u32 X⟩])
theorem Zhm:bj pG Zn1:=oT (.nil) Tryz.func116 Tryz.call116 [.row 25 1 (.ints .u32)] [] 2
def Kj(m:bb):Tree bb:=
.an (Qyc m.Mem) (.lv (XM m.Mem) λ(x0:List Int)=>.lf ({B2:=m.B2,Mem:=x0,B3:=m.B3,B8:=m.B8,B5:=m.B5,D1:=m.D1,A6:=m.A6,B7:=m.B7,B4:=m.B4,B6:=m.B6}))
def Tp m:=(Kj m).m
abbrev Qr8 m:=(Kj m).p
def Zrg:ba:=mT 74 [] true [.agg bb.sig] [] (λa r=>Kj (bb.of (aC a 0))) (λX=>.agg (bb.cj X (.all 0))) (λX=>[⟨false,25,1,.ints .u32 X.Mem⟩])
theorem Z6b:bj pG Zrg:=oT (.cons Zhm (.nil)) Tryz.func74 Tryz.call74 [.row 25 1 (.ints .u32)] [] 2
def Quf(n k:Int)(z:(Int)×(List Int)):Prop:=0<=z.1/\(z.2.length:Int)=z.1/\(z.1<=k\/z.1=0)
def TX(n k:Int)(z:(Int)×(List Int)):Nat:=(k-z.1).toNat
def LP(n k:Int):Tree (List UInt8):=
.lp inferInstance (TX n k (0,[])+1) ((rE (n:Int)/\rE (k:Int)/\True/\rE (0:Int)/\True)/\rE ([]:List Int)/\True) (0,[]) λ(v0:Int×List Int)=>.br (decide (v0.1<k)) (.lv (Zfi n (wrap i64 (eF v0.1 9))) λ(x0:Int)=>.cn (decide (1*(v0.2.length+1)<=140737488355328)) (.nx ((rE (n:Int)/\rE (k:Int)/\True/\rE ((wrap i64 (v0.1+1)):Int)/\True)/\rE ((v0.2++[wrap u8 x0]):List Int)/\True) (Sum.inl (wrap i64 (v0.1+1),v0.2++[wrap u8 x0])))) (.lf (Sum.inr (bytesOf v0.2)))
def Yb n k:=(LP n k).m
def O7(n k:Int):Prop:=
k<=1000000000000
theorem Zem(n k:Int)(hw:O7 n k):(LP n k).p:=by
 simp only[O7]at hw
 unfold Tree.p LP
 repeat'(first|refine fk (inv:=Quf n k) (μ:=TX n k) ?_ (cN _) (λ_ _=>?_)|exact trivial|refine ae (λ_=>?_) (λ_=>?_)|refine ax ?_ ?_|refine c7 ?_ ?_|refine aq (λ_ _=>?_)|refine ez ?_|refine bg ?_|refine And.intro ?_ ?_)
 all_goals((try simp only[Quf,TX]at*);exact nL)
def Zjw:cg:={
 α:=(Int)×(List Int)
 F:=λst a=>([(0,(lk st 0)),(1,(lk st 1)),(5,.all 0),(6,.int i64 a.1)],[⟨false,5,1,.ints u8 a.2⟩])
 a0:=λst=>((lk st 6).toInt,(nC st.rows (rN st 5)))
 jk:=λst=>[]++[(rX st 5 0)]}
def Z9e:List (Nat×cg):=[(3,Zjw)]
def Zo4:ba:=ly 81 [] true [.one (.int .i64),.one (.int .i64)] [] (λa r=>O7 (au a 0) (au a 1)) (λa r=>Yb (au a 0) (au a 1)) (λX=>.str X) (λX=>[])
theorem Zh4:bj pG Zo4:=uV drawn jA (.cons Z6u (.nil)) Tryz.func81 Tryz.call81 (λa r=>LP (au a 0) (au a 1)) [] Z9e 3 (hp:=λa r h=>Zem (au a 0) (au a 1) h)
def Qrq(m:List Int):Tree Int:=
.br (cZ (m.length:Int) (32:Int) !=(0:Int)) (.lf 0) (.br (decide ((m.length:Int)>(1024:Int))) (.lf 0) (.lf (wrap i64 (eF (m.length:Int) 32))))
def wu m:=(Qrq m).m
def Zif:ba:=mS 36 [] true [.one (.ints .u32)] [] (λa r=>Qrq (dh .u32 a 0)) (λX=>.int .i64 X) (λX=>[])
theorem RZ:bj pG Zif:=oS (.nil) Tryz.func36 Tryz.call36 [] [] 2
def Qn6(c:iH):Tree Bool:=
.lf (decide ((c.D9.length:Int)<=(16:Int)))
def Qkx c:=(Qn6 c).m
def Z01:ba:=mS 82 [] true [.agg iH.sig] [] (λa r=>Qn6 (iH.of (aC a 0))) (λX=>.bool X) (λX=>[])
theorem Qx6:bj pG Z01:=oS (.nil) Tryz.func82 Tryz.call82 [] [] 2
def Xk(t:iW):Tree Bool:=
.br t.F0 (.br t.D8 (.lf false) (.br t.F0 (.lf (t.D2 !=0)) (.br t.D8 (.lf true) (.lf (t.D2==0))))) (.br t.F0 (.lf (t.D2 !=0)) (.br t.D8 (.lf true) (.lf (t.D2==0))))
def Tf t:=(Xk t).m
def Z5l:ba:=mS 83 [] true [.agg iW.sig] [] (λa r=>Xk (iW.of (aC a 0))) (λX=>.bool X) (λX=>[])
theorem Z3h:bj pG Z5l:=oS (.nil) Tryz.func83 Tryz.call83 [] [] 2
def Xm(d0:fw)(bh:Int):Tree Bool:=
.br (decide (d0.ab>64)) (.lf false) (.br (decide (d0.C8<0)) (.lf false) (.br (decide (d0.C8>3)) (.lf false) (.br (d0.C8 !=1) (.br (d0.F5==0) (.br (d0.C5==0) (.br (d0.C6==0) (.lf (decide (d0.C7=[]))) (.lf false)) (.lf false)) (.lf false)) (.br (decide (d0.C5>=d0.ab)) (.lf false) (.br (decide (wrap i64 d0.C6>=bh)) (.lf false) (.br (d0.F5==1) (.br (decide (d0.C7=[])) (.lf true) (.br (d0.F5==2) (.lf ((d0.C7.length:Int)==(128:Int))) (.lf false))) (.br (d0.F5==2) (.lf ((d0.C7.length:Int)==(128:Int))) (.lf false))))))))
def Th d0 bh:=(Xm d0 bh).m
def Za1:ba:=mS 84 [] true [.agg fw.sig,.one (.int .i64)] [] (λa r=>Xm (fw.of (aC a 0)) (au a 1)) (λX=>.bool X) (λX=>[])
theorem Z56:bj pG Za1:=oS (.nil) Tryz.func84 Tryz.call84 [] [] 2
def Xl(n:gw)(bh:Int):Tree Bool:=
let T1:Tree (Bool):=.br n.C3 (.br (decide (n.F8>=1)) (.lf (decide (n.F8<=128))) (.lf false)) (.lf (n.F8==0));.br n.D3 (.br n.C3 (.lf false) (.br (decide (wrap i64 n.D4>=bh)) (.lf false) (.br (!n.D3) (.br (n.D4 !=0) (.lf false) T1) T1))) (.br (!n.D3) (.br (n.D4 !=0) (.lf false) T1) T1)
def Tg n bh:=(Xl n bh).m
def Zfs:ba:=mS 85 [] true [.agg gw.sig,.one (.int .i64)] [] (λa r=>Xl (gw.of (aC a 0)) (au a 1)) (λX=>.bool X) (λX=>[])
theorem Z97:bj pG Zfs:=oS (.nil) Tryz.func85 Tryz.call85 [] [] 2
def Qhw(b:gm)(bh:Int)(z:(Int)):Prop:=0<=z/\z<=32
def Tk(b:gm)(bh:Int)(z:(Int)):Nat:=(32-z).toNat
def Lo(b:gm)(bh:Int):Tree Bool:=
.lp inferInstance (Tk b bh 0+1) ((rE (bh:Int)/\rZ/\rE (0:Int)/\True)/\(rE b.A2/\rE b.D0/\True)/\True) 0 λ(v0:Int)=>.br (decide (v0<32)) (.cn (decide (0<=wrap u64 v0)) (let T1:Tree ((Int)⊕(Bool)):=.nx ((rE (bh:Int)/\rZ/\rE ((wrap i64 (v0+1)):Int)/\True)/\(rE b.A2/\rE b.D0/\True)/\True) (Sum.inl (wrap i64 (v0+1)));.br (bc u32 (bm u32 b.D0 (wrap u64 v0)) (1:Int)==(1:Int)) (.br (decide (v0>=bh)) (.lf (Sum.inr false)) T1) T1)) (.lf (Sum.inr true))
def Tl b bh:=(Lo b bh).m
theorem Qw(b:gm)(bh:Int):(Lo b bh).p:=by
 unfold Tree.p Lo
 repeat'(first|refine fk (inv:=Qhw b bh) (μ:=Tk b bh) ?_ (cN _) (λ_ _=>?_)|exact trivial|refine ae (λ_=>?_) (λ_=>?_)|refine ax ?_ ?_|refine c7 ?_ ?_|refine aq (λ_ _=>?_)|refine ez ?_|refine bg ?_|refine And.intro ?_ ?_)
 all_goals((try simp only[Qhw,Tk]at*);exact nL)
def Qxr:cg:={
 α:=(Int)
 F:=λst a=>([(1,(lk st 1)),(2,.ptr 0 0 0),(5,.int i64 a)],[⟨true,40,2,.gen [[(cT st 2 0),(cT st 2 1)]]⟩])
 a0:=λst=>(lk st 5).toInt
 jk:=λst=>[]++[(rX st 2 0)]}
def Qtt:List (Nat×cg):=[(2,Qxr)]
def Qz0:ba:=mS 86 [] true [.agg gm.sig,.one (.int .i64)] [] (λa r=>Lo (gm.of (aC a 0)) (au a 1)) (λX=>.bool X) (λX=>[])
theorem Qwj:bj pG Qz0:=oS (.nil) Tryz.func86 Tryz.call86 [] Qtt 3 (λ_ _ _=>by kernel_rfl) (λa r=>Qw (gm.of (aC a 0)) (au a 1)) (λ_ X=>by kernel_rfl)
def XD(m:bb):Tree Bool:=
.lv (wu m.Mem) λ(x0:Int)=>.br (decide (x0<1)) (.lf false) (.br (m.B2.X.a0 !=0) (.lf false) (.br (decide (m.B2.C2.a0>31)) (.lf false) (.br (decide (m.B2.C2.a7>31)) (.lf false) (.br (decide (m.B2.C2.a6>255)) (.lf false) (.br (cZ m.B2.C2.a1 (4:Int) !=(0:Int)) (.lf false) (.lv (Qkx m.B3) λ(x1:Bool)=>.br (!x1) (.lf false) (.lv (Tf m.B8) λ(x2:Bool)=>.br (!x2) (.lf false) (.lv (Th m.B5 x0) λ(x3:Bool)=>.br (!x3) (.lf false) (.lv (Tg m.D1 x0) λ(x4:Bool)=>.br (!x4) (.lf false) (.lv (Tl m.A6 x0) λ(x5:Bool)=>.br (!x5) (.lf false) (.br (decide (m.B7<=1152921504606846976)) (.br m.B4 (.lf (!m.B6)) (.lf true)) (.lf false))))))))))))
def IL m:=(XD m).m
def Zrz:ba:=mS 34 [] true [.agg bb.sig] [] (λa r=>XD (bb.of (aC a 0))) (λX=>.bool X) (λX=>[])
theorem Z7c:bj pG Zrz:=oS (.cons RZ (.cons Qx6 (.cons Z3h (.cons Z56 (.cons Z97 (.cons Qwj (.nil))))))) Tryz.func34 Tryz.call34 [] [] 2
def Rk(is:Bool)(n:Int):Tree Int:=
.br is (.cn (decide (0<=wrap u64 n)) (.lf (eu u32 1 (wrap u64 n)))) (.lf 0)
def DL is n:=(Rk is n).m
abbrev R3 is n:=(Rk is n).p
def Zlu:ba:=mT 255 [] true [.one (.bool),.one (.int .i64)] [] (λa r=>Rk (kE a 0) (au a 1)) (λX=>.int .u32 X) (λX=>[])
theorem Zi5:bj pG Zlu:=oT (.nil) Tryz.func255 Tryz.call255 [] [] 2
def Ql0(t:iW):Tree Bool:=
.lf t.D8
def XG t:=(Ql0 t).m
def Qvh:ba:=mS 256 [] true [.agg iW.sig] [] (λa r=>Ql0 (iW.of (aC a 0))) (λX=>.bool X) (λX=>[])
theorem Qty:bj pG Qvh:=oS (.nil) Tryz.func256 Tryz.call256 [] [] 2
def Qg8(c:iH):Tree Bool:=
.lf (decide ((c.D9.length:Int)>(0:Int)))
def Q6 c:=(Qg8 c).m
def Qsf:ba:=mS 257 [] true [.agg iH.sig] [] (λa r=>Qg8 (iH.of (aC a 0))) (λX=>.bool X) (λX=>[])
theorem Qqc:bj pG Qsf:=oS (.nil) Tryz.func257 Tryz.call257 [] [] 2
def Qlj(d0:fw):Tree Bool:=
.br (d0.C8==2) (.lf true) (.lf (d0.C8==3))
def XH d0:=(Qlj d0).m
def Qxk:ba:=mS 258 [] true [.agg fw.sig] [] (λa r=>Qlj (fw.of (aC a 0))) (λX=>.bool X) (λX=>[])
theorem Qvv:bj pG Qxk:=oS (.nil) Tryz.func258 Tryz.call258 [] [] 2
def Qmu(n:gw):Tree Bool:=
.lf n.C3
def XI n:=(Qmu n).m
def Z0f:ba:=mS 259 [] true [.agg gw.sig] [] (λa r=>Qmu (gw.of (aC a 0))) (λX=>.bool X) (λX=>[])
theorem Qw9:bj pG Z0f:=oS (.nil) Tryz.func259 Tryz.call259 [] [] 2
def Qr1(b:gm)(z:(Int)×(Int)):Prop:=0<=z.2/\z.2<=32
def Qhk(b:gm)(z:(Int)×(Int)):Nat:=(32-z.2).toNat
def VC(b:gm):Tree Int:=
.lp inferInstance (Qhk b (0,0)+1) ((rZ/\rE (0:Int)/\rE (0:Int)/\True)/\(rE b.A2/\rE b.D0/\True)/\True) (0,0) λ(v0:Int×Int)=>.br (decide (v0.2<32)) (.cn (decide (0<=wrap u64 v0.2)) (.nx ((rZ/\rE ((wrap i64 (v0.1+wrap i64 (bc u32 (bm u32 b.D0 (wrap u64 v0.2)) 1))):Int)/\rE ((wrap i64 (v0.2+1)):Int)/\True)/\(rE b.A2/\rE b.D0/\True)/\True) (Sum.inl (wrap i64 (v0.1+wrap i64 (bc u32 (bm u32 b.D0 (wrap u64 v0.2)) 1)),wrap i64 (v0.2+1))))) (.lf (Sum.inr v0.1))
def Lh b:=(VC b).m
theorem Zam(b:gm):(VC b).p:=by
 unfold Tree.p VC
 repeat'(first|refine fk (inv:=Qr1 b) (μ:=Qhk b) ?_ (cN _) (λ_ _=>?_)|exact trivial|refine ae (λ_=>?_) (λ_=>?_)|refine ax ?_ ?_|refine c7 ?_ ?_|refine aq (λ_ _=>?_)|refine ez ?_|refine bg ?_|refine And.intro ?_ ?_)
 all_goals((try simp only[Qr1,Qhk]at*);exact nL)
def Zg0:cg:={
 α:=(Int)×(Int)
 F:=λst a=>([(1,.ptr 0 0 0),(3,.int i64 a.1),(4,.int i64 a.2)],[⟨true,40,2,.gen [[(cT st 1 0),(cT st 1 1)]]⟩])
 a0:=λst=>((lk st 3).toInt,(lk st 4).toInt)
 jk:=λst=>[]++[(rX st 1 0)]}
def Z8k:List (Nat×cg):=[(3,Zg0)]
def Zjz:ba:=mS 225 [] true [.agg gm.sig] [] (λa r=>VC (gm.of (aC a 0))) (λX=>.int .i64 X) (λX=>[])
theorem Qwx:bj pG Zjz:=oS (.nil) Tryz.func225 Tryz.call225 [] Z8k 3 (λ_ _ _=>by kernel_rfl) (λa r=>Zam (gm.of (aC a 0))) (λ_ X=>by kernel_rfl)
def Xy(b:gm):Tree Bool:=
.lv (Lh b) λ(x0:Int)=>.lf (wrap u64 x0 !=wrap u64 b.A2)
def Oe b:=(Xy b).m
def Qrc:ba:=mS 260 [] true [.agg gm.sig] [] (λa r=>Xy (gm.of (aC a 0))) (λX=>.bool X) (λX=>[])
theorem Qqo:bj pG Qrc:=oS (.cons Qwx (.nil)) Tryz.func260 Tryz.call260 [] [] 2
def Rl(m:bb):Tree Int:=
.lv (XG m.B8) λ(x0:Bool)=>.an (R3 x0 0) (.lv (DL x0 0) λ(x1:Int)=>.lv (Q6 m.B3) λ(x2:Bool)=>.an (R3 x2 1) (.lv (DL x2 1) λ(x3:Int)=>.lv (XH m.B5) λ(x4:Bool)=>.an (R3 x4 2) (.lv (DL x4 2) λ(x5:Int)=>.lv (XI m.D1) λ(x6:Bool)=>.an (R3 x6 3) (.lv (DL x6 3) λ(x7:Int)=>.lv (Oe m.A6) λ(x8:Bool)=>.an (R3 x8 4) (.lv (DL x8 4) λ(x9:Int)=>.lf (iN u32 (iN u32 (iN u32 (iN u32 x1 x3) x5) x7) x9))))))
def Og m:=(Rl m).m
abbrev Qud m:=(Rl m).p
def Zk8:ba:=mT 210 [] true [.agg bb.sig] [] (λa r=>Rl (bb.of (aC a 0))) (λX=>.int .u32 X) (λX=>[])
theorem Zec:bj pG Zk8:=oT (.cons Zi5 (.cons Qty (.cons Qqc (.cons Qvv (.cons Qw9 (.cons Qqo (.nil))))))) Tryz.func210 Tryz.call210 [] [] 2
def Q9(m:bb):Tree Int:=
.an (Qud m) (.lv (Og m) λ(x0:Int)=>.lf (bc u32 x0 m.B2.C2.a7))
def AY m:=(Q9 m).m
abbrev Qhb m:=(Q9 m).p
def Z9p:ba:=mT 156 [] true [.agg bb.sig] [] (λa r=>Q9 (bb.of (aC a 0))) (λX=>.int .u32 X) (λX=>[])
theorem Qr4:bj pG Z9p:=oT (.cons Zec (.nil)) Tryz.func156 Tryz.call156 [] [] 2
def Lv(m:bb):Tree Bool:=
.br m.B4 (.an (Qhb m) (.lv (AY m) λ(x0:Int)=>.lf (x0==0))) (.lf false)
def IN m:=(Lv m).m
abbrev Qp5 m:=(Lv m).p
def Zlv:ba:=mT 117 [] true [.agg bb.sig] [] (λa r=>Lv (bb.of (aC a 0))) (λX=>.bool X) (λX=>[])
theorem Z1u:bj pG Zlv:=oT (.cons Qr4 (.nil)) Tryz.func117 Tryz.call117 [] [] 2
def Qa(m:bb):Tree Bool:=
.lv (IL m) λ(x0:Bool)=>.br (!x0) (.lf true) (.br m.B6 (.lf true) (.an (Qp5 m) (.lv (IN m) λ(x1:Bool)=>.br x1 (.lf true) (.lf (decide (m.B7>=1152921504606846976))))))
def GG m:=(Qa m).m
abbrev Qv m:=(Qa m).p
def Zh5:ba:=mT 75 [] true [.agg bb.sig] [] (λa r=>Qa (bb.of (aC a 0))) (λX=>.bool X) (λX=>[])
theorem Zen:bj pG Zh5:=oT (.cons Z7c (.cons Z1u (.nil))) Tryz.func75 Tryz.call75 [] [] 2
end
noncomputable section
def K3(m:List Int)(addr size v:Int):Tree (List Int):=
let E1:=bX 1 1&&bN 0 1&&decide (0<=wrap u32 (eF addr 4)/\wrap u32 (eF addr 4)<(m.length:Int));let E2:=dA (wrap u32 (eF addr 4));.br (size==4) (.cn E1 (.lf (dB m E2 v))) (.cn E1 (let E3:=decide (0<=wrap u32 (8*cZ addr 4));.cn E3 (.cn E3 (.cn E1 (.lf (dB m E2 (iN u32 (oJ u32 (m.getD E2 0) (eu u32 255 (wrap u32 (8*cZ addr 4)))) (eu u32 (bc u32 v 255) (wrap u32 (8*cZ addr 4))))))))))
def IF m addr size v:=(K3 m addr size v).m
abbrev Qly m addr size v:=(K3 m addr size v).p
def Zsa:ba:=mT 221 [true,false,false,false] true [.one (.row 0),.one (.int .u32),.one (.int .i64),.one (.int .u32)] [.arr 25 1 (.ints .u32)] (λa r=>K3 (cy .u32 r 0) (au a 1) (au a 2) (au a 3)) (λX=>.dw []) (λX=>[⟨false,25,1,.ints .u32 X⟩])
theorem Z4e:bj pG Zsa:=oT (.nil) Tryz.func221 Tryz.call221 [] [] 2
def Zat(b:Bool):Tree Int:=
.br b (.lf 1) (.lf 0)
def Cb b:=(Zat b).m
def Zs3:ba:=mS 211 [] true [.one (.bool)] [] (λa r=>Zat (kE a 0)) (λX=>.int .u32 X) (λX=>[])
theorem Qw3:bj pG Zs3:=oS (.nil) Tryz.func211 Tryz.call211 [] [] 2
def NZ(c:bq)(oB bad:Int):Tree bq:=
.lv (Cb (bc u32 c.C2.a0 (1:Int) !=(0:Int))) λ(x0:Int)=>.lv (Cb (bc u32 c.C2.a0 (2:Int) !=(0:Int))) λ(x1:Int)=>.lf ({X:=c.X,Pc:=c.C2.a1,C2:={a0:=iN u32 (oJ u32 (iN u32 (iN u32 (oJ u32 c.C2.a0 24) (wrap u32 (8*x0))) (wrap u32 (16*x1))) 2) 1,a1:=c.C2.a1,a2:=c.Pc,a3:=wrap u32 oB,a4:=bad,a5:=c.C2.a5,a6:=c.C2.a6,a7:=c.C2.a7}})
def pL c oB bad:=(NZ c oB bad).m
def Zlq:ba:=mS 157 [] true [.agg bq.sig,.one (.int .i64),.one (.int .u32)] [] (λa r=>NZ (bq.of (aC a 0)) (au a 1) (au a 2)) (λX=>.agg (bq.cells X)) (λX=>[])
theorem VD:bj pG Zlq:=oS (.cons Qw3 (.nil)) Tryz.func157 Tryz.call157 [] [] 2
def ID(m:List Int)(addr size:Int):Tree Bool:=
let T1:Tree (Bool):=.cn (decide (wrap u32 size≠0)) (.br (cZ addr (wrap u32 size)==0) (.lv (wu m) λ(x0:Int)=>.lf (decide (addr<wrap u32 (wrap i64 (128*x0))))) (.lf false));.br (size !=1) (.br (size !=4) (.lf false) T1) T1
def uk m addr size:=(ID m addr size).m
abbrev Qdj m addr size:=(ID m addr size).p
def Zfq:ba:=mT 214 [] true [.one (.ints .u32),.one (.int .u32),.one (.int .i64)] [] (λa r=>ID (dh .u32 a 0) (au a 1) (au a 2)) (λX=>.bool X) (λX=>[])
theorem Qmb:bj pG Zfq:=oT (.cons RZ (.nil)) Tryz.func214 Tryz.call214 [] [] 2
def DI(m:List Int)(addr size:Int):Tree (Int×Bool):=
.an (Qdj m addr size) (.lv (uk m addr size) λ(x0:Bool)=>.br (!x0) (.lf (0,false)) (.cn (bX 1 1&&bN 0 1&&decide (0<=wrap u32 (eF addr 4)/\wrap u32 (eF addr 4)<(m.length:Int))) (.br (size==1) (.cn (decide (0<=wrap u32 (8*cZ addr 4))) (.lf (bc u32 (bm u32 (m.getD (dA (wrap u32 (eF addr 4))) 0) (wrap u32 (8*cZ addr 4))) 255,true))) (.lf (m.getD (dA (wrap u32 (eF addr 4))) 0,true)))))
def oL m addr size:=(DI m addr size).m
abbrev Vp m addr size:=(DI m addr size).p
def Zod:ba:=mT 159 [] true [.one (.ints .u32),.one (.int .u32),.one (.int .i64)] [] (λa r=>DI (dh .u32 a 0) (au a 1) (au a 2)) (λX=>.dw [.int .u32 (X.1),.bool (X.2)]) (λX=>[])
theorem Qsm:bj pG Zod:=oT (.cons Qmb (.nil)) Tryz.func159 Tryz.call159 [] [] 2
def KW(w:Int):Tree (ia×Bool):=
.lv (oK (wrap i64 (bm u32 w 24))) λ(x0:Int)=>let E5:=({Op:=0,A:=0,B:=0,C:=0,cf:=0}:ia);.br (x0==0) (.lf (E5,false)) (.br (x0==2) (let E3:=({Op:=wrap i64 (bm u32 w 24),A:=wrap i64 (bc u32 (bm u32 w 20) 15),B:=wrap i64 (bc u32 (bm u32 w 16) 15),C:=wrap i64 (bc u32 w 65535),cf:=0}:ia);.lv (EC E3) λ(x1:Bool)=>.br (!x1) (.lf (E5,false)) (.lf (E3,true))) (let T1:Tree ((ia×Bool)):=let E2:=({Op:=wrap i64 (bm u32 w 24),A:=wrap i64 (bc u32 (bm u32 w 20) 15),B:=wrap i64 (bc u32 (bm u32 w 16) 15),C:=0,cf:=wrap i32 (wrap i16 (bc u32 w 65535))}:ia);.lv (EC E2) λ(x2:Bool)=>.br (!x2) (.lf (E5,false)) (.lf (E2,true));.br (x0==3) T1 (.br (x0==7) T1 (let E4:=({Op:=wrap i64 (bm u32 w 24),A:=wrap i64 (bc u32 (bm u32 w 20) 15),B:=wrap i64 (bc u32 (bm u32 w 16) 15),C:=0,cf:=wrap i32 (bc u32 w 65535)}:ia);.lv (EC E4) λ(x4:Bool)=>.br (!x4) (.lf (E5,false)) (.lf (E4,true))))))
def AT w:=(KW w).m
def Zfy:ba:=mS 160 [] true [.one (.int .u32)] [] (λa r=>KW (au a 0)) (λX=>.dw [.agg (ia.cells (X.1)),.bool (X.2)]) (λX=>[])
theorem Qus:bj pG Zfy:=oS (.cons RD (.cons Qwt (.nil))) Tryz.func160 Tryz.call160 [] [] 2
def Z17(access:Int):Tree Bool:=
.br (decide (access>=1)) (.lf (decide (access<=3))) (.lf false)
def NV access:=(Z17 access).m
def Zjl:ba:=mS 212 [] true [.one (.int .i64)] [] (λa r=>Z17 (au a 0)) (λX=>.bool X) (λX=>[])
theorem Qx3:bj pG Zjl:=oS (.nil) Tryz.func212 Tryz.call212 [] [] 2
def Z1p(c:bq):Tree Bool:=
.lf (bc u32 c.C2.a0 (5:Int)==(4:Int))
def Xc c:=(Z1p c).m
def Zj3:ba:=mS 213 [] true [.agg bq.sig] [] (λa r=>Z1p (bq.of (aC a 0))) (λX=>.bool X) (λX=>[])
theorem Zeg:bj pG Zj3:=oS (.nil) Tryz.func213 Tryz.call213 [] [] 2
def Ld(access:Int):Tree Int:=
.br (access==1) (.lf 4) (.br (access==3) (.lf 6) (.lf 5))
def Ca access:=(Ld access).m
def Za:ba:=mS 215 [] true [.one (.int .i64)] [] (λa r=>Ld (au a 0)) (λX=>.int .i64 X) (λX=>[])
theorem Qsg:bj pG Za:=oS (.nil) Tryz.func215 Tryz.call215 [] [] 2
def Gz(m:List Int)(root va access:Int):Tree rB:=
.lv (Ca access) λ(x0:Int)=>.lv (wu m) λ(x1:Int)=>.lv (NV access) λ(x2:Bool)=>let E4:=({Addr:=0,G1:=0,G0:=x0}:rB);.br (!x2) (.lf (E4)) (.br (decide (va>=4096)) (.lf (E4)) (.br (decide (root>=wrap u32 x1)) (.lf (E4)) (let E6:=wrap u32 (root*128)+wrap u32 (4*wrap u32 (eF va 128));let E3:=eF (wrap u32 E6) 4;.cn (bX 1 1&&bN 0 1&&decide (0<=wrap u32 E3/\wrap u32 E3<(m.length:Int))) (let E5:=m.getD (dA (wrap u32 E3)) 0;.br (bc u32 E5 (1:Int)==(0:Int)) (.lf (E4)) (let T1:Tree (rB):=.br (decide (bc u32 (bm u32 E5 8) 255>=wrap u32 x1)) (.lf (E4)) (.lf ({Addr:=wrap u32 (wrap u32 (bc u32 (bm u32 E5 8) (255:Int)*(128:Int))+cZ va 128),G1:=wrap u32 E6,G0:=0}));let T2:Tree (rB):=.br (access==1) (.br (bc u32 E5 (4:Int)==(0:Int)) (.lf (E4)) T1) T1;.br (access==3) (.br (bc u32 E5 (2:Int)==(0:Int)) (.lf (E4)) T2) T2)))))
def Al m root va access:=(Gz m root va access).m
abbrev Qxo m root va access:=(Gz m root va access).p
def Zml:ba:=mT 216 [] true [.one (.ints .u32),.one (.int .u32),.one (.int .u32),.one (.int .i64)] [] (λa r=>Gz (dh .u32 a 0) (au a 1) (au a 2) (au a 3)) (λX=>.agg (rB.cells X)) (λX=>[])
theorem Zlh:bj pG Zml:=oT (.cons Qsg (.cons RZ (.cons Qx3 (.nil)))) Tryz.func216 Tryz.call216 [] [] 2
def K7(m:List Int)(entry access:Int):Tree (List Int):=
.an (Qdj m entry 4) (.lv (uk m entry 4) λ(x0:Bool)=>.br (!x0) (.lf m) (let E3:=bX 1 1&&bN 0 1&&decide (0<=wrap u32 (eF entry 4)/\wrap u32 (eF entry 4)<(m.length:Int));.cn E3 (.cn E3 (let E4:=dA (wrap u32 (eF entry 4));let E1:=dB m E4 (iN u32 (m.getD E4 0) 8);.br (access==3) (let E2:=bX 1 1&&bN 0 1&&decide (0<=wrap u32 (eF entry 4)/\wrap u32 (eF entry 4)<(↑(dF E1):Int));.cn E2 (.cn E2 (.lf (dB E1 E4 (iN u32 (aV E1 E4 0) 16))))) (.lf E1)))))
def S6 m entry access:=(K7 m entry access).m
abbrev Qx2 m entry access:=(K7 m entry access).p
def Znd:ba:=mT 217 [true,false,false] true [.one (.row 0),.one (.int .u32),.one (.int .i64)] [.arr 25 1 (.ints .u32)] (λa r=>K7 (cy .u32 r 0) (au a 1) (au a 2)) (λX=>.dw []) (λX=>[⟨false,25,1,.ints .u32 X⟩])
theorem Zi9:bj pG Znd:=oT (.cons Qmb (.nil)) Tryz.func217 Tryz.call217 [] [] 2
def II(c:bq)(m:List Int)(va size access:Int):Tree (Int×Int×(List Int)):=
.lv (NV access) λ(x0:Bool)=>.br (!x0) (.lf (0,5,m)) (let T1:Tree ((Int×Int×(List Int))):=.cn (decide (wrap u32 size≠0)) (.br (cZ va (wrap u32 size) !=0) (.lf (0,3,m)) (.lv (Xc c) λ(x1:Bool)=>.br (!x1) (.an (Qdj m va size) (.lv (uk m va size) λ(x2:Bool)=>.br (!x2) (.lv (Ca access) λ(x3:Int)=>.lf (0,x3,m)) (.lf (va,0,m)))) (.an (Qxo m c.C2.a6 va access) (.lv (Al m c.C2.a6 va access) λ(x4:rB)=>.br (x4.G0 !=0) (.lf (0,x4.G0,m)) (.an (Qx2 m x4.G1 access) (.lv (S6 m x4.G1 access) λ(x5:List Int)=>.lf (x4.Addr,0,x5)))))));.br (size !=1) (.br (size !=4) (.lf (0,5,m)) T1) T1)
def lN c m va size access:=(II c m va size access).m
abbrev R4 c m va size access:=(II c m va size access).p
def Zhf:ba:=mT 158 [false,true,false,false,false] true [.agg bq.sig,.one (.row 0),.one (.int .u32),.one (.int .i64),.one (.int .i64)] [.arr 25 1 (.ints .u32)] (λa r=>II (bq.of (aC a 0)) (cy .u32 r 0) (au a 2) (au a 3) (au a 4)) (λX=>.dw [.int .u32 (X.1),.int .i64 (X.2.1)]) (λX=>[⟨false,25,1,.ints .u32 (X.2.2)⟩])
theorem Qyi:bj pG Zhf:=oT (.cons Qx3 (.cons Zeg (.cons Qmb (.cons Qsg (.cons Zlh (.cons Zi9 (.nil))))))) Tryz.func158 Tryz.call158 [] [] 2
def Qnh(op:Int):Tree Bool:=
.br (decide (op>=57)) (.lf (decide (op<=64))) (.lf false)
def KT op:=(Qnh op).m
def Qyn:ba:=mS 161 [] true [.one (.int .i64)] [] (λa r=>Qnh (au a 0)) (λX=>.bool X) (λX=>[])
theorem Qx9:bj pG Qyn:=oS (.nil) Tryz.func161 Tryz.call161 [] [] 2
def N1(c:bq):Tree bq:=
.lv (Cb (bc u32 c.C2.a0 (8:Int) !=(0:Int))) λ(x0:Int)=>.lv (Cb (bc u32 c.C2.a0 (16:Int) !=(0:Int))) λ(x1:Int)=>.lf ({X:=c.X,Pc:=c.C2.a2,C2:={a0:=iN u32 (iN u32 (oJ u32 c.C2.a0 3) (wrap u32 (1*x0))) (wrap u32 (2*x1)),a1:=c.C2.a1,a2:=c.C2.a2,a3:=c.C2.a3,a4:=c.C2.a4,a5:=c.C2.a5,a6:=c.C2.a6,a7:=c.C2.a7}})
def S7 c:=(N1 c).m
def Zgn:ba:=mS 218 [] true [.agg bq.sig] [] (λa r=>N1 (bq.of (aC a 0))) (λX=>.agg (bq.cells X)) (λX=>[])
theorem Zae:bj pG Zgn:=oS (.cons Qw3 (.nil)) Tryz.func218 Tryz.call218 [] [] 2
def IH(c:bq)(r v:Int):Tree bq:=
.br (decide (r>0)) (.br (decide (r<16)) (.cn (bN 0 1&&decide (0<=r/\r<(↑16:Int))) (.lf ({X:=iu.of 0 (dB (iu.l c.X) r.toNat v),Pc:=c.Pc,C2:=c.C2}))) (.lf c)) (.lf c)
def lG c r v:=(IH c r v).m
abbrev Dp c r v:=(IH c r v).p
def Zrr:ba:=mT 121 [] true [.agg bq.sig,.one (.int .i64),.one (.int .u32)] [] (λa r=>IH (bq.of (aC a 0)) (au a 1) (au a 2)) (λX=>.agg (bq.cells X)) (λX=>[])
theorem R5:bj pG Zrr:=oT (.nil) Tryz.func121 Tryz.call121 [] [] 2
def Lf(c:bq)(jr v:Int):Tree bq:=
let E4:=bN 0 1&&decide (0<=jr/\jr<(↑8:Int));let T2:Tree (bq):=.cn E4 (.lf ({X:=c.X,Pc:=c.Pc,C2:=A8.of 0 (dB (A8.l c.C2) jr.toNat (bc u32 v 31))}));.br (jr==0) T2 (.br (jr==7) T2 (.br (jr==6) (.cn E4 (.lf ({X:=c.X,Pc:=c.Pc,C2:=A8.of 0 (dB (A8.l c.C2) jr.toNat (bc u32 v 255))}))) (let T3:Tree (bq):=.cn E4 (.lf ({X:=c.X,Pc:=c.Pc,C2:=A8.of 0 (dB (A8.l c.C2) jr.toNat (oJ u32 v 3))}));.br (jr==1) T3 (.br (jr==2) T3 (let T1:Tree (bq):=.cn E4 (.lf ({X:=c.X,Pc:=c.Pc,C2:=A8.of 0 (dB (A8.l c.C2) jr.toNat v)}));.br (jr==3) T1 (.br (jr==4) T1 (.br (jr==5) T1 (.lf c))))))))
def N5 c jr v:=(Lf c jr v).m
abbrev Qub c jr v:=(Lf c jr v).p
def Zgx:ba:=mT 219 [] true [.agg bq.sig,.one (.int .i64),.one (.int .u32)] [] (λa r=>Lf (bq.of (aC a 0)) (au a 1) (au a 2)) (λX=>.agg (bq.cells X)) (λX=>[])
theorem Zgt:bj pG Zgx:=oT (.nil) Tryz.func219 Tryz.call219 [] [] 2
def Rf(c:bq)(i:ia):Tree (bq×lz):=
.br (i.Op==56) (.lv (pL c 7 0) λ(x0:bq)=>.lf (x0,{C4:=0,E0:=0,F9:=0,Value:=0})) (.br (i.Op==57) (.lv (S7 c) λ(x1:bq)=>.lf (x1,{C4:=0,E0:=0,F9:=0,Value:=0})) (.br (i.Op==58) (.cn (bN 0 1&&decide (0<=i.cf/\i.cf<(↑8:Int))) (let E3:=aV (A8.l c.C2) i.cf.toNat 0;.an (Dp c i.A E3) (.lv (lG c i.A E3) λ(x2:bq)=>.lf ({X:=x2.X,Pc:=wrap u32 (x2.Pc+4),C2:=x2.C2},{C4:=0,E0:=0,F9:=0,Value:=0})))) (let E2:=bN 0 1&&decide (0<=i.A/\i.A<(↑16:Int));.br (i.Op==59) (.cn E2 (let E4:=aV (iu.l c.X) i.A.toNat 0;.an (Qub c (wrap i64 i.cf) E4) (.lv (N5 c (wrap i64 i.cf) E4) λ(x3:bq)=>.lf ({X:=x3.X,Pc:=wrap u32 (x3.Pc+4),C2:=x3.C2},{C4:=0,E0:=0,F9:=0,Value:=0})))) (let E1:=({X:=c.X,Pc:=wrap u32 (c.Pc+4),C2:=c.C2}:bq);.br (i.Op==60) (.lf (E1,{C4:=1,E0:=wrap i64 i.cf,F9:=i.A,Value:=0})) (.br (i.Op==61) (.cn E2 (.lf (E1,{C4:=2,E0:=wrap i64 i.cf,F9:=0,Value:=aV (iu.l c.X) i.A.toNat 0}))) (.br (i.Op==62) (.lf (E1,{C4:=3,E0:=0,F9:=0,Value:=0})) (.br (i.Op==63) (.lf (E1,{C4:=5,E0:=0,F9:=0,Value:=0})) (.br (i.Op==64) (.lf (E1,{C4:=4,E0:=0,F9:=0,Value:=0})) (.lf (E1,{C4:=0,E0:=0,F9:=0,Value:=0}))))))))))
def Xg c i:=(Rf c i).m
abbrev Qqr c i:=(Rf c i).p
def Zdv:ba:=mT 162 [] true [.agg bq.sig,.agg ia.sig] [] (λa r=>Rf (bq.of (aC a 0)) (ia.of (aC a 1))) (λX=>.dw [.agg (bq.cells (X.1)),.agg (lz.cells (X.2))]) (λX=>[])
theorem Z96:bj pG Zdv:=oT (.cons VD (.cons Zae (.cons R5 (.cons Zgt (.nil))))) Tryz.func162 Tryz.call162 [] [] 2
def Z1h(op a b:Int):Tree Bool:=
.br (op==40) (.lf (a==b)) (.br (op==41) (.lf (a !=b)) (.br (op==42) (.lf (decide (wrap i32 a<wrap i32 b))) (.br (op==43) (.lf (decide (wrap i32 a>=wrap i32 b))) (.br (op==44) (.lf (decide (a<b))) (.lf (decide (a>=b)))))))
def rb op a b:=(Z1h op a b).m
def Zim:ba:=mS 220 [] true [.one (.int .i64),.one (.int .u32),.one (.int .u32)] [] (λa r=>Z1h (au a 0) (au a 1) (au a 2)) (λX=>.bool X) (λX=>[])
theorem Zfz:bj pG Zim:=oS (.nil) Tryz.func220 Tryz.call220 [] [] 2
def Rg(c:bq)(i:ia):Tree bq:=
.br (i.Op==48) (.an (Dp c i.A (wrap u32 (c.Pc+4))) (.lv (lG c i.A (wrap u32 (c.Pc+4))) λ(x0:bq)=>.lf ({X:=x0.X,Pc:=wrap u32 (c.Pc+wrap u32 (4*wrap u32 i.cf)),C2:=x0.C2}))) (let E1:=bN 0 1&&decide (0<=i.B/\i.B<(↑16:Int));.br (i.Op==49) (.cn E1 (.an (Dp c i.A (wrap u32 (c.Pc+4))) (.lv (lG c i.A (wrap u32 (c.Pc+4))) λ(x1:bq)=>.lf ({X:=x1.X,Pc:=wrap u32 (aV (iu.l c.X) i.B.toNat 0+wrap u32 i.cf),C2:=x1.C2})))) (.cn (bN 0 1&&decide (0<=i.A/\i.A<(↑16:Int))) (.cn E1 (.lv (rb i.Op (aV (iu.l c.X) i.A.toNat 0) (aV (iu.l c.X) i.B.toNat 0)) λ(x2:Bool)=>.br x2 (.lf ({X:=c.X,Pc:=wrap u32 (c.Pc+wrap u32 (4*wrap u32 i.cf)),C2:=c.C2})) (.lf ({X:=c.X,Pc:=wrap u32 (c.Pc+4),C2:=c.C2}))))))
def Z7k c i:=(Rg c i).m
abbrev Qxf c i:=(Rg c i).p
def Zo7:ba:=mT 163 [] true [.agg bq.sig,.agg ia.sig] [] (λa r=>Rg (bq.of (aC a 0)) (ia.of (aC a 1))) (λX=>.agg (bq.cells X)) (λX=>[])
theorem Zke:bj pG Zo7:=oT (.cons R5 (.cons Zfz (.nil))) Tryz.func163 Tryz.call163 [] [] 2
def Re(x n:Int):Tree Int:=
.br (decide (n<1)) (.lf 0) (.br (decide (n>=32)) (.lf x) (.cn (decide (0<=wrap u64 n)) (.cn (decide (0<=wrap u64 (wrap i64 (n-1)))) (let E1:=bc u32 x (wrap u32 (eu u32 1 (wrap u64 n)-1));.br (bm u32 E1 (wrap u64 (wrap i64 (n-1)))==1) (.cn (decide (0<=wrap u64 n)) (.lf (iN u32 E1 (eu u32 4294967295 (wrap u64 n))))) (.lf E1)))))
def Gv x n:=(Re x n).m
abbrev Qcn x n:=(Re x n).p
def Qyx:ba:=mT 222 [] true [.one (.int .u32),.one (.int .i64)] [] (λa r=>Re (au a 0) (au a 1)) (λX=>.int .u32 X) (λX=>[])
theorem Qxz:bj pG Qyx:=oT (.nil) Tryz.func222 Tryz.call222 [] [] 2
def Rh(c:bq)(m:List Int)(i:ia):Tree (bq×(List Int)):=
.cn (bN 0 1&&decide (0<=i.B/\i.B<(↑16:Int))) (let E4:=wrap u32 (aV (iu.l c.X) i.B.toNat 0+wrap u32 i.cf);let E5:=aV (iu.l c.X) i.A.toNat 0;let E6:=bN 0 1&&decide (0<=i.A/\i.A<(↑16:Int));let E7:=({X:=c.X,Pc:=wrap u32 (c.Pc+4),C2:=c.C2}:bq);let T1:Tree ((bq×(List Int))):=let T3:Tree ((bq×(List Int))):=.an (R4 c m E4 4 3) (.lv (lN c m E4 4 3) λ(x0:Int×Int×List Int)=>.br (x0.2.1 !=0) (.lv (pL c x0.2.1 E4) λ(x1:bq)=>.lf (x1,x0.2.2)) (.cn E6 (.an (Qly x0.2.2 x0.1 4 E5) (.lv (IF x0.2.2 x0.1 4 E5) λ(x2:List Int)=>.lf (E7,x2)))));.br (i.Op==35) T3 (.br (i.Op==36) T3 (.an (R4 c m E4 4 2) (.lv (lN c m E4 4 2) λ(x6:Int×Int×List Int)=>.br (x6.2.1 !=0) (.lv (pL c x6.2.1 E4) λ(x7:bq)=>.lf (x7,x6.2.2)) (.an (Vp x6.2.2 x6.1 4) (.lv (oL x6.2.2 x6.1 4) λ(x8:Int×Bool)=>.br (i.Op==33) (.an (Qcn x8.1 8) (.lv (Gv x8.1 8) λ(x9:Int)=>.an (Dp c i.A x9) (.lv (lG c i.A x9) λ(kR:bq)=>.lf ({X:=kR.X,Pc:=wrap u32 (kR.Pc+4),C2:=kR.C2},x6.2.2)))) (.an (Dp c i.A x8.1) (.lv (lG c i.A x8.1) λ(lW:bq)=>.lf ({X:=lW.X,Pc:=wrap u32 (lW.Pc+4),C2:=lW.C2},x6.2.2))))))));.br (i.Op==32) T1 (.br (i.Op==35) T1 (let T2:Tree ((bq×(List Int))):=.an (R4 c m E4 1 3) (.lv (lN c m E4 1 3) λ(DY:Int×Int×List Int)=>.br (DY.2.1 !=0) (.lv (pL c DY.2.1 E4) λ(x25:bq)=>.lf (x25,DY.2.2)) (.cn E6 (.an (Qly DY.2.2 DY.1 1 E5) (.lv (IF DY.2.2 DY.1 1 E5) λ(x26:List Int)=>.lf (E7,x26)))));.br (i.Op==35) T2 (.br (i.Op==36) T2 (.an (R4 c m E4 1 2) (.lv (lN c m E4 1 2) λ(FK:Int×Int×List Int)=>.br (FK.2.1 !=0) (.lv (pL c FK.2.1 E4) λ(x31:bq)=>.lf (x31,FK.2.2)) (.an (Vp FK.2.2 FK.1 1) (.lv (oL FK.2.2 FK.1 1) λ(VE:Int×Bool)=>.br (i.Op==33) (.an (Qcn VE.1 8) (.lv (Gv VE.1 8) λ(x33:Int)=>.an (Dp c i.A x33) (.lv (lG c i.A x33) λ(x34:bq)=>.lf ({X:=x34.X,Pc:=wrap u32 (x34.Pc+4),C2:=x34.C2},FK.2.2)))) (.an (Dp c i.A VE.1) (.lv (lG c i.A VE.1) λ(x35:bq)=>.lf ({X:=x35.X,Pc:=wrap u32 (x35.Pc+4),C2:=x35.C2},FK.2.2)))))))))))
def GA c m i:=(Rh c m i).m
abbrev Qng c m i:=(Rh c m i).p
def Z5f:ba:=mT 164 [false,true,false] true [.agg bq.sig,.one (.row 0),.agg ia.sig] [.arr 25 1 (.ints .u32)] (λa r=>Rh (bq.of (aC a 0)) (cy .u32 r 0) (ia.of (aC a 2))) (λX=>.agg (bq.cells (X.1))) (λX=>[⟨false,25,1,.ints .u32 (X.2)⟩])
theorem Z2u:bj pG Z5f:=oT (.cons Qyi (.cons VD (.cons Z4e (.cons Qsm (.cons Qxz (.cons R5 (.nil))))))) Tryz.func164 Tryz.call164 [] [] 2
def Z1w(op:Int):Tree Int:=
.br (op==16) (.lf 1) (.br (op==17) (.lf 3) (.br (op==18) (.lf 4) (.br (op==19) (.lf 5) (.br (op==20) (.lf 6) (.br (op==21) (.lf 7) (.br (op==22) (.lf 8) (.br (op==23) (.lf 12) (.lf op))))))))
def Zb6 op:=(Z1w op).m
def Zkg:ba:=mS 223 [] true [.one (.int .i64)] [] (λa r=>Z1w (au a 0)) (λX=>.int .i64 X) (λX=>[])
theorem Zeq:bj pG Zkg:=oS (.nil) Tryz.func223 Tryz.call223 [] [] 2
def Lb(a b:Int):Tree (Int×Int):=
.br (b==0) (.lf (4294967295,a)) (.cn (decide (wrap i64 (wrap i32 b)≠0)) (.cn (decide (wrap i64 (wrap i32 b)≠0)) (.lf (wrap u32 (wrap i64 (eF (wrap i64 (wrap i32 a)) (wrap i64 (wrap i32 b)))),wrap u32 (cZ (wrap i64 (wrap i32 a)) (wrap i64 (wrap i32 b)))))))
def K9 a b:=(Lb a b).m
abbrev Qjd a b:=(Lb a b).p
def Zfk:ba:=mT 224 [] true [.one (.int .u32),.one (.int .u32)] [] (λa r=>Lb (au a 0) (au a 1)) (λX=>.dw [.int .u32 (X.1),.int .u32 (X.2)]) (λX=>[])
theorem Z9m:bj pG Zfk:=oT (.nil) Tryz.func224 Tryz.call224 [] [] 2
def Rd(op a b:Int):Tree (Int×Bool):=
.lv (Zb6 op) λ(x0:Int)=>.br (x0==1) (.lf (wrap u32 (a+b),true)) (.br (x0==2) (.lf (wrap u32 (a-b),true)) (.br (x0==3) (.lf (bc u32 a b,true)) (.br (x0==4) (.lf (iN u32 a b,true)) (.br (x0==5) (.lf (rA u32 a b,true)) (.br (x0==6) (.lf (eu u32 a (bc u32 b 31),true)) (.br (x0==7) (.lf (bm u32 a (bc u32 b 31),true)) (.br (x0==8) (.lf (wrap u32 (bm i32 (wrap i32 a) (bc u32 b 31)),true)) (.br (x0==9) (.lf (wrap u32 (a*b),true)) (.br (x0==10) (.an (Qjd a b) (.lv (K9 a b) λ(x1:Int×Int)=>.lf (x1.1,true))) (.br (x0==11) (.an (Qjd a b) (.lv (K9 a b) λ(x2:Int×Int)=>.lf (x2.2,true))) (.br (x0==12) (.lv (Cb (decide (wrap i32 a<wrap i32 b))) λ(x3:Int)=>.lf (x3,true)) (.br (x0==13) (.lv (Cb (decide (a<b))) λ(x4:Int)=>.lf (x4,true)) (.lf (0,false))))))))))))))
def DJ op a b:=(Rd op a b).m
abbrev Qs9 op a b:=(Rd op a b).p
def Zss:ba:=mT 165 [] true [.one (.int .i64),.one (.int .u32),.one (.int .u32)] [] (λa r=>Rd (au a 0) (au a 1) (au a 2)) (λX=>.dw [.int .u32 (X.1),.bool (X.2)]) (λX=>[])
theorem Zn3:bj pG Zss:=oT (.cons Zeq (.cons Z9m (.cons Qw3 (.nil)))) Tryz.func165 Tryz.call165 [] [] 2
def Ri(c:bq)(m:List Int):Tree (bq×lz×(List Int)):=
.an (R4 c m c.Pc 4 1) (.lv (lN c m c.Pc 4 1) λ(x0:Int×Int×List Int)=>.br (x0.2.1 !=0) (.lv (pL c x0.2.1 c.Pc) λ(x1:bq)=>.lf (x1,{C4:=0,E0:=0,F9:=0,Value:=0},x0.2.2)) (.an (Vp x0.2.2 x0.1 4) (.lv (oL x0.2.2 x0.1 4) λ(x2:Int×Bool)=>.lv (AT x2.1) λ(x3:ia×Bool)=>.br (!x3.2) (.lv (pL c 1 x2.1) λ(x4:bq)=>.lf (x4,{C4:=0,E0:=0,F9:=0,Value:=0},x0.2.2)) (.lv (KT x3.1.Op) λ(x5:Bool)=>let T1:Tree ((bq×lz×(List Int))):=.br (decide (x3.1.Op>=56)) (.an (Qqr c x3.1) (.lv (Xg c x3.1) λ(x7:bq×lz)=>.lf (x7.1,x7.2,x0.2.2))) (.br (decide (x3.1.Op>=40)) (.an (Qxf c x3.1) (.lv (Z7k c x3.1) λ(x8:bq)=>.lf (x8,{C4:=0,E0:=0,F9:=0,Value:=0},x0.2.2))) (.br (decide (x3.1.Op>=32)) (.an (Qng c x0.2.2 x3.1) (.lv (GA c x0.2.2 x3.1) λ(x9:bq×List Int)=>.lf (x9.1,{C4:=0,E0:=0,F9:=0,Value:=0},x9.2))) (.br (x3.1.Op==24) (.an (Dp c x3.1.A (eu u32 (wrap u32 x3.1.cf) 16)) (.lv (lG c x3.1.A (eu u32 (wrap u32 x3.1.cf) 16)) λ(kR:bq)=>.lf ({X:=kR.X,Pc:=wrap u32 (kR.Pc+4),C2:=kR.C2},{C4:=0,E0:=0,F9:=0,Value:=0},x0.2.2))) (let E2:=aV (iu.l c.X) x3.1.B.toNat 0;let E3:=bN 0 1&&decide (0<=x3.1.B/\x3.1.B<(↑16:Int));.br (decide (x3.1.Op<=13)) (.cn (bN 0 1&&decide (0<=x3.1.C/\x3.1.C<(↑16:Int))) (.cn E3 (let E4:=aV (iu.l c.X) x3.1.C.toNat 0;.an (Qs9 x3.1.Op E2 E4) (.lv (DJ x3.1.Op E2 E4) λ(lW:Int×Bool)=>.an (Dp c x3.1.A lW.1) (.lv (lG c x3.1.A lW.1) λ(oj:bq)=>.lf ({X:=oj.X,Pc:=wrap u32 (oj.Pc+4),C2:=oj.C2},{C4:=0,E0:=0,F9:=0,Value:=0},x0.2.2)))))) (.cn E3 (.an (Qs9 x3.1.Op E2 (wrap u32 x3.1.cf)) (.lv (DJ x3.1.Op E2 (wrap u32 x3.1.cf)) λ(uO:Int×Bool)=>.an (Dp c x3.1.A uO.1) (.lv (lG c x3.1.A uO.1) λ(FD:bq)=>.lf ({X:=FD.X,Pc:=wrap u32 (FD.Pc+4),C2:=FD.C2},{C4:=0,E0:=0,F9:=0,Value:=0},x0.2.2)))))))));.br x5 (.br (bc u32 c.C2.a0 (1:Int)==(0:Int)) (.lv (pL c 2 x2.1) λ(x6:bq)=>.lf (x6,{C4:=0,E0:=0,F9:=0,Value:=0},x0.2.2)) T1) T1))))
def AV c m:=(Ri c m).m
abbrev Z5g c m:=(Ri c m).p
def xD:ba:=mT 119 [false,true] true [.agg bq.sig,.one (.row 0)] [.arr 25 1 (.ints .u32)] (λa r=>Ri (bq.of (aC a 0)) (cy .u32 r 0)) (λX=>.dw [.agg (bq.cells (X.1)),.agg (lz.cells (X.2.1))]) (λX=>[⟨false,25,1,.ints .u32 (X.2.2)⟩])
theorem Zr9:bj pG xD:=oT (.cons Qyi (.cons VD (.cons Qsm (.cons Qus (.cons Qx9 (.cons Z96 (.cons Zke (.cons Z2u (.cons R5 (.cons Zn3 (.nil))))))))))) Tryz.func119 Tryz.call119 [] [] 2
end
noncomputable section
def Ob(m:List Int)(frame:Int):Tree Bool:=
.lv (wu m) λ(x0:Int)=>.lf (decide (wrap u64 frame<wrap u64 x0))
def tC m frame:=(Ob m frame).m
def Zm2:ba:=mS 226 [] true [.one (.ints .u32),.one (.int .u32)] [] (λa r=>Ob (dh .u32 a 0) (au a 1)) (λX=>.bool X) (λX=>[])
theorem RN:bj pG Zm2:=oS (.cons RZ (.nil)) Tryz.func226 Tryz.call226 [] [] 2
def Qep(m:bb)(z:(Int)):Nat:=(32-z).toNat
def Lw(m:bb):Tree bq:=
.an (Qhb m) (.lv (AY m) λ(x0:Int)=>.br (bc u32 m.B2.C2.a0 (2:Int)==(0:Int)) (.lf m.B2) (.br (x0==0) (.lf m.B2) (.lp inferInstance (Qep m 0+1) ((rZ/\rZ/\rE (x0:Int)/\rE (0:Int)/\True)/\(mE m (((ai.Nil (ai.ints u32 m.Mem)\/rE (1:Nat))/\rE m.Mem)) True)/\(rE (0:Int)/\rE (0:Int)/\rE (0:Int)/\rE (0:Int)/\rE (0:Int)/\rE (0:Int)/\rE (0:Int)/\rE (0:Int)/\rE (0:Int)/\rE (0:Int)/\rE (0:Int)/\rE (0:Int)/\rE (0:Int)/\rE (0:Int)/\rE (0:Int)/\rE (0:Int)/\rE (0:Int)/\rE (0:Int)/\rE (0:Int)/\rE (0:Int)/\rE (0:Int)/\rE (0:Int)/\rE (0:Int)/\rE (0:Int)/\rE (0:Int)/\True)/\True) 0 λ(v0:Int)=>.cn (decide (0<=wrap u64 v0)) (.br (bc u32 (bm u32 x0 (wrap u64 v0)) (1:Int)==(0:Int)) (.nx ((rZ/\rZ/\rE (x0:Int)/\rE ((wrap i64 (v0+1)):Int)/\True)/\(mE m (((ai.Nil (ai.ints u32 m.Mem)\/rE (1:Nat))/\rE m.Mem)) True)/\(rE (0:Int)/\rE (0:Int)/\rE (0:Int)/\rE (0:Int)/\rE (0:Int)/\rE (0:Int)/\rE (0:Int)/\rE (0:Int)/\rE (0:Int)/\rE (0:Int)/\rE (0:Int)/\rE (0:Int)/\rE (0:Int)/\rE (0:Int)/\rE (0:Int)/\rE (0:Int)/\rE (0:Int)/\rE (0:Int)/\rE (0:Int)/\rE (0:Int)/\rE (0:Int)/\rE (0:Int)/\rE (0:Int)/\rE (0:Int)/\rE (0:Int)/\True)/\True) (Sum.inl (wrap i64 (v0+1)))) (.lv (pL m.B2 (wrap i64 (16+v0)) 0) λ(x1:bq)=>.lf (Sum.inr x1))))))
def re m:=(Lw m).m
abbrev Qb9 m:=(Lw m).p
def Qvx:cg:={
 α:=(Int)
 F:=λst a=>([(1,.ptr 0 0 0),(2,.ptr 1 0 0),(3,(lk st 3)),(4,.int i64 a)],[⟨true,43,49,.gen [mB (cT st 1)]⟩,⟨true,29,25,.gen [[(cT st 2 0),(cT st 2 1),(cT st 2 2),(cT st 2 3),(cT st 2 4),(cT st 2 5),(cT st 2 6),(cT st 2 7),(cT st 2 8),(cT st 2 9),(cT st 2 10),(cT st 2 11),(cT st 2 12),(cT st 2 13),(cT st 2 14),(cT st 2 15),(cT st 2 16),(cT st 2 17),(cT st 2 18),(cT st 2 19),(cT st 2 20),(cT st 2 21),(cT st 2 22),(cT st 2 23),(cT st 2 24)]]⟩])
 a0:=λst=>(lk st 4).toInt
 jk:=λst=>[]++[(rX st 1 0),(rX st 2 1)]}
def Qsl:List (Nat×cg):=[(5,Qvx)]
def Qxd:ba:=mT 118 [] true [.agg bb.sig] [] (λa r=>Lw (bb.of (aC a 0))) (λX=>.agg (bq.cells X)) (λX=>[])
theorem Qke:bj pG Qxd:=oT (.cons Qr4 (.cons VD (.nil))) Tryz.func118 Tryz.call118 [] Qsl 3
def GC(c:iH)(port:Int):Tree (iH×Int):=
let T1:Tree ((iH×Int)):=.br (port==0) (.cn (decide ((0:Int)<=(1:Int)/\1<=(c.D9.length:Int)/\(c.D9.length:Int)<=(c.D9.length:Int))) (.cn (decide ((0:Int)<=(0:Int)/\0<(c.D9.length:Int))) (.lf ({D9:=cU (dA (c.D9.length:Int)-dA 1) (cV (dA 1) c.D9)},wrap u32 (↑(UInt8.toNat (c.D9.getD (dA 0) (0:UInt8))):Int))))) (.br (port==1) (.lf (c,wrap u32 (c.D9.length:Int))) (.lf (c,0)));.br (port==0) (.br ((c.D9.length:Int)==(0:Int)) (.lf (c,4294967295)) T1) T1
def Li c port:=(GC c port).m
theorem Qy6(c:iH)(port:Int):(GC c port).p:=by
 unfold Tree.p GC
 repeat'(first|exact trivial|refine ae (λ_=>?_) (λ_=>?_)|refine ax ?_ ?_|refine c7 ?_ ?_|refine aq (λ_ _=>?_)|refine ez ?_|refine bg ?_|refine And.intro ?_ ?_)
 all_goals(exact nL)
def Z3j:ba:=mS 166 [] true [.agg iH.sig,.one (.int .i64)] [] (λa r=>GC (iH.of (aC a 0)) (au a 1)) (λX=>.dw [.agg (iH.cells (X.1)),.int .u32 (X.2)]) (λX=>[])
theorem Z0p:bj pG Z3j:=oS (.nil) Tryz.func166 Tryz.call166 [] [] 2 (λ_ _ _=>by kernel_rfl) (λa r=>Qy6 (iH.of (aC a 0)) (au a 1)) (λ_ X=>by kernel_rfl)
def UY(t:iW):Tree Int:=
.br t.D8 (.lf 1) (.lf 0)
def XL t:=(UY t).m
def Z92:ba:=mS 167 [] true [.agg iW.sig] [] (λa r=>UY (iW.of (aC a 0))) (λX=>.int .u32 X) (λX=>[])
theorem Z61:bj pG Z92:=oS (.nil) Tryz.func167 Tryz.call167 [] [] 2
def UX(d0:fw)(port:Int):Tree Int:=
.br (port==4) (.lf d0.C9) (.br (port==5) (.lf d0.Frame) (.br (port==6) (.lf (wrap u32 d0.C8)) (.lf 0)))
def XK d0 port:=(UX d0 port).m
def Zg4:ba:=mS 168 [] true [.agg fw.sig,.one (.int .i64)] [] (λa r=>UX (fw.of (aC a 0)) (au a 1)) (λX=>.int .u32 X) (λX=>[])
theorem Zak:bj pG Zg4:=oS (.nil) Tryz.func168 Tryz.call168 [] [] 2
def Oa(n:gw)(port:Int):Tree Int:=
.br (port==7) (.lf n.Frame) (.br (port==8) (.lf n.F8) (.br (port==9) (.br n.D3 (.br n.C3 (.lf (wrap u32 ((1:Int)+(2:Int)))) (.lf 1)) (.br n.C3 (.lf (wrap u32 ((0:Int)+(2:Int)))) (.lf 0))) (.lf 0)))
def Te n port:=(Oa n port).m
def Ziw:ba:=mS 169 [] true [.agg gw.sig,.one (.int .i64)] [] (λa r=>Oa (gw.of (aC a 0)) (au a 1)) (λX=>.int .u32 X) (λX=>[])
theorem Zd5:bj pG Ziw:=oS (.nil) Tryz.func169 Tryz.call169 [] [] 2
def Ln(b:gm)(port:Int):Tree Int:=
.br (port==10) (.lf b.A2) (.br (port==11) (.lv (Lh b) λ(x0:Int)=>.lf (wrap u32 x0)) (.lf 0))
def Lm b port:=(Ln b port).m
def Z2z:ba:=mS 170 [] true [.agg gm.sig,.one (.int .i64)] [] (λa r=>Ln (gm.of (aC a 0)) (au a 1)) (λX=>.int .u32 X) (λX=>[])
theorem Qzl:bj pG Z2z:=oS (.cons Qwx (.nil)) Tryz.func170 Tryz.call170 [] [] 2
def Nb(m:bb)(port clock:Int):Tree (Int×bb):=
.br (decide (port<=1)) (.lv (Li m.B3 port) λ(x0:iH×Int)=>.lf (x0.2,{B2:=m.B2,Mem:=m.Mem,B3:=x0.1,B8:=m.B8,B5:=m.B5,D1:=m.D1,A6:=m.A6,B7:=m.B7,B4:=m.B4,B6:=m.B6})) (.br (port==2) (.lf (clock,m)) (.br (port==3) (.lv (XL m.B8) λ(x1:Int)=>.lf (x1,m)) (.br (decide (port<=6)) (.lv (XK m.B5 port) λ(x2:Int)=>.lf (x2,m)) (.br (decide (port<=9)) (.lv (Te m.D1 port) λ(x3:Int)=>.lf (x3,m)) (.lv (Lm m.A6 port) λ(x4:Int)=>.lf (x4,m))))))
def DM m port clock:=(Nb m port clock).m
def zD:ba:=mS 120 [true,false,false] true [.ptr 0,.one (.int .i64),.one (.int .u32)] [.box 43 49 (bb.ik (.row 1)),.arr 25 1 (.ints .u32)] (λa r=>Nb (bb.iE (r.getD 0 default).cs (cy .u32 r 1)) (au a 1) (au a 2)) (λX=>.int .u32 (X.1)) (λX=>[⟨true,43,49,.gen [(bb.cj (X.2) (.all 1))]⟩,⟨false,25,1,.ints .u32 (X.2).Mem⟩])
theorem Zrq:bj pG zD:=oS (.cons Z0p (.cons Z61 (.cons Zak (.cons Zd5 (.cons Qzl (.nil)))))) Tryz.func120 Tryz.call120 [.row 25 1 (.ints .u32)] [] 2
def Xp(deadline:Int):Tree iW:=
.br (deadline==0) (.lf ({F0:=false,D2:=0,D8:=false})) (.lf ({F0:=true,D2:=deadline,D8:=false}))
def Xo deadline:=(Xp deadline).m
def Zqy:ba:=mS 171 [] true [.one (.int .u32)] [] (λa r=>Xp (au a 0)) (λX=>.agg (iW.cells X)) (λX=>[])
theorem Zo5:bj pG Zqy:=oS (.nil) Tryz.func171 Tryz.call171 [] [] 2
def Qx(x n:Int)(z:(Int)×(List Int)):Prop:=0<=z.1/\(z.2.length:Int)=z.1/\(z.1<=n\/z.1=0)
def UW(x n:Int)(z:(Int)×(List Int)):Nat:=(n-z.1).toNat
def Mj(x n:Int):Tree (List UInt8):=
.lp inferInstance (UW x n (0,[])+1) ((rE (x:Int)/\rE (n:Int)/\True/\rE (0:Int)/\True)/\rE ([]:List Int)/\True) (0,[]) λ(v0:Int×List Int)=>.br (decide (v0.1<n)) (.cn (decide (0<=wrap u64 (wrap i64 (8*v0.1)))) (.cn (decide (1*(v0.2.length+1)<=140737488355328)) (.nx ((rE (x:Int)/\rE (n:Int)/\True/\rE ((wrap i64 (v0.1+1)):Int)/\True)/\rE ((v0.2++[wrap u8 (bm u32 x (wrap u64 (wrap i64 (8*v0.1))))]):List Int)/\True) (Sum.inl (wrap i64 (v0.1+1),v0.2++[wrap u8 (bm u32 x (wrap u64 (wrap i64 (8*v0.1))))]))))) (.lf (Sum.inr (bytesOf v0.2)))
def W4 x n:=(Mj x n).m
def VF(x n:Int):Prop:=
n<=1000000000000
theorem Zl1(x n:Int)(hw:VF x n):(Mj x n).p:=by
 simp only[VF]at hw
 unfold Tree.p Mj
 repeat'(first|refine fk (inv:=Qx x n) (μ:=UW x n) ?_ (cN _) (λ_ _=>?_)|exact trivial|refine ae (λ_=>?_) (λ_=>?_)|refine ax ?_ ?_|refine c7 ?_ ?_|refine aq (λ_ _=>?_)|refine ez ?_|refine bg ?_|refine And.intro ?_ ?_)
 all_goals((try simp only[Qx,UW]at*);exact nL)
def Zn:cg:={
 α:=(Int)×(List Int)
 F:=λst a=>([(0,(lk st 0)),(1,(lk st 1)),(5,.all 0),(6,.int i64 a.1)],[⟨false,5,1,.ints u8 a.2⟩])
 a0:=λst=>((lk st 6).toInt,(nC st.rows (rN st 5)))
 jk:=λst=>[]++[(rX st 5 0)]}
def Zg9:List (Nat×cg):=[(3,Zn)]
def Zr:ba:=ly 206 [] true [.one (.int .u32),.one (.int .i64)] [] (λa r=>VF (au a 0) (au a 1)) (λa r=>W4 (au a 0) (au a 1)) (λX=>.str X) (λX=>[])
theorem Zm0:bj pG Zr:=uV drawn jA (.nil) Tryz.func206 Tryz.call206 (λa r=>Mj (au a 0) (au a 1)) [] Zg9 3 (hp:=λa r h=>Zl1 (au a 0) (au a 1) h)
def W5(m:List Int)(frame:Int)(z:(Int)×(List Int)):Nat:=(32-z.1).toNat
def Gy(m:List Int)(frame:Int):Tree ((List UInt8)×Bool):=
.br (decide (frame<0)) (.lf ([],false)) (.lv (wu m) λ(x0:Int)=>.br (decide (frame>=x0)) (.lf ([],false)) (.lp inferInstance (W5 m frame (0,[])+1) ((((ai.Nil (ai.ints u32 m)\/rE (1:Nat))/\rE (m:List Int))/\rE (frame:Int)/\True/\rE (0:Int)/\True)/\rE ([]:List Int)/\True) (0,[]) λ(v0:Int×List Int)=>.br (decide (v0.1<32)) (.cn (bX 1 1&&bN 0 1&&decide (0<=wrap i64 (wrap i64 (frame*32)+v0.1)/\wrap i64 (wrap i64 (frame*32)+v0.1)<(m.length:Int))) (let E1:=m.getD (dA (wrap i64 (wrap i64 (frame*32)+v0.1))) 0;.an (VF E1 4) (.lv (W4 E1 4) λ(x1:List UInt8)=>.cn (decide (1*(v0.2.length+dF (o5 x1))<=140737488355328)) (.nx ((((ai.Nil (ai.ints u32 m)\/rE (1:Nat))/\rE (m:List Int))/\rE (frame:Int)/\True/\rE ((wrap i64 (v0.1+1)):Int)/\True)/\rE ((v0.2++o5 x1):List Int)/\True) (Sum.inl (wrap i64 (v0.1+1),v0.2++o5 x1)))))) (.lf (Sum.inr (bytesOf v0.2,true)))))
def KX m frame:=(Gy m frame).m
abbrev Qic m frame:=(Gy m frame).p
def Zli:cg:={
 α:=(Int)×(List Int)
 F:=λst a=>([(0,(lk st 0)),(1,(lk st 1)),(6,.all 0),(7,.int i64 a.1)],[⟨false,5,1,.ints u8 a.2⟩])
 a0:=λst=>((lk st 7).toInt,(nC st.rows (rN st 6)))
 jk:=λst=>[]++[(rX st 6 0)]}
def Zaq:List (Nat×cg):=[(5,Zli)]
def Zn0:ba:=mT 149 [] true [.one (.ints .u32),.one (.int .i64)] [] (λa r=>Gy (dh .u32 a 0) (au a 1)) (λX=>.dw [.str (X.1),.bool (X.2)]) (λX=>[])
theorem Z16:bj pG Zn0:=oT (.cons RZ (.cons Zm0 (.nil))) Tryz.func149 Tryz.call149 [] Zaq 3
def Quy(d0:fw)(gk:Int):Tree (ir×Bool):=
.br (d0.C8 !=1) (.lf ({C4:=0,At:=0,C9:=0,F1:=[]},false)) (.br (d0.F5==1) (.lf ({C4:=3,At:=gk,C9:=d0.C5,F1:=[]},true)) (.br (d0.F5==2) (.lf ({C4:=4,At:=gk,C9:=d0.C5,F1:=d0.C7},true)) (.lf ({C4:=0,At:=0,C9:=0,F1:=[]},false))))
def Xt d0 gk:=(Quy d0 gk).m
def Z8w:ba:=mS 227 [] true [.agg fw.sig,.one (.int .u64)] [] (λa r=>Quy (fw.of (aC a 0)) (au a 1)) (λX=>.dw [.agg (ir.cells (X.1)),.bool (X.2)]) (λX=>[])
theorem Z5e:bj pG Z8w:=oS (.nil) Tryz.func227 Tryz.call227 [] [] 2
def Lj(d0:fw)(m:List Int)(port v gk:Int):Tree (fw×(List ir)):=
.br (port==4) (.lf ({ab:=d0.ab,C9:=v,Frame:=d0.Frame,C8:=d0.C8,F5:=d0.F5,C5:=d0.C5,C6:=d0.C6,C7:=d0.C7},[])) (.br (port==5) (.lf ({ab:=d0.ab,C9:=d0.C9,Frame:=v,C8:=d0.C8,F5:=d0.F5,C5:=d0.C5,C6:=d0.C6,C7:=d0.C7},[])) (.br (port !=6) (.lf (d0,[])) (let T1:Tree ((fw×(List ir))):=.br (d0.C8==0) (let T2:Tree ((fw×(List ir))):=.lf ({ab:=d0.ab,C9:=d0.C9,Frame:=d0.Frame,C8:=3,F5:=d0.F5,C5:=d0.C5,C6:=d0.C6,C7:=d0.C7},[]);.br (decide (d0.C9>=d0.ab)) T2 (.lv (tC m d0.Frame) λ(x0:Bool)=>.br (!x0) T2 (.br (v==2) (.an (Qic m (wrap i64 d0.Frame)) (.lv (KX m (wrap i64 d0.Frame)) λ(x1:List UInt8×Bool)=>.lv (Xt {ab:=d0.ab,C9:=d0.C9,Frame:=d0.Frame,C8:=1,F5:=wrap i64 v,C5:=d0.C9,C6:=d0.Frame,C7:=x1.1} gk) λ(x2:ir×Bool)=>.lf ({ab:=d0.ab,C9:=d0.C9,Frame:=d0.Frame,C8:=1,F5:=wrap i64 v,C5:=d0.C9,C6:=d0.Frame,C7:=x1.1},[x2.1]))) (.lv (Xt {ab:=d0.ab,C9:=d0.C9,Frame:=d0.Frame,C8:=1,F5:=wrap i64 v,C5:=d0.C9,C6:=d0.Frame,C7:=[]} gk) λ(x3:ir×Bool)=>.lf ({ab:=d0.ab,C9:=d0.C9,Frame:=d0.Frame,C8:=1,F5:=wrap i64 v,C5:=d0.C9,C6:=d0.Frame,C7:=[]},[x3.1]))))) (.lf (d0,[]));.br (v==0) (let T3:Tree ((fw×(List ir))):=.lf ({ab:=d0.ab,C9:=d0.C9,Frame:=d0.Frame,C8:=0,F5:=d0.F5,C5:=d0.C5,C6:=d0.C6,C7:=d0.C7},[]);.br (d0.C8==2) T3 (.br (d0.C8==3) T3 (.br (v==1) T1 (.br (v==2) T1 (.lf (d0,[])))))) (.br (v==1) T1 (.br (v==2) T1 (.lf (d0,[])))))))
def Xr d0 m port v gk:=(Lj d0 m port v gk).m
abbrev Qpk d0 m port v gk:=(Lj d0 m port v gk).p
def Zas:ba:=mT 172 [] true [.agg fw.sig,.one (.ints .u32),.one (.int .i64),.one (.int .u32),.one (.int .u64)] [] (λa r=>Lj (fw.of (aC a 0)) (dh .u32 a 1) (au a 2) (au a 3) (au a 4)) (λX=>.dw [.agg (fw.cells (X.1)),.sl 4 (.ah .bu (X.2)) true]) (λX=>[])
theorem Z86:bj pG Zas:=oT (.cons RN (.cons Z16 (.cons Z5e (.nil)))) Tryz.func172 Tryz.call172 [.sl (.ah .bu) true] [] 2
def Lk(n:gw)(m:List Int)(port v gk:Int):Tree (gw×(List ir)):=
.br (port==7) (.lf ({Frame:=v,F7:=n.F7,D3:=n.D3,D4:=n.D4,C3:=n.C3,F8:=n.F8},[])) (.br (port==8) (.lf ({Frame:=n.Frame,F7:=v,D3:=n.D3,D4:=n.D4,C3:=n.C3,F8:=n.F8},[])) (.br (port !=9) (.lf (n,[])) (.br (v==0) (.lf ({Frame:=n.Frame,F7:=n.F7,D3:=n.D3,D4:=n.D4,C3:=false,F8:=0},[])) (let T1:Tree ((gw×(List ir))):=.br (v==2) (.lv (tC m n.Frame) λ(x2:Bool)=>.br x2 (.br (!n.D3) (.br (!n.C3) (.lf ({Frame:=n.Frame,F7:=n.F7,D3:=true,D4:=n.Frame,C3:=n.C3,F8:=n.F8},[])) (.lf (n,[]))) (.lf (n,[]))) (.lf (n,[]))) (.lf (n,[]));.br (v==1) (.br (decide (n.F7>=1)) (.br (decide (n.F7<=128)) (.lv (tC m n.Frame) λ(x0:Bool)=>.br x0 (.an (Qic m (wrap i64 n.Frame)) (.lv (KX m (wrap i64 n.Frame)) λ(x1:List UInt8×Bool)=>.cn (decide ((0:Int)<=(0:Int)/\0<=n.F7/\n.F7<=(x1.1.length:Int))) (.lf (n,[{C4:=2,At:=gk,C9:=0,F1:=cU (dA n.F7-dA 0) (cV (dA 0) x1.1)}])))) T1) T1) T1) T1))))
def Xv n m port v gk:=(Lk n m port v gk).m
abbrev Qr n m port v gk:=(Lk n m port v gk).p
def Ze9:ba:=mT 173 [] true [.agg gw.sig,.one (.ints .u32),.one (.int .i64),.one (.int .u32),.one (.int .u64)] [] (λa r=>Lk (gw.of (aC a 0)) (dh .u32 a 1) (au a 2) (au a 3) (au a 4)) (λX=>.dw [.agg (gw.cells (X.1)),.sl 4 (.ah .bu (X.2)) true]) (λX=>[])
theorem Zad:bj pG Ze9:=oT (.cons RN (.cons Z16 (.nil))) Tryz.func173 Tryz.call173 [.sl (.ah .bu) true] [] 2
def XA(b:gm)(m:List Int)(port v:Int)(z:(Int)×(List Int)):Nat:=(32-z.1).toNat
def AW(b:gm)(m:List Int)(port v:Int):Tree (gm×(List Int)):=
let T1:Tree ((gm×(List Int))):=.br (port==11) (.br (decide (v<32)) (.cn (decide (0<=v)) (.lf ({A2:=b.A2,D0:=oJ u32 b.D0 (eu u32 1 v)},m))) (.lf (b,m))) (.lf (b,m));.br (port==10) (.lv (tC m v) λ(x0:Bool)=>.br x0 (.cn (decide (0<=v)) (.br (bc u32 (bm u32 b.D0 v) (1:Int)==(0:Int)) (.cn (decide (0<=v)) (.lp inferInstance (XA b m port v (0,m)+1) ((True/\rE (v:Int)/\rZ/\rZ/\rE (0:Int)/\True)/\rE (m:List Int)/\(rE b.A2/\rE ((iN u32 b.D0 (eu u32 1 v)):Int)/\True)/\(rE (0:Int)/\rE (0:Int)/\True)/\True) (0,m) λ(v0:Int×List Int)=>.br (decide (v0.1<32)) (let E2:=wrap i64 (wrap i64 v*32)+v0.1;.cn (bX 1 1&&bN 0 1&&decide (0<=wrap i64 E2/\wrap i64 E2<(v0.2.length:Int))) (.nx ((True/\rE (v:Int)/\rZ/\rZ/\rE ((wrap i64 (v0.1+1)):Int)/\True)/\rE ((dB v0.2 (dA (wrap i64 (wrap i64 (wrap i64 v*32)+v0.1))) 0):List Int)/\(rE b.A2/\rE ((iN u32 b.D0 (eu u32 1 v)):Int)/\True)/\(rE (0:Int)/\rE (0:Int)/\True)/\True) (Sum.inl (wrap i64 (v0.1+1),dB v0.2 (dA (wrap i64 E2)) 0)))) (.lf (Sum.inr ({A2:=b.A2,D0:=iN u32 b.D0 (eu u32 1 v)},v0.2))))) T1)) T1) T1
def AX b m port v:=(AW b m port v).m
abbrev Qy5 b m port v:=(AW b m port v).p
def Zl2:cg:={
 α:=(Int)×(List Int)
 F:=λst a=>([(1,.all 0),(3,(lk st 3)),(4,.ptr 1 0 0),(8,.ptr 2 0 0),(9,.int i64 a.1)],[⟨false,25,1,.ints u32 a.2⟩,⟨true,40,2,.gen [[(cT st 4 0),(cT st 4 1)]]⟩,⟨true,40,2,.gen [[(cT st 8 0),(cT st 8 1)]]⟩])
 a0:=λst=>((lk st 9).toInt,(nC st.rows 0))
 jk:=λst=>[0]++[(rX st 4 1),(rX st 8 2)]}
def Z9y:List (Nat×cg):=[(4,Zl2)]
def Zna:ba:=mT 174 [false,true,false,false] true [.agg gm.sig,.one (.row 0),.one (.int .i64),.one (.int .u32)] [.arr 25 1 (.ints .u32)] (λa r=>AW (gm.of (aC a 0)) (cy .u32 r 0) (au a 2) (au a 3)) (λX=>.agg (gm.cells (X.1))) (λX=>[⟨false,25,1,.ints .u32 (X.2)⟩])
theorem Zgz:bj pG Zna:=oT (.cons RN (.nil)) Tryz.func174 Tryz.call174 [] Z9y 3
def Ki(m:bb)(port v:Int):Tree ((List ir)×bb):=
.br (port==0) (.lf ([{C4:=1,At:=m.B7,C9:=0,F1:=[(λ(n:Int)=>UInt8.ofNat n.toNat) (wrap u8 v)]}],m)) (.br (decide (port<=2)) (.lf ([],m)) (.br (port==3) (.lv (Xo v) λ(x0:iW)=>.lf ([],{B2:=m.B2,Mem:=m.Mem,B3:=m.B3,B8:=x0,B5:=m.B5,D1:=m.D1,A6:=m.A6,B7:=m.B7,B4:=m.B4,B6:=m.B6})) (.br (decide (port<=6)) (.an (Qpk m.B5 m.Mem port v m.B7) (.lv (Xr m.B5 m.Mem port v m.B7) λ(x1:fw×List ir)=>.lf (x1.2,{B2:=m.B2,Mem:=m.Mem,B3:=m.B3,B8:=m.B8,B5:=x1.1,D1:=m.D1,A6:=m.A6,B7:=m.B7,B4:=m.B4,B6:=m.B6}))) (.br (decide (port<=9)) (.an (Qr m.D1 m.Mem port v m.B7) (.lv (Xv m.D1 m.Mem port v m.B7) λ(x2:gw×List ir)=>.lf (x2.2,{B2:=m.B2,Mem:=m.Mem,B3:=m.B3,B8:=m.B8,B5:=m.B5,D1:=x2.1,A6:=m.A6,B7:=m.B7,B4:=m.B4,B6:=m.B6}))) (.an (Qy5 m.A6 m.Mem port v) (.lv (AX m.A6 m.Mem port v) λ(x3:gm×List Int)=>.lf ([],{B2:=m.B2,Mem:=x3.2,B3:=m.B3,B8:=m.B8,B5:=m.B5,D1:=m.D1,A6:=x3.1,B7:=m.B7,B4:=m.B4,B6:=m.B6})))))))
def EH m port v:=(Ki m port v).m
abbrev Z1v m port v:=(Ki m port v).p
def Zt2:ba:=mT 122 [true,false,false] true [.ptr 0,.one (.int .i64),.one (.int .u32)] [.box 43 49 (bb.ik (.row 1)),.arr 25 1 (.ints .u32)] (λa r=>Ki (bb.iE (r.getD 0 default).cs (cy .u32 r 1)) (au a 1) (au a 2)) (λX=>.sl 4 (.ah .bu (X.1)) true) (λX=>[⟨true,43,49,.gen [(bb.cj (X.2) (.all 1))]⟩,⟨false,25,1,.ints .u32 (X.2).Mem⟩])
theorem Zme:bj pG Zt2:=oT (.cons Zo5 (.cons Z86 (.cons Zad (.cons Zgz (.nil))))) Tryz.func122 Tryz.call122 [.sl (.ah .bu) true,.row 25 1 (.ints .u32)] [] 2
def Nc(m:bb)(clock:Int):Tree ((List ir)×bb):=
.an (Qb9 m) (.lv (re m) λ(x0:bq)=>.an (Z5g x0 m.Mem) (.lv (AV x0 m.Mem) λ(x1:bq×lz×List Int)=>let E1:=({B2:=x1.1,Mem:=x1.2.2,B3:=m.B3,B8:=m.B8,B5:=m.B5,D1:=m.D1,A6:=m.A6,B7:=m.B7,B4:=false,B6:=m.B6}:bb);.br (x1.2.1.C4==1) (.lv (DM E1 x1.2.1.E0 clock) λ(x2:Int×bb)=>.an (Dp x2.2.B2 x1.2.1.F9 x2.1) (.lv (lG x2.2.B2 x1.2.1.F9 x2.1) λ(x3:bq)=>.lf ([],{B2:=x3,Mem:=x2.2.Mem,B3:=x2.2.B3,B8:=x2.2.B8,B5:=x2.2.B5,D1:=x2.2.D1,A6:=x2.2.A6,B7:=wrap u64 (x2.2.B7+1),B4:=x2.2.B4,B6:=x2.2.B6}))) (.br (x1.2.1.C4==2) (.an (Z1v E1 x1.2.1.E0 x1.2.1.Value) (.lv (EH E1 x1.2.1.E0 x1.2.1.Value) λ(x4:List ir×bb)=>.lf (x4.1,{B2:=x4.2.B2,Mem:=x4.2.Mem,B3:=x4.2.B3,B8:=x4.2.B8,B5:=x4.2.B5,D1:=x4.2.D1,A6:=x4.2.A6,B7:=wrap u64 (x4.2.B7+1),B4:=x4.2.B4,B6:=x4.2.B6}))) (.br (x1.2.1.C4==3) (.lf ([],{B2:=x1.1,Mem:=x1.2.2,B3:=m.B3,B8:=m.B8,B5:=m.B5,D1:=m.D1,A6:=m.A6,B7:=wrap u64 (m.B7+1),B4:=true,B6:=m.B6})) (.br (x1.2.1.C4==4) (.lf ([],{B2:=x1.1,Mem:=x1.2.2,B3:=m.B3,B8:=m.B8,B5:=m.B5,D1:=m.D1,A6:=m.A6,B7:=wrap u64 (m.B7+1),B4:=false,B6:=true})) (.lf ([],{B2:=x1.1,Mem:=x1.2.2,B3:=m.B3,B8:=m.B8,B5:=m.B5,D1:=m.D1,A6:=m.A6,B7:=wrap u64 (m.B7+1),B4:=false,B6:=m.B6})))))))
def Am m clock:=(Nc m clock).m
abbrev Qhg m clock:=(Nc m clock).p
def Za6:ba:=mT 76 [true,false] true [.ptr 0,.one (.int .u32)] [.box 43 49 (bb.ik (.row 1)),.arr 25 1 (.ints .u32)] (λa r=>Nc (bb.iE (r.getD 0 default).cs (cy .u32 r 1)) (au a 1)) (λX=>.sl 4 (.ah .bu (X.1)) true) (λX=>[⟨true,43,49,.gen [(bb.cj (X.2) (.all 1))]⟩,⟨false,25,1,.ints .u32 (X.2).Mem⟩])
theorem Qsc:bj pG Za6:=oT (.cons Qke (.cons Zr9 (.cons Zrq (.cons R5 (.cons Zme (.nil)))))) Tryz.func76 Tryz.call76 [.sl (.ah .bu) true,.row 25 1 (.ints .u32)] [] 2

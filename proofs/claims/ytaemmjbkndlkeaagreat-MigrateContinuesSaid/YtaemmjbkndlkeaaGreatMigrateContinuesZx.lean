import Derived.Test.YtaemmjbkndlkeaaGreatMigrateContinuesYz
open Nat renaming blt->bN,beq->bX,lt_succ_self->cN
open List renaming length->dF,replicate->cO,take->cU,drop->cV,set->dB,getD->aV
open Int renaming toNat->dA,tdiv->eF,tmod->cZ
set_option maxRecDepth 100000
set_option linter.all false
namespace Go.Proofs.YtaemmjbkndlkeaaGreat
open Go Go.GD Go.IntKind
noncomputable section
def Ln(m:List Int):Tree (List Int):=
.cn (bN (0:Nat) (1:Nat)&&bX (1:Nat) (1:Nat)&&List.all [D.int u32 (0:Int)] D.plain&&decide ((0:Int)<=(m.length:Int)/\(m.length:Int)<=(m.length:Int)/\(m.length:Int)<=(9223372036854775807:Int)/\(↑(4:Nat):Int)*(m.length:Int)<=(140737488355328:Int))) (let E1:=dF (cO (dA (m.length:Int)) (0:Int));.lf (cU (Min.min (m.length) E1) m++cV (Min.min (m.length) E1) (cO (dA (m.length:Int)) (0:Int))))
def XH m:=(Ln m).m
abbrev Qx5 m:=(Ln m).p
def Znn:bc:=mT 116 [] true [.one (.ints .u32)] [] (λa r=>Ln (dh .u32 a 0)) (λX=>.all 0) (λX=>[⟨false,25,1,.ints .u32 X⟩])
theorem Zhy:bm pG Znn:=oT (.nil) Tryz.func116 Tryz.call116 [.row 25 1 (.ints .u32)] [] 2
def J9(m:bd):Tree bd:=
.an (Qx5 m.Mem) (.lv (XH m.Mem) λ(x0:List Int)=>.lf ({B4:=m.B4,Mem:=x0,B2:=m.B2,B8:=m.B8,B5:=m.B5,D2:=m.D2,A6:=m.A6,B7:=m.B7,B3:=m.B3,B6:=m.B6}))
def Tf m:=(J9 m).m
abbrev Qsp m:=(J9 m).p
def Zr9:bc:=mT 74 [] true [.agg bd.sig] [] (λa r=>J9 (bd.of (aC a 0))) (λX=>.agg (bd.cj X (.all 0))) (λX=>[⟨false,25,1,.ints .u32 X.Mem⟩])
theorem Z7r:bm pG Zr9:=oT (.cons Zhy (.nil)) Tryz.func74 Tryz.call74 [.row 25 1 (.ints .u32)] [] 2
def Qum(n k:Int)(z:(Int)×(List Int)):Prop:=0<=z.1/\(z.2.length:Int)=z.1/\(z.1<=k\/z.1=0)
def TO(n k:Int)(z:(Int)×(List Int)):Nat:=(k-z.1).toNat
def LC(n k:Int):Tree (List UInt8):=
.lp inferInstance (TO n k (0,[])+1) ((rE (n:Int)/\rE (k:Int)/\True/\rE (0:Int)/\True)/\rE ([]:List Int)/\True) (0,[]) λ(v0:Int×List Int)=>.br (decide (v0.1<k)) (.lv (TP n (wrap i64 (eF v0.1 9))) λ(x0:Int)=>.cn (decide (1*(v0.2.length+1)<=140737488355328)) (.nx ((rE (n:Int)/\rE (k:Int)/\True/\rE ((wrap i64 (v0.1+1)):Int)/\True)/\rE ((v0.2++[wrap u8 x0]):List Int)/\True) (Sum.inl (wrap i64 (v0.1+1),v0.2++[wrap u8 x0])))) (.lf (Sum.inr (bytesOf v0.2)))
def X4 n k:=(LC n k).m
def OT(n k:Int):Prop:=
k<=1000000000000
theorem Zd3(n k:Int)(hw:OT n k):(LC n k).p:=by
 simp only[OT]at hw
 unfold Tree.p LC
 repeat'(first|refine fj (inv:=Qum n k) (μ:=TO n k) ?_ (cN _) (λ_ _=>?_)|exact trivial|refine ab (λ_=>?_) (λ_=>?_)|refine ax ?_ ?_|refine c7 ?_ ?_|refine aq (λ_ _=>?_)|refine ez ?_|refine bh ?_|refine And.intro ?_ ?_)
 all_goals((try simp only[Qum,TO]at*);exact nD)
def Zkq:cg:={
 α:=(Int)×(List Int)
 F:=λst a=>([(0,(lk st 0)),(1,(lk st 1)),(5,.all 0),(6,.int i64 a.1)],[⟨false,5,1,.ints u8 a.2⟩])
 a0:=λst=>((lk st 6).toInt,(nU st.rows (rN st 5)))
 jf:=λst=>[]++[(rX st 5 0)]}
def Z90:List (Nat×cg):=[(3,Zkq)]
def Znv:bc:=lh 81 [] true [.one (.int .i64),.one (.int .i64)] [] (λa r=>OT (ar a 0) (ar a 1)) (λa r=>X4 (ar a 0) (ar a 1)) (λX=>.str X) (λX=>[])
theorem Zkg:bm pG Znv:=uM drawn jt (.cons Qvr (.nil)) Tryz.func81 Tryz.call81 (λa r=>LC (ar a 0) (ar a 1)) [] Z90 3 (hp:=λa r h=>Zd3 (ar a 0) (ar a 1) h)
def ZW(m:List Int):Tree Int:=
.br (cZ (m.length:Int) (32:Int) !=(0:Int)) (.lf 0) (.br (decide ((m.length:Int)>(1024:Int))) (.lf 0) (.lf (wrap i64 (eF (m.length:Int) 32))))
def wa m:=(ZW m).m
def Zhr:bc:=mS 36 [] true [.one (.ints .u32)] [] (λa r=>ZW (dh .u32 a 0)) (λX=>.int .i64 X) (λX=>[])
theorem RN:bm pG Zhr:=oS (.nil) Tryz.func36 Tryz.call36 [] [] 2
def Qn8(c:iK):Tree Bool:=
.lf (decide ((c.D9.length:Int)<=(16:Int)))
def Qkj c:=(Qn8 c).m
def Z04:bc:=mS 82 [] true [.agg iK.sig] [] (λa r=>Qn8 (iK.of (aC a 0))) (λX=>.bool X) (λX=>[])
theorem Qx9:bm pG Z04:=oS (.nil) Tryz.func82 Tryz.call82 [] [] 2
def Xf(t:iT):Tree Bool:=
.br t.F0 (.br t.E0 (.lf false) (.br t.F0 (.lf (t.D3 !=0)) (.br t.E0 (.lf true) (.lf (t.D3==0))))) (.br t.F0 (.lf (t.D3 !=0)) (.br t.E0 (.lf true) (.lf (t.D3==0))))
def S4 t:=(Xf t).m
def Z6p:bc:=mS 83 [] true [.agg iT.sig] [] (λa r=>Xf (iT.of (aC a 0))) (λX=>.bool X) (λX=>[])
theorem Z3f:bm pG Z6p:=oS (.nil) Tryz.func83 Tryz.call83 [] [] 2
def Xh(d0:fw)(bj:Int):Tree Bool:=
.br (decide (d0.ae>64)) (.lf false) (.br (decide (d0.C8<0)) (.lf false) (.br (decide (d0.C8>3)) (.lf false) (.br (d0.C8 !=1) (.br (d0.F6==0) (.br (d0.C5==0) (.br (d0.C6==0) (.lf (decide (d0.C7=[]))) (.lf false)) (.lf false)) (.lf false)) (.br (decide (d0.C5>=d0.ae)) (.lf false) (.br (decide (wrap i64 d0.C6>=bj)) (.lf false) (.br (d0.F6==1) (.br (decide (d0.C7=[])) (.lf true) (.br (d0.F6==2) (.lf ((d0.C7.length:Int)==(128:Int))) (.lf false))) (.br (d0.F6==2) (.lf ((d0.C7.length:Int)==(128:Int))) (.lf false))))))))
def S6 d0 bj:=(Xh d0 bj).m
def Z8s:bc:=mS 84 [] true [.agg fw.sig,.one (.int .i64)] [] (λa r=>Xh (fw.of (aC a 0)) (ar a 1)) (λX=>.bool X) (λX=>[])
theorem Z6:bm pG Z8s:=oS (.nil) Tryz.func84 Tryz.call84 [] [] 2
def Xg(n:gw)(bj:Int):Tree Bool:=
let T1:Tree (Bool):=.br n.C4 (.br (decide (n.F9>=1)) (.lf (decide (n.F9<=128))) (.lf false)) (.lf (n.F9==0));.br n.D1 (.br n.C4 (.lf false) (.br (decide (wrap i64 n.D4>=bj)) (.lf false) (.br (!n.D1) (.br (n.D4 !=0) (.lf false) T1) T1))) (.br (!n.D1) (.br (n.D4 !=0) (.lf false) T1) T1)
def S5 n bj:=(Xg n bj).m
def Zfz:bc:=mS 85 [] true [.agg gw.sig,.one (.int .i64)] [] (λa r=>Xg (gw.of (aC a 0)) (ar a 1)) (λX=>.bool X) (λX=>[])
theorem Za4:bm pG Zfz:=oS (.nil) Tryz.func85 Tryz.call85 [] [] 2
def Qi5(b:gl)(bj:Int)(z:(Int)):Prop:=0<=z/\z<=32
def Ta(b:gl)(bj:Int)(z:(Int)):Nat:=(32-z).toNat
def Ld(b:gl)(bj:Int):Tree Bool:=
.lp inferInstance (Ta b bj 0+1) ((rE (bj:Int)/\rZ/\rE (0:Int)/\True)/\(rE b.A2/\rE b.D0/\True)/\True) 0 λ(v0:Int)=>.br (decide (v0<32)) (.cn (decide (0<=wrap u64 v0)) (let T1:Tree ((Int)⊕(Bool)):=.nx ((rE (bj:Int)/\rZ/\rE ((wrap i64 (v0+1)):Int)/\True)/\(rE b.A2/\rE b.D0/\True)/\True) (Sum.inl (wrap i64 (v0+1)));.br (ba u32 (bb u32 b.D0 (wrap u64 v0)) (1:Int)==(1:Int)) (.br (decide (v0>=bj)) (.lf (Sum.inr false)) T1) T1)) (.lf (Sum.inr true))
def Tb b bj:=(Ld b bj).m
theorem Qva(b:gl)(bj:Int):(Ld b bj).p:=by
 unfold Tree.p Ld
 repeat'(first|refine fj (inv:=Qi5 b bj) (μ:=Ta b bj) ?_ (cN _) (λ_ _=>?_)|exact trivial|refine ab (λ_=>?_) (λ_=>?_)|refine ax ?_ ?_|refine c7 ?_ ?_|refine aq (λ_ _=>?_)|refine ez ?_|refine bh ?_|refine And.intro ?_ ?_)
 all_goals((try simp only[Qi5,Ta]at*);exact nD)
def Qwl:cg:={
 α:=(Int)
 F:=λst a=>([(1,(lk st 1)),(2,.ptr 0 0 0),(5,.int i64 a)],[⟨true,40,2,.gen [[(cT st 2 0),(cT st 2 1)]]⟩])
 a0:=λst=>(lk st 5).toInt
 jf:=λst=>[]++[(rX st 2 0)]}
def Qtv:List (Nat×cg):=[(2,Qwl)]
def Qz9:bc:=mS 86 [] true [.agg gl.sig,.one (.int .i64)] [] (λa r=>Ld (gl.of (aC a 0)) (ar a 1)) (λX=>.bool X) (λX=>[])
theorem Qxb:bm pG Qz9:=oS (.nil) Tryz.func86 Tryz.call86 [] Qtv 3 (λ_ _ _=>by kernel_rfl) (λa r=>Qva (gl.of (aC a 0)) (ar a 1)) (λ_ X=>by kernel_rfl)
def Xy(m:bd):Tree Bool:=
.lv (wa m.Mem) λ(x0:Int)=>.br (decide (x0<1)) (.lf false) (.br (m.B4.X.a0 !=0) (.lf false) (.br (decide (m.B4.C2.a0>31)) (.lf false) (.br (decide (m.B4.C2.a7>31)) (.lf false) (.br (decide (m.B4.C2.a6>255)) (.lf false) (.br (cZ m.B4.C2.a1 (4:Int) !=(0:Int)) (.lf false) (.lv (Qkj m.B2) λ(x1:Bool)=>.br (!x1) (.lf false) (.lv (S4 m.B8) λ(x2:Bool)=>.br (!x2) (.lf false) (.lv (S6 m.B5 x0) λ(x3:Bool)=>.br (!x3) (.lf false) (.lv (S5 m.D2 x0) λ(x4:Bool)=>.br (!x4) (.lf false) (.lv (Tb m.A6 x0) λ(x5:Bool)=>.br (!x5) (.lf false) (.br (decide (m.B7<=1152921504606846976)) (.br m.B3 (.lf (!m.B6)) (.lf true)) (.lf false))))))))))))
def Iz m:=(Xy m).m
def Zt8:bc:=mS 34 [] true [.agg bd.sig] [] (λa r=>Xy (bd.of (aC a 0))) (λX=>.bool X) (λX=>[])
theorem Z72:bm pG Zt8:=oS (.cons RN (.cons Qx9 (.cons Z3f (.cons Z6 (.cons Za4 (.cons Qxb (.nil))))))) Tryz.func34 Tryz.call34 [] [] 2
def Ra(is:Bool)(n:Int):Tree Int:=
.br is (.cn (decide (0<=wrap u64 n)) (.lf (ep u32 1 (wrap u64 n)))) (.lf 0)
def Dy is n:=(Ra is n).m
abbrev RO is n:=(Ra is n).p
def Zod:bc:=mT 255 [] true [.one (.bool),.one (.int .i64)] [] (λa r=>Ra (kq a 0) (ar a 1)) (λX=>.int .u32 X) (λX=>[])
theorem Zi6:bm pG Zod:=oT (.nil) Tryz.func255 Tryz.call255 [] [] 2
def Qko(t:iT):Tree Bool:=
.lf t.E0
def XB t:=(Qko t).m
def Qvu:bc:=mS 256 [] true [.agg iT.sig] [] (λa r=>Qko (iT.of (aC a 0))) (λX=>.bool X) (λX=>[])
theorem Qu4:bm pG Qvu:=oS (.nil) Tryz.func256 Tryz.call256 [] [] 2
def Qh5(c:iK):Tree Bool:=
.lf (decide ((c.D9.length:Int)>(0:Int)))
def S8 c:=(Qh5 c).m
def Qs0:bc:=mS 257 [] true [.agg iK.sig] [] (λa r=>Qh5 (iK.of (aC a 0))) (λX=>.bool X) (λX=>[])
theorem Qqa:bm pG Qs0:=oS (.nil) Tryz.func257 Tryz.call257 [] [] 2
def Qlw(d0:fw):Tree Bool:=
.br (d0.C8==2) (.lf true) (.lf (d0.C8==3))
def XC d0:=(Qlw d0).m
def Qwu:bc:=mS 258 [] true [.agg fw.sig] [] (λa r=>Qlw (fw.of (aC a 0))) (λX=>.bool X) (λX=>[])
theorem Qv0:bm pG Qwu:=oS (.nil) Tryz.func258 Tryz.call258 [] [] 2
def Qnf(n:gw):Tree Bool:=
.lf n.C4
def XD n:=(Qnf n).m
def Z1:bc:=mS 259 [] true [.agg gw.sig] [] (λa r=>Qnf (gw.of (aC a 0))) (λX=>.bool X) (λX=>[])
theorem Qxv:bm pG Z1:=oS (.nil) Tryz.func259 Tryz.call259 [] [] 2
def Qqs(b:gl)(z:(Int)×(Int)):Prop:=0<=z.2/\z.2<=32
def Qhd(b:gl)(z:(Int)×(Int)):Nat:=(32-z.2).toNat
def Vy(b:gl):Tree Int:=
.lp inferInstance (Qhd b (0,0)+1) ((rZ/\rE (0:Int)/\rE (0:Int)/\True)/\(rE b.A2/\rE b.D0/\True)/\True) (0,0) λ(v0:Int×Int)=>.br (decide (v0.2<32)) (.cn (decide (0<=wrap u64 v0.2)) (.nx ((rZ/\rE ((wrap i64 (v0.1+wrap i64 (ba u32 (bb u32 b.D0 (wrap u64 v0.2)) 1))):Int)/\rE ((wrap i64 (v0.2+1)):Int)/\True)/\(rE b.A2/\rE b.D0/\True)/\True) (Sum.inl (wrap i64 (v0.1+wrap i64 (ba u32 (bb u32 b.D0 (wrap u64 v0.2)) 1)),wrap i64 (v0.2+1))))) (.lf (Sum.inr v0.1))
def K6 b:=(Vy b).m
theorem Z8z(b:gl):(Vy b).p:=by
 unfold Tree.p Vy
 repeat'(first|refine fj (inv:=Qqs b) (μ:=Qhd b) ?_ (cN _) (λ_ _=>?_)|exact trivial|refine ab (λ_=>?_) (λ_=>?_)|refine ax ?_ ?_|refine c7 ?_ ?_|refine aq (λ_ _=>?_)|refine ez ?_|refine bh ?_|refine And.intro ?_ ?_)
 all_goals((try simp only[Qqs,Qhd]at*);exact nD)
def Zf2:cg:={
 α:=(Int)×(Int)
 F:=λst a=>([(1,.ptr 0 0 0),(3,.int i64 a.1),(4,.int i64 a.2)],[⟨true,40,2,.gen [[(cT st 1 0),(cT st 1 1)]]⟩])
 a0:=λst=>((lk st 3).toInt,(lk st 4).toInt)
 jf:=λst=>[]++[(rX st 1 0)]}
def Z7h:List (Nat×cg):=[(3,Zf2)]
def Zim:bc:=mS 225 [] true [.agg gl.sig] [] (λa r=>Vy (gl.of (aC a 0))) (λX=>.int .i64 X) (λX=>[])
theorem Qw7:bm pG Zim:=oS (.nil) Tryz.func225 Tryz.call225 [] Z7h 3 (λ_ _ _=>by kernel_rfl) (λa r=>Z8z (gl.of (aC a 0))) (λ_ X=>by kernel_rfl)
def Xt(b:gl):Tree Bool:=
.lv (K6 b) λ(x0:Int)=>.lf (wrap u64 x0 !=wrap u64 b.A2)
def N1 b:=(Xt b).m
def Qqu:bc:=mS 260 [] true [.agg gl.sig] [] (λa r=>Xt (gl.of (aC a 0))) (λX=>.bool X) (λX=>[])
theorem Qqp:bm pG Qqu:=oS (.cons Qw7 (.nil)) Tryz.func260 Tryz.call260 [] [] 2
def Rb(m:bd):Tree Int:=
.lv (XB m.B8) λ(x0:Bool)=>.an (RO x0 0) (.lv (Dy x0 0) λ(x1:Int)=>.lv (S8 m.B2) λ(x2:Bool)=>.an (RO x2 1) (.lv (Dy x2 1) λ(x3:Int)=>.lv (XC m.B5) λ(x4:Bool)=>.an (RO x4 2) (.lv (Dy x4 2) λ(x5:Int)=>.lv (XD m.D2) λ(x6:Bool)=>.an (RO x6 3) (.lv (Dy x6 3) λ(x7:Int)=>.lv (N1 m.A6) λ(x8:Bool)=>.an (RO x8 4) (.lv (Dy x8 4) λ(x9:Int)=>.lf (iH u32 (iH u32 (iH u32 (iH u32 x1 x3) x5) x7) x9))))))
def N3 m:=(Rb m).m
abbrev Quf m:=(Rb m).p
def Zi8:bc:=mT 210 [] true [.agg bd.sig] [] (λa r=>Rb (bd.of (aC a 0))) (λX=>.int .u32 X) (λX=>[])
theorem Zd2:bm pG Zi8:=oT (.cons Zi6 (.cons Qu4 (.cons Qqa (.cons Qv0 (.cons Qxv (.cons Qqp (.nil))))))) Tryz.func210 Tryz.call210 [] [] 2
def Lk(m:bd):Tree Int:=
.an (Quf m) (.lv (N3 m) λ(x0:Int)=>.lf (ba u32 x0 m.B4.C2.a7))
def AN m:=(Lk m).m
abbrev Qhc m:=(Lk m).p
def Z97:bc:=mT 156 [] true [.agg bd.sig] [] (λa r=>Lk (bd.of (aC a 0))) (λX=>.int .u32 X) (λX=>[])
theorem Qsc:bm pG Z97:=oT (.cons Zd2 (.nil)) Tryz.func156 Tryz.call156 [] [] 2
def Lm(m:bd):Tree Bool:=
.br m.B3 (.an (Qhc m) (.lv (AN m) λ(x0:Int)=>.lf (x0==0))) (.lf false)
def Qh m:=(Lm m).m
abbrev Qoe m:=(Lm m).p
def Zlx:bc:=mT 117 [] true [.agg bd.sig] [] (λa r=>Lm (bd.of (aC a 0))) (λX=>.bool X) (λX=>[])
theorem Z1v:bm pG Zlx:=oT (.cons Qsc (.nil)) Tryz.func117 Tryz.call117 [] [] 2
def IB(m:bd):Tree Bool:=
.lv (Iz m) λ(x0:Bool)=>.br (!x0) (.lf true) (.br m.B6 (.lf true) (.an (Qoe m) (.lv (Qh m) λ(x1:Bool)=>.br x1 (.lf true) (.lf (decide (m.B7>=1152921504606846976))))))
def Gw m:=(IB m).m
abbrev Qub m:=(IB m).p
def Zky:bc:=mT 75 [] true [.agg bd.sig] [] (λa r=>IB (bd.of (aC a 0))) (λX=>.bool X) (λX=>[])
theorem Zel:bm pG Zky:=oT (.cons Z72 (.cons Z1v (.nil))) Tryz.func75 Tryz.call75 [] [] 2
end
noncomputable section
def KS(m:List Int)(addr size v:Int):Tree (List Int):=
let E1:=bX 1 1&&bN 0 1&&decide (0<=wrap u32 (eF addr 4)/\wrap u32 (eF addr 4)<(m.length:Int));let E2:=dA (wrap u32 (eF addr 4));.br (size==4) (.cn E1 (.lf (dB m E2 v))) (.cn E1 (let E3:=decide (0<=wrap u32 (8*cZ addr 4));.cn E3 (.cn E3 (.cn E1 (.lf (dB m E2 (iH u32 (oD u32 (m.getD E2 0) (ep u32 255 (wrap u32 (8*cZ addr 4)))) (ep u32 (ba u32 v 255) (wrap u32 (8*cZ addr 4))))))))))
def It m addr size v:=(KS m addr size v).m
abbrev Qm0 m addr size v:=(KS m addr size v).p
def Zsb:bc:=mT 221 [true,false,false,false] true [.one (.row 0),.one (.int .u32),.one (.int .i64),.one (.int .u32)] [.arr 25 1 (.ints .u32)] (λa r=>KS (cw .u32 r 0) (ar a 1) (ar a 2) (ar a 3)) (λX=>.dv []) (λX=>[⟨false,25,1,.ints .u32 X⟩])
theorem Z56:bm pG Zsb:=oT (.nil) Tryz.func221 Tryz.call221 [] [] 2
def Zby(b:Bool):Tree Int:=
.br b (.lf 1) (.lf 0)
def BP b:=(Zby b).m
def Zte:bc:=mS 211 [] true [.one (.bool)] [] (λa r=>Zby (kq a 0)) (λX=>.int .u32 X) (λX=>[])
theorem Qvc:bm pG Zte:=oS (.nil) Tryz.func211 Tryz.call211 [] [] 2
def NN(c:bq)(ou bad:Int):Tree bq:=
.lv (BP (ba u32 c.C2.a0 (1:Int) !=(0:Int))) λ(x0:Int)=>.lv (BP (ba u32 c.C2.a0 (2:Int) !=(0:Int))) λ(x1:Int)=>.lf ({X:=c.X,Pc:=c.C2.a1,C2:={a0:=iH u32 (oD u32 (iH u32 (iH u32 (oD u32 c.C2.a0 24) (wrap u32 (8*x0))) (wrap u32 (16*x1))) 2) 1,a1:=c.C2.a1,a2:=c.Pc,a3:=wrap u32 ou,a4:=bad,a5:=c.C2.a5,a6:=c.C2.a6,a7:=c.C2.a7}})
def pD c ou bad:=(NN c ou bad).m
def Zlt:bc:=mS 157 [] true [.agg bq.sig,.one (.int .i64),.one (.int .u32)] [] (λa r=>NN (bq.of (aC a 0)) (ar a 1) (ar a 2)) (λX=>.agg (bq.cells X)) (λX=>[])
theorem Vz:bm pG Zlt:=oS (.cons Qvc (.nil)) Tryz.func157 Tryz.call157 [] [] 2
def Ir(m:List Int)(addr size:Int):Tree Bool:=
let T1:Tree (Bool):=.cn (decide (wrap u32 size≠0)) (.br (cZ addr (wrap u32 size)==0) (.lv (wa m) λ(x0:Int)=>.lf (decide (addr<wrap u32 (wrap i64 (128*x0))))) (.lf false));.br (size !=1) (.br (size !=4) (.lf false) T1) T1
def ud m addr size:=(Ir m addr size).m
abbrev Qed m addr size:=(Ir m addr size).p
def Ze2:bc:=mT 214 [] true [.one (.ints .u32),.one (.int .u32),.one (.int .i64)] [] (λa r=>Ir (dh .u32 a 0) (ar a 1) (ar a 2)) (λX=>.bool X) (λX=>[])
theorem Qmc:bm pG Ze2:=oT (.cons RN (.nil)) Tryz.func214 Tryz.call214 [] [] 2
def Dv(m:List Int)(addr size:Int):Tree (Int×Bool):=
.an (Qed m addr size) (.lv (ud m addr size) λ(x0:Bool)=>.br (!x0) (.lf (0,false)) (.cn (bX 1 1&&bN 0 1&&decide (0<=wrap u32 (eF addr 4)/\wrap u32 (eF addr 4)<(m.length:Int))) (.br (size==1) (.cn (decide (0<=wrap u32 (8*cZ addr 4))) (.lf (ba u32 (bb u32 (m.getD (dA (wrap u32 (eF addr 4))) 0) (wrap u32 (8*cZ addr 4))) 255,true))) (.lf (m.getD (dA (wrap u32 (eF addr 4))) 0,true)))))
def oF m addr size:=(Dv m addr size).m
abbrev Vk m addr size:=(Dv m addr size).p
def Zo6:bc:=mT 159 [] true [.one (.ints .u32),.one (.int .u32),.one (.int .i64)] [] (λa r=>Dv (dh .u32 a 0) (ar a 1) (ar a 2)) (λX=>.dv [.int .u32 (X.1),.bool (X.2)]) (λX=>[])
theorem Qso:bm pG Zo6:=oT (.cons Qmc (.nil)) Tryz.func159 Tryz.call159 [] [] 2
def KM(w:Int):Tree (gv×Bool):=
.lv (oE (wrap i64 (bb u32 w 24))) λ(x0:Int)=>let E5:=({Op:=0,A:=0,B:=0,C:=0,bz:=0}:gv);.br (x0==0) (.lf (E5,false)) (.br (x0==2) (let E3:=({Op:=wrap i64 (bb u32 w 24),A:=wrap i64 (ba u32 (bb u32 w 20) 15),B:=wrap i64 (ba u32 (bb u32 w 16) 15),C:=wrap i64 (ba u32 w 65535),bz:=0}:gv);.lv (Ep E3) λ(x1:Bool)=>.br (!x1) (.lf (E5,false)) (.lf (E3,true))) (let T1:Tree ((gv×Bool)):=let E2:=({Op:=wrap i64 (bb u32 w 24),A:=wrap i64 (ba u32 (bb u32 w 20) 15),B:=wrap i64 (ba u32 (bb u32 w 16) 15),C:=0,bz:=wrap i32 (wrap i16 (ba u32 w 65535))}:gv);.lv (Ep E2) λ(x2:Bool)=>.br (!x2) (.lf (E5,false)) (.lf (E2,true));.br (x0==3) T1 (.br (x0==7) T1 (let E4:=({Op:=wrap i64 (bb u32 w 24),A:=wrap i64 (ba u32 (bb u32 w 20) 15),B:=wrap i64 (ba u32 (bb u32 w 16) 15),C:=0,bz:=wrap i32 (ba u32 w 65535)}:gv);.lv (Ep E4) λ(x4:Bool)=>.br (!x4) (.lf (E5,false)) (.lf (E4,true))))))
def AI w:=(KM w).m
def Ze0:bc:=mS 160 [] true [.one (.int .u32)] [] (λa r=>KM (ar a 0)) (λX=>.dv [.agg (gv.cells (X.1)),.bool (X.2)]) (λX=>[])
theorem Qus:bm pG Ze0:=oS (.cons Rv (.cons Qy3 (.nil))) Tryz.func160 Tryz.call160 [] [] 2
def Z21(access:Int):Tree Bool:=
.br (decide (access>=1)) (.lf (decide (access<=3))) (.lf false)
def NJ access:=(Z21 access).m
def Zhh:bc:=mS 212 [] true [.one (.int .i64)] [] (λa r=>Z21 (ar a 0)) (λX=>.bool X) (λX=>[])
theorem Qwy:bm pG Zhh:=oS (.nil) Tryz.func212 Tryz.call212 [] [] 2
def Z1u(c:bq):Tree Bool:=
.lf (ba u32 c.C2.a0 (5:Int)==(4:Int))
def W7 c:=(Z1u c).m
def Zhf:bc:=mS 213 [] true [.agg bq.sig] [] (λa r=>Z1u (bq.of (aC a 0))) (λX=>.bool X) (λX=>[])
theorem Zdv:bm pG Zhf:=oS (.nil) Tryz.func213 Tryz.call213 [] [] 2
def K3(access:Int):Tree Int:=
.br (access==1) (.lf 4) (.br (access==3) (.lf 6) (.lf 5))
def BO access:=(K3 access).m
def Z9:bc:=mS 215 [] true [.one (.int .i64)] [] (λa r=>K3 (ar a 0)) (λX=>.int .i64 X) (λX=>[])
theorem Qrl:bm pG Z9:=oS (.nil) Tryz.func215 Tryz.call215 [] [] 2
def Gr(m:List Int)(root va access:Int):Tree rj:=
.lv (BO access) λ(x0:Int)=>.lv (wa m) λ(x1:Int)=>.lv (NJ access) λ(x2:Bool)=>let E4:=({Addr:=0,G1:=0,G0:=x0}:rj);.br (!x2) (.lf (E4)) (.br (decide (va>=4096)) (.lf (E4)) (.br (decide (root>=wrap u32 x1)) (.lf (E4)) (let E6:=wrap u32 (root*128)+wrap u32 (4*wrap u32 (eF va 128));let E3:=eF (wrap u32 E6) 4;.cn (bX 1 1&&bN 0 1&&decide (0<=wrap u32 E3/\wrap u32 E3<(m.length:Int))) (let E5:=m.getD (dA (wrap u32 E3)) 0;.br (ba u32 E5 (1:Int)==(0:Int)) (.lf (E4)) (let T1:Tree (rj):=.br (decide (ba u32 (bb u32 E5 8) 255>=wrap u32 x1)) (.lf (E4)) (.lf ({Addr:=wrap u32 (wrap u32 (ba u32 (bb u32 E5 8) (255:Int)*(128:Int))+cZ va 128),G1:=wrap u32 E6,G0:=0}));let T2:Tree (rj):=.br (access==1) (.br (ba u32 E5 (4:Int)==(0:Int)) (.lf (E4)) T1) T1;.br (access==3) (.br (ba u32 E5 (2:Int)==(0:Int)) (.lf (E4)) T2) T2)))))
def w9 m root va access:=(Gr m root va access).m
abbrev Qya m root va access:=(Gr m root va access).p
def Znl:bc:=mT 216 [] true [.one (.ints .u32),.one (.int .u32),.one (.int .u32),.one (.int .i64)] [] (λa r=>Gr (dh .u32 a 0) (ar a 1) (ar a 2) (ar a 3)) (λX=>.agg (rj.cells X)) (λX=>[])
theorem Zjp:bm pG Znl:=oT (.cons Qrl (.cons RN (.cons Qwy (.nil)))) Tryz.func216 Tryz.call216 [] [] 2
def KW(m:List Int)(entry access:Int):Tree (List Int):=
.an (Qed m entry 4) (.lv (ud m entry 4) λ(x0:Bool)=>.br (!x0) (.lf m) (let E3:=bX 1 1&&bN 0 1&&decide (0<=wrap u32 (eF entry 4)/\wrap u32 (eF entry 4)<(m.length:Int));.cn E3 (.cn E3 (let E4:=dA (wrap u32 (eF entry 4));let E1:=dB m E4 (iH u32 (m.getD E4 0) 8);.br (access==3) (let E2:=bX 1 1&&bN 0 1&&decide (0<=wrap u32 (eF entry 4)/\wrap u32 (eF entry 4)<(↑(dF E1):Int));.cn E2 (.cn E2 (.lf (dB E1 E4 (iH u32 (aV E1 E4 0) 16))))) (.lf E1)))))
def SV m entry access:=(KW m entry access).m
abbrev Qxf m entry access:=(KW m entry access).p
def Zo7:bc:=mT 217 [true,false,false] true [.one (.row 0),.one (.int .u32),.one (.int .i64)] [.arr 25 1 (.ints .u32)] (λa r=>KW (cw .u32 r 0) (ar a 1) (ar a 2)) (λX=>.dv []) (λX=>[⟨false,25,1,.ints .u32 X⟩])
theorem Zlc:bm pG Zo7:=oT (.cons Qmc (.nil)) Tryz.func217 Tryz.call217 [] [] 2
def Iw(c:bq)(m:List Int)(va size access:Int):Tree (Int×Int×(List Int)):=
.lv (NJ access) λ(x0:Bool)=>.br (!x0) (.lf (0,5,m)) (let T1:Tree ((Int×Int×(List Int))):=.cn (decide (wrap u32 size≠0)) (.br (cZ va (wrap u32 size) !=0) (.lf (0,3,m)) (.lv (W7 c) λ(x1:Bool)=>.br (!x1) (.an (Qed m va size) (.lv (ud m va size) λ(x2:Bool)=>.br (!x2) (.lv (BO access) λ(x3:Int)=>.lf (0,x3,m)) (.lf (va,0,m)))) (.an (Qya m c.C2.a6 va access) (.lv (w9 m c.C2.a6 va access) λ(x4:rj)=>.br (x4.G0 !=0) (.lf (0,x4.G0,m)) (.an (Qxf m x4.G1 access) (.lv (SV m x4.G1 access) λ(x5:List Int)=>.lf (x4.Addr,0,x5)))))));.br (size !=1) (.br (size !=4) (.lf (0,5,m)) T1) T1)
def lH c m va size access:=(Iw c m va size access).m
abbrev RP c m va size access:=(Iw c m va size access).p
def Zhn:bc:=mT 158 [false,true,false,false,false] true [.agg bq.sig,.one (.row 0),.one (.int .u32),.one (.int .i64),.one (.int .i64)] [.arr 25 1 (.ints .u32)] (λa r=>Iw (bq.of (aC a 0)) (cw .u32 r 0) (ar a 2) (ar a 3) (ar a 4)) (λX=>.dv [.int .u32 (X.1),.int .i64 (X.2.1)]) (λX=>[⟨false,25,1,.ints .u32 (X.2.2)⟩])
theorem Qw6:bm pG Zhn:=oT (.cons Qwy (.cons Zdv (.cons Qmc (.cons Qrl (.cons Zjp (.cons Zlc (.nil))))))) Tryz.func158 Tryz.call158 [] [] 2
def Qnq(op:Int):Tree Bool:=
.br (decide (op>=57)) (.lf (decide (op<=64))) (.lf false)
def KI op:=(Qnq op).m
def Qyu:bc:=mS 161 [] true [.one (.int .i64)] [] (λa r=>Qnq (ar a 0)) (λX=>.bool X) (λX=>[])
theorem Qyb:bm pG Qyu:=oS (.nil) Tryz.func161 Tryz.call161 [] [] 2
def NP(c:bq):Tree bq:=
.lv (BP (ba u32 c.C2.a0 (8:Int) !=(0:Int))) λ(x0:Int)=>.lv (BP (ba u32 c.C2.a0 (16:Int) !=(0:Int))) λ(x1:Int)=>.lf ({X:=c.X,Pc:=c.C2.a2,C2:={a0:=iH u32 (iH u32 (oD u32 c.C2.a0 3) (wrap u32 (1*x0))) (wrap u32 (2*x1)),a1:=c.C2.a1,a2:=c.C2.a2,a3:=c.C2.a3,a4:=c.C2.a4,a5:=c.C2.a5,a6:=c.C2.a6,a7:=c.C2.a7}})
def SW c:=(NP c).m
def Zfa:bc:=mS 218 [] true [.agg bq.sig] [] (λa r=>NP (bq.of (aC a 0))) (λX=>.agg (bq.cells X)) (λX=>[])
theorem Zal:bm pG Zfa:=oS (.cons Qvc (.nil)) Tryz.func218 Tryz.call218 [] [] 2
def Iv(c:bq)(r v:Int):Tree bq:=
.br (decide (r>0)) (.br (decide (r<16)) (.cn (bN 0 1&&decide (0<=r/\r<(↑16:Int))) (.lf ({X:=iv.of 0 (dB (iv.l c.X) r.toNat v),Pc:=c.Pc,C2:=c.C2}))) (.lf c)) (.lf c)
def lu c r v:=(Iv c r v).m
abbrev Db c r v:=(Iv c r v).p
def Zt5:bc:=mT 121 [] true [.agg bq.sig,.one (.int .i64),.one (.int .u32)] [] (λa r=>Iv (bq.of (aC a 0)) (ar a 1) (ar a 2)) (λX=>.agg (bq.cells X)) (λX=>[])
theorem RQ:bm pG Zt5:=oT (.nil) Tryz.func121 Tryz.call121 [] [] 2
def K4(c:bq)(jj v:Int):Tree bq:=
let E4:=bN 0 1&&decide (0<=jj/\jj<(↑8:Int));let T2:Tree (bq):=.cn E4 (.lf ({X:=c.X,Pc:=c.Pc,C2:=A8.of 0 (dB (A8.l c.C2) jj.toNat (ba u32 v 31))}));.br (jj==0) T2 (.br (jj==7) T2 (.br (jj==6) (.cn E4 (.lf ({X:=c.X,Pc:=c.Pc,C2:=A8.of 0 (dB (A8.l c.C2) jj.toNat (ba u32 v 255))}))) (let T3:Tree (bq):=.cn E4 (.lf ({X:=c.X,Pc:=c.Pc,C2:=A8.of 0 (dB (A8.l c.C2) jj.toNat (oD u32 v 3))}));.br (jj==1) T3 (.br (jj==2) T3 (let T1:Tree (bq):=.cn E4 (.lf ({X:=c.X,Pc:=c.Pc,C2:=A8.of 0 (dB (A8.l c.C2) jj.toNat v)}));.br (jj==3) T1 (.br (jj==4) T1 (.br (jj==5) T1 (.lf c))))))))
def NT c jj v:=(K4 c jj v).m
abbrev Quu c jj v:=(K4 c jj v).p
def Zh9:bc:=mT 219 [] true [.agg bq.sig,.one (.int .i64),.one (.int .u32)] [] (λa r=>K4 (bq.of (aC a 0)) (ar a 1) (ar a 2)) (λX=>.agg (bq.cells X)) (λX=>[])
theorem Zf5:bm pG Zh9:=oT (.nil) Tryz.func219 Tryz.call219 [] [] 2
def QV(c:bq)(i:gv):Tree (bq×lj):=
.br (i.Op==56) (.lv (pD c 7 0) λ(x0:bq)=>.lf (x0,{C3:=0,D8:=0,F8:=0,Value:=0})) (.br (i.Op==57) (.lv (SW c) λ(x1:bq)=>.lf (x1,{C3:=0,D8:=0,F8:=0,Value:=0})) (.br (i.Op==58) (.cn (bN 0 1&&decide (0<=i.bz/\i.bz<(↑8:Int))) (let E3:=aV (A8.l c.C2) i.bz.toNat 0;.an (Db c i.A E3) (.lv (lu c i.A E3) λ(x2:bq)=>.lf ({X:=x2.X,Pc:=wrap u32 (x2.Pc+4),C2:=x2.C2},{C3:=0,D8:=0,F8:=0,Value:=0})))) (let E2:=bN 0 1&&decide (0<=i.A/\i.A<(↑16:Int));.br (i.Op==59) (.cn E2 (let E4:=aV (iv.l c.X) i.A.toNat 0;.an (Quu c (wrap i64 i.bz) E4) (.lv (NT c (wrap i64 i.bz) E4) λ(x3:bq)=>.lf ({X:=x3.X,Pc:=wrap u32 (x3.Pc+4),C2:=x3.C2},{C3:=0,D8:=0,F8:=0,Value:=0})))) (let E1:=({X:=c.X,Pc:=wrap u32 (c.Pc+4),C2:=c.C2}:bq);.br (i.Op==60) (.lf (E1,{C3:=1,D8:=wrap i64 i.bz,F8:=i.A,Value:=0})) (.br (i.Op==61) (.cn E2 (.lf (E1,{C3:=2,D8:=wrap i64 i.bz,F8:=0,Value:=aV (iv.l c.X) i.A.toNat 0}))) (.br (i.Op==62) (.lf (E1,{C3:=3,D8:=0,F8:=0,Value:=0})) (.br (i.Op==63) (.lf (E1,{C3:=5,D8:=0,F8:=0,Value:=0})) (.br (i.Op==64) (.lf (E1,{C3:=4,D8:=0,F8:=0,Value:=0})) (.lf (E1,{C3:=0,D8:=0,F8:=0,Value:=0}))))))))))
def Xb c i:=(QV c i).m
abbrev Qs6 c i:=(QV c i).p
def Ze5:bc:=mT 162 [] true [.agg bq.sig,.agg gv.sig] [] (λa r=>QV (bq.of (aC a 0)) (gv.of (aC a 1))) (λX=>.dv [.agg (bq.cells (X.1)),.agg (lj.cells (X.2))]) (λX=>[])
theorem Z94:bm pG Ze5:=oT (.cons Vz (.cons Zal (.cons RQ (.cons Zf5 (.nil))))) Tryz.func162 Tryz.call162 [] [] 2
def Z1w(op a b:Int):Tree Bool:=
.br (op==40) (.lf (a==b)) (.br (op==41) (.lf (a !=b)) (.br (op==42) (.lf (decide (wrap i32 a<wrap i32 b))) (.br (op==43) (.lf (decide (wrap i32 a>=wrap i32 b))) (.br (op==44) (.lf (decide (a<b))) (.lf (decide (a>=b)))))))
def pV op a b:=(Z1w op a b).m
def Zkf:bc:=mS 220 [] true [.one (.int .i64),.one (.int .u32),.one (.int .u32)] [] (λa r=>Z1w (ar a 0) (ar a 1) (ar a 2)) (λX=>.bool X) (λX=>[])
theorem Zga:bm pG Zkf:=oS (.nil) Tryz.func220 Tryz.call220 [] [] 2
def QW(c:bq)(i:gv):Tree bq:=
.br (i.Op==48) (.an (Db c i.A (wrap u32 (c.Pc+4))) (.lv (lu c i.A (wrap u32 (c.Pc+4))) λ(x0:bq)=>.lf ({X:=x0.X,Pc:=wrap u32 (c.Pc+wrap u32 (4*wrap u32 i.bz)),C2:=x0.C2}))) (let E1:=bN 0 1&&decide (0<=i.B/\i.B<(↑16:Int));.br (i.Op==49) (.cn E1 (.an (Db c i.A (wrap u32 (c.Pc+4))) (.lv (lu c i.A (wrap u32 (c.Pc+4))) λ(x1:bq)=>.lf ({X:=x1.X,Pc:=wrap u32 (aV (iv.l c.X) i.B.toNat 0+wrap u32 i.bz),C2:=x1.C2})))) (.cn (bN 0 1&&decide (0<=i.A/\i.A<(↑16:Int))) (.cn E1 (.lv (pV i.Op (aV (iv.l c.X) i.A.toNat 0) (aV (iv.l c.X) i.B.toNat 0)) λ(x2:Bool)=>.br x2 (.lf ({X:=c.X,Pc:=wrap u32 (c.Pc+wrap u32 (4*wrap u32 i.bz)),C2:=c.C2})) (.lf ({X:=c.X,Pc:=wrap u32 (c.Pc+4),C2:=c.C2}))))))
def Z5u c i:=(QW c i).m
abbrev Qx c i:=(QW c i).p
def Znt:bc:=mT 163 [] true [.agg bq.sig,.agg gv.sig] [] (λa r=>QW (bq.of (aC a 0)) (gv.of (aC a 1))) (λX=>.agg (bq.cells X)) (λX=>[])
theorem Zih:bm pG Znt:=oT (.cons RQ (.cons Zga (.nil))) Tryz.func163 Tryz.call163 [] [] 2
def QU(x n:Int):Tree Int:=
.br (decide (n<1)) (.lf 0) (.br (decide (n>=32)) (.lf x) (.cn (decide (0<=wrap u64 n)) (.cn (decide (0<=wrap u64 (wrap i64 (n-1)))) (let E1:=ba u32 x (wrap u32 (ep u32 1 (wrap u64 n)-1));.br (bb u32 E1 (wrap u64 (wrap i64 (n-1)))==1) (.cn (decide (0<=wrap u64 n)) (.lf (iH u32 E1 (ep u32 4294967295 (wrap u64 n))))) (.lf E1)))))
def Gm x n:=(QU x n).m
abbrev Qcl x n:=(QU x n).p
def Qyw:bc:=mT 222 [] true [.one (.int .u32),.one (.int .i64)] [] (λa r=>QU (ar a 0) (ar a 1)) (λX=>.int .u32 X) (λX=>[])
theorem Qxa:bm pG Qyw:=oT (.nil) Tryz.func222 Tryz.call222 [] [] 2
def QX(c:bq)(m:List Int)(i:gv):Tree (bq×(List Int)):=
.cn (bN 0 1&&decide (0<=i.B/\i.B<(↑16:Int))) (let E4:=wrap u32 (aV (iv.l c.X) i.B.toNat 0+wrap u32 i.bz);let E5:=aV (iv.l c.X) i.A.toNat 0;let E6:=bN 0 1&&decide (0<=i.A/\i.A<(↑16:Int));let E7:=({X:=c.X,Pc:=wrap u32 (c.Pc+4),C2:=c.C2}:bq);let T1:Tree ((bq×(List Int))):=let T3:Tree ((bq×(List Int))):=.an (RP c m E4 4 3) (.lv (lH c m E4 4 3) λ(x0:Int×Int×List Int)=>.br (x0.2.1 !=0) (.lv (pD c x0.2.1 E4) λ(x1:bq)=>.lf (x1,x0.2.2)) (.cn E6 (.an (Qm0 x0.2.2 x0.1 4 E5) (.lv (It x0.2.2 x0.1 4 E5) λ(x2:List Int)=>.lf (E7,x2)))));.br (i.Op==35) T3 (.br (i.Op==36) T3 (.an (RP c m E4 4 2) (.lv (lH c m E4 4 2) λ(x6:Int×Int×List Int)=>.br (x6.2.1 !=0) (.lv (pD c x6.2.1 E4) λ(x7:bq)=>.lf (x7,x6.2.2)) (.an (Vk x6.2.2 x6.1 4) (.lv (oF x6.2.2 x6.1 4) λ(x8:Int×Bool)=>.br (i.Op==33) (.an (Qcl x8.1 8) (.lv (Gm x8.1 8) λ(x9:Int)=>.an (Db c i.A x9) (.lv (lu c i.A x9) λ(kZ:bq)=>.lf ({X:=kZ.X,Pc:=wrap u32 (kZ.Pc+4),C2:=kZ.C2},x6.2.2)))) (.an (Db c i.A x8.1) (.lv (lu c i.A x8.1) λ(mz:bq)=>.lf ({X:=mz.X,Pc:=wrap u32 (mz.Pc+4),C2:=mz.C2},x6.2.2))))))));.br (i.Op==32) T1 (.br (i.Op==35) T1 (let T2:Tree ((bq×(List Int))):=.an (RP c m E4 1 3) (.lv (lH c m E4 1 3) λ(DN:Int×Int×List Int)=>.br (DN.2.1 !=0) (.lv (pD c DN.2.1 E4) λ(x25:bq)=>.lf (x25,DN.2.2)) (.cn E6 (.an (Qm0 DN.2.2 DN.1 1 E5) (.lv (It DN.2.2 DN.1 1 E5) λ(x26:List Int)=>.lf (E7,x26)))));.br (i.Op==35) T2 (.br (i.Op==36) T2 (.an (RP c m E4 1 2) (.lv (lH c m E4 1 2) λ(FA:Int×Int×List Int)=>.br (FA.2.1 !=0) (.lv (pD c FA.2.1 E4) λ(x31:bq)=>.lf (x31,FA.2.2)) (.an (Vk FA.2.2 FA.1 1) (.lv (oF FA.2.2 FA.1 1) λ(VA:Int×Bool)=>.br (i.Op==33) (.an (Qcl VA.1 8) (.lv (Gm VA.1 8) λ(x33:Int)=>.an (Db c i.A x33) (.lv (lu c i.A x33) λ(x34:bq)=>.lf ({X:=x34.X,Pc:=wrap u32 (x34.Pc+4),C2:=x34.C2},FA.2.2)))) (.an (Db c i.A VA.1) (.lv (lu c i.A VA.1) λ(x35:bq)=>.lf ({X:=x35.X,Pc:=wrap u32 (x35.Pc+4),C2:=x35.C2},FA.2.2)))))))))))
def Gs c m i:=(QX c m i).m
abbrev Qni c m i:=(QX c m i).p
def Z6v:bc:=mT 164 [false,true,false] true [.agg bq.sig,.one (.row 0),.agg gv.sig] [.arr 25 1 (.ints .u32)] (λa r=>QX (bq.of (aC a 0)) (cw .u32 r 0) (gv.of (aC a 2))) (λX=>.agg (bq.cells (X.1))) (λX=>[⟨false,25,1,.ints .u32 (X.2)⟩])
theorem Z31:bm pG Z6v:=oT (.cons Qw6 (.cons Vz (.cons Z56 (.cons Qso (.cons Qxa (.cons RQ (.nil))))))) Tryz.func164 Tryz.call164 [] [] 2
def Z1n(op:Int):Tree Int:=
.br (op==16) (.lf 1) (.br (op==17) (.lf 3) (.br (op==18) (.lf 4) (.br (op==19) (.lf 5) (.br (op==20) (.lf 6) (.br (op==21) (.lf 7) (.br (op==22) (.lf 8) (.br (op==23) (.lf 12) (.lf op))))))))
def Zbb op:=(Z1n op).m
def Zhm:bc:=mS 223 [] true [.one (.int .i64)] [] (λa r=>Z1n (ar a 0)) (λX=>.int .i64 X) (λX=>[])
theorem Zdj:bm pG Zhm:=oS (.nil) Tryz.func223 Tryz.call223 [] [] 2
def K0(a b:Int):Tree (Int×Int):=
.br (b==0) (.lf (4294967295,a)) (.cn (decide (wrap i64 (wrap i32 b)≠0)) (.cn (decide (wrap i64 (wrap i32 b)≠0)) (.lf (wrap u32 (wrap i64 (eF (wrap i64 (wrap i32 a)) (wrap i64 (wrap i32 b)))),wrap u32 (cZ (wrap i64 (wrap i32 a)) (wrap i64 (wrap i32 b)))))))
def KY a b:=(K0 a b).m
abbrev Qkc a b:=(K0 a b).p
def Zfc:bc:=mT 224 [] true [.one (.int .u32),.one (.int .u32)] [] (λa r=>K0 (ar a 0) (ar a 1)) (λX=>.dv [.int .u32 (X.1),.int .u32 (X.2)]) (λX=>[])
theorem Za6:bm pG Zfc:=oT (.nil) Tryz.func224 Tryz.call224 [] [] 2
def QT(op a b:Int):Tree (Int×Bool):=
.lv (Zbb op) λ(x0:Int)=>.br (x0==1) (.lf (wrap u32 (a+b),true)) (.br (x0==2) (.lf (wrap u32 (a-b),true)) (.br (x0==3) (.lf (ba u32 a b,true)) (.br (x0==4) (.lf (iH u32 a b,true)) (.br (x0==5) (.lf (ri u32 a b,true)) (.br (x0==6) (.lf (ep u32 a (ba u32 b 31),true)) (.br (x0==7) (.lf (bb u32 a (ba u32 b 31),true)) (.br (x0==8) (.lf (wrap u32 (bb i32 (wrap i32 a) (ba u32 b 31)),true)) (.br (x0==9) (.lf (wrap u32 (a*b),true)) (.br (x0==10) (.an (Qkc a b) (.lv (KY a b) λ(x1:Int×Int)=>.lf (x1.1,true))) (.br (x0==11) (.an (Qkc a b) (.lv (KY a b) λ(x2:Int×Int)=>.lf (x2.2,true))) (.br (x0==12) (.lv (BP (decide (wrap i32 a<wrap i32 b))) λ(x3:Int)=>.lf (x3,true)) (.br (x0==13) (.lv (BP (decide (a<b))) λ(x4:Int)=>.lf (x4,true)) (.lf (0,false))))))))))))))
def Dw op a b:=(QT op a b).m
abbrev Qsq op a b:=(QT op a b).p
def Ztb:bc:=mT 165 [] true [.one (.int .i64),.one (.int .u32),.one (.int .u32)] [] (λa r=>QT (ar a 0) (ar a 1) (ar a 2)) (λX=>.dv [.int .u32 (X.1),.bool (X.2)]) (λX=>[])
theorem Zlw:bm pG Ztb:=oT (.cons Zdj (.cons Za6 (.cons Qvc (.nil)))) Tryz.func165 Tryz.call165 [] [] 2
def QY(c:bq)(m:List Int):Tree (bq×lj×(List Int)):=
.an (RP c m c.Pc 4 1) (.lv (lH c m c.Pc 4 1) λ(x0:Int×Int×List Int)=>.br (x0.2.1 !=0) (.lv (pD c x0.2.1 c.Pc) λ(x1:bq)=>.lf (x1,{C3:=0,D8:=0,F8:=0,Value:=0},x0.2.2)) (.an (Vk x0.2.2 x0.1 4) (.lv (oF x0.2.2 x0.1 4) λ(x2:Int×Bool)=>.lv (AI x2.1) λ(x3:gv×Bool)=>.br (!x3.2) (.lv (pD c 1 x2.1) λ(x4:bq)=>.lf (x4,{C3:=0,D8:=0,F8:=0,Value:=0},x0.2.2)) (.lv (KI x3.1.Op) λ(x5:Bool)=>let T1:Tree ((bq×lj×(List Int))):=.br (decide (x3.1.Op>=56)) (.an (Qs6 c x3.1) (.lv (Xb c x3.1) λ(x7:bq×lj)=>.lf (x7.1,x7.2,x0.2.2))) (.br (decide (x3.1.Op>=40)) (.an (Qx c x3.1) (.lv (Z5u c x3.1) λ(x8:bq)=>.lf (x8,{C3:=0,D8:=0,F8:=0,Value:=0},x0.2.2))) (.br (decide (x3.1.Op>=32)) (.an (Qni c x0.2.2 x3.1) (.lv (Gs c x0.2.2 x3.1) λ(x9:bq×List Int)=>.lf (x9.1,{C3:=0,D8:=0,F8:=0,Value:=0},x9.2))) (.br (x3.1.Op==24) (.an (Db c x3.1.A (ep u32 (wrap u32 x3.1.bz) 16)) (.lv (lu c x3.1.A (ep u32 (wrap u32 x3.1.bz) 16)) λ(kZ:bq)=>.lf ({X:=kZ.X,Pc:=wrap u32 (kZ.Pc+4),C2:=kZ.C2},{C3:=0,D8:=0,F8:=0,Value:=0},x0.2.2))) (let E2:=aV (iv.l c.X) x3.1.B.toNat 0;let E3:=bN 0 1&&decide (0<=x3.1.B/\x3.1.B<(↑16:Int));.br (decide (x3.1.Op<=13)) (.cn (bN 0 1&&decide (0<=x3.1.C/\x3.1.C<(↑16:Int))) (.cn E3 (let E4:=aV (iv.l c.X) x3.1.C.toNat 0;.an (Qsq x3.1.Op E2 E4) (.lv (Dw x3.1.Op E2 E4) λ(mz:Int×Bool)=>.an (Db c x3.1.A mz.1) (.lv (lu c x3.1.A mz.1) λ(pL:bq)=>.lf ({X:=pL.X,Pc:=wrap u32 (pL.Pc+4),C2:=pL.C2},{C3:=0,D8:=0,F8:=0,Value:=0},x0.2.2)))))) (.cn E3 (.an (Qsq x3.1.Op E2 (wrap u32 x3.1.bz)) (.lv (Dw x3.1.Op E2 (wrap u32 x3.1.bz)) λ(Aq:Int×Bool)=>.an (Db c x3.1.A Aq.1) (.lv (lu c x3.1.A Aq.1) λ(Fu:bq)=>.lf ({X:=Fu.X,Pc:=wrap u32 (Fu.Pc+4),C2:=Fu.C2},{C3:=0,D8:=0,F8:=0,Value:=0},x0.2.2)))))))));.br x5 (.br (ba u32 c.C2.a0 (1:Int)==(0:Int)) (.lv (pD c 2 x2.1) λ(x6:bq)=>.lf (x6,{C3:=0,D8:=0,F8:=0,Value:=0},x0.2.2)) T1) T1))))
def AK c m:=(QY c m).m
abbrev Z7d c m:=(QY c m).p
def yD:bc:=mT 119 [false,true] true [.agg bq.sig,.one (.row 0)] [.arr 25 1 (.ints .u32)] (λa r=>QY (bq.of (aC a 0)) (cw .u32 r 0)) (λX=>.dv [.agg (bq.cells (X.1)),.agg (lj.cells (X.2.1))]) (λX=>[⟨false,25,1,.ints .u32 (X.2.2)⟩])
theorem Zsm:bm pG yD:=oT (.cons Qw6 (.cons Vz (.cons Qso (.cons Qus (.cons Qyb (.cons Z94 (.cons Zih (.cons Z31 (.cons RQ (.cons Zlw (.nil))))))))))) Tryz.func119 Tryz.call119 [] [] 2
end
noncomputable section
def NY(m:List Int)(frame:Int):Tree Bool:=
.lv (wa m) λ(x0:Int)=>.lf (decide (wrap u64 frame<wrap u64 x0))
def tn m frame:=(NY m frame).m
def Znr:bc:=mS 226 [] true [.one (.ints .u32),.one (.int .u32)] [] (λa r=>NY (dh .u32 a 0) (ar a 1)) (λX=>.bool X) (λX=>[])
theorem RC:bm pG Znr:=oS (.cons RN (.nil)) Tryz.func226 Tryz.call226 [] [] 2
def Qep(m:bd)(z:(Int)):Nat:=(32-z).toNat
def Q5(m:bd):Tree bq:=
.an (Qhc m) (.lv (AN m) λ(x0:Int)=>.br (ba u32 m.B4.C2.a0 (2:Int)==(0:Int)) (.lf m.B4) (.br (x0==0) (.lf m.B4) (.lp inferInstance (Qep m 0+1) ((rZ/\rZ/\rE (x0:Int)/\rE (0:Int)/\True)/\(mE m (((ai.Nil (ai.ints u32 m.Mem)\/rE (1:Nat))/\rE m.Mem)) True)/\(rE (0:Int)/\rE (0:Int)/\rE (0:Int)/\rE (0:Int)/\rE (0:Int)/\rE (0:Int)/\rE (0:Int)/\rE (0:Int)/\rE (0:Int)/\rE (0:Int)/\rE (0:Int)/\rE (0:Int)/\rE (0:Int)/\rE (0:Int)/\rE (0:Int)/\rE (0:Int)/\rE (0:Int)/\rE (0:Int)/\rE (0:Int)/\rE (0:Int)/\rE (0:Int)/\rE (0:Int)/\rE (0:Int)/\rE (0:Int)/\rE (0:Int)/\True)/\True) 0 λ(v0:Int)=>.cn (decide (0<=wrap u64 v0)) (.br (ba u32 (bb u32 x0 (wrap u64 v0)) (1:Int)==(0:Int)) (.nx ((rZ/\rZ/\rE (x0:Int)/\rE ((wrap i64 (v0+1)):Int)/\True)/\(mE m (((ai.Nil (ai.ints u32 m.Mem)\/rE (1:Nat))/\rE m.Mem)) True)/\(rE (0:Int)/\rE (0:Int)/\rE (0:Int)/\rE (0:Int)/\rE (0:Int)/\rE (0:Int)/\rE (0:Int)/\rE (0:Int)/\rE (0:Int)/\rE (0:Int)/\rE (0:Int)/\rE (0:Int)/\rE (0:Int)/\rE (0:Int)/\rE (0:Int)/\rE (0:Int)/\rE (0:Int)/\rE (0:Int)/\rE (0:Int)/\rE (0:Int)/\rE (0:Int)/\rE (0:Int)/\rE (0:Int)/\rE (0:Int)/\rE (0:Int)/\True)/\True) (Sum.inl (wrap i64 (v0+1)))) (.lv (pD m.B4 (wrap i64 (16+v0)) 0) λ(x1:bq)=>.lf (Sum.inr x1))))))
def pW m:=(Q5 m).m
abbrev Qbb m:=(Q5 m).p
def Qvk:cg:={
 α:=(Int)
 F:=λst a=>([(1,.ptr 0 0 0),(2,.ptr 1 0 0),(3,(lk st 3)),(4,.int i64 a)],[⟨true,43,49,.gen [mB (cT st 1)]⟩,⟨true,29,25,.gen [[(cT st 2 0),(cT st 2 1),(cT st 2 2),(cT st 2 3),(cT st 2 4),(cT st 2 5),(cT st 2 6),(cT st 2 7),(cT st 2 8),(cT st 2 9),(cT st 2 10),(cT st 2 11),(cT st 2 12),(cT st 2 13),(cT st 2 14),(cT st 2 15),(cT st 2 16),(cT st 2 17),(cT st 2 18),(cT st 2 19),(cT st 2 20),(cT st 2 21),(cT st 2 22),(cT st 2 23),(cT st 2 24)]]⟩])
 a0:=λst=>(lk st 4).toInt
 jf:=λst=>[]++[(rX st 1 0),(rX st 2 1)]}
def Qsh:List (Nat×cg):=[(5,Qvk)]
def Qwa:bc:=mT 118 [] true [.agg bd.sig] [] (λa r=>Q5 (bd.of (aC a 0))) (λX=>.agg (bq.cells X)) (λX=>[])
theorem Qk2:bm pG Qwa:=oT (.cons Qsc (.cons Vz (.nil))) Tryz.func118 Tryz.call118 [] Qsh 3
def Gu(c:iK)(port:Int):Tree (iK×Int):=
let T1:Tree ((iK×Int)):=.br (port==0) (.cn (decide ((0:Int)<=(1:Int)/\1<=(c.D9.length:Int)/\(c.D9.length:Int)<=(c.D9.length:Int))) (.cn (decide ((0:Int)<=(0:Int)/\0<(c.D9.length:Int))) (.lf ({D9:=cU (dA (c.D9.length:Int)-dA 1) (cV (dA 1) c.D9)},wrap u32 (↑(UInt8.toNat (c.D9.getD (dA 0) (0:UInt8))):Int))))) (.br (port==1) (.lf (c,wrap u32 (c.D9.length:Int))) (.lf (c,0)));.br (port==0) (.br ((c.D9.length:Int)==(0:Int)) (.lf (c,4294967295)) T1) T1
def K7 c port:=(Gu c port).m
theorem Qx4(c:iK)(port:Int):(Gu c port).p:=by
 unfold Tree.p Gu
 repeat'(first|exact trivial|refine ab (λ_=>?_) (λ_=>?_)|refine ax ?_ ?_|refine c7 ?_ ?_|refine aq (λ_ _=>?_)|refine ez ?_|refine bh ?_|refine And.intro ?_ ?_)
 all_goals(exact nD)
def Z3j:bc:=mS 166 [] true [.agg iK.sig,.one (.int .i64)] [] (λa r=>Gu (iK.of (aC a 0)) (ar a 1)) (λX=>.dv [.agg (iK.cells (X.1)),.int .u32 (X.2)]) (λX=>[])
theorem Z0g:bm pG Z3j:=oS (.nil) Tryz.func166 Tryz.call166 [] [] 2 (λ_ _ _=>by kernel_rfl) (λa r=>Qx4 (iK.of (aC a 0)) (ar a 1)) (λ_ X=>by kernel_rfl)
def UU(t:iT):Tree Int:=
.br t.E0 (.lf 1) (.lf 0)
def XG t:=(UU t).m
def Z95:bc:=mS 167 [] true [.agg iT.sig] [] (λa r=>UU (iT.of (aC a 0))) (λX=>.int .u32 X) (λX=>[])
theorem Z4r:bm pG Z95:=oS (.nil) Tryz.func167 Tryz.call167 [] [] 2
def UT(d0:fw)(port:Int):Tree Int:=
.br (port==4) (.lf d0.C9) (.br (port==5) (.lf d0.Frame) (.br (port==6) (.lf (wrap u32 d0.C8)) (.lf 0)))
def XF d0 port:=(UT d0 port).m
def Zeh:bc:=mS 168 [] true [.agg fw.sig,.one (.int .i64)] [] (λa r=>UT (fw.of (aC a 0)) (ar a 1)) (λX=>.int .u32 X) (λX=>[])
theorem Z9u:bm pG Zeh:=oS (.nil) Tryz.func168 Tryz.call168 [] [] 2
def NX(n:gw)(port:Int):Tree Int:=
.br (port==7) (.lf n.Frame) (.br (port==8) (.lf n.F9) (.br (port==9) (.br n.D1 (.br n.C4 (.lf (wrap u32 ((1:Int)+(2:Int)))) (.lf 1)) (.br n.C4 (.lf (wrap u32 ((0:Int)+(2:Int)))) (.lf 0))) (.lf 0)))
def S3 n port:=(NX n port).m
def Zgw:bc:=mS 169 [] true [.agg gw.sig,.one (.int .i64)] [] (λa r=>NX (gw.of (aC a 0)) (ar a 1)) (λX=>.int .u32 X) (λX=>[])
theorem Zgn:bm pG Zgw:=oS (.nil) Tryz.func169 Tryz.call169 [] [] 2
def Lc(b:gl)(port:Int):Tree Int:=
.br (port==10) (.lf b.A2) (.br (port==11) (.lv (K6 b) λ(x0:Int)=>.lf (wrap u32 x0)) (.lf 0))
def Lb b port:=(Lc b port).m
def Z2r:bc:=mS 170 [] true [.agg gl.sig,.one (.int .i64)] [] (λa r=>Lc (gl.of (aC a 0)) (ar a 1)) (λX=>.int .u32 X) (λX=>[])
theorem Qz2:bm pG Z2r:=oS (.cons Qw7 (.nil)) Tryz.func170 Tryz.call170 [] [] 2
def MY(m:bd)(port clock:Int):Tree (Int×bd):=
.br (decide (port<=1)) (.lv (K7 m.B2 port) λ(x0:iK×Int)=>.lf (x0.2,{B4:=m.B4,Mem:=m.Mem,B2:=x0.1,B8:=m.B8,B5:=m.B5,D2:=m.D2,A6:=m.A6,B7:=m.B7,B3:=m.B3,B6:=m.B6})) (.br (port==2) (.lf (clock,m)) (.br (port==3) (.lv (XG m.B8) λ(x1:Int)=>.lf (x1,m)) (.br (decide (port<=6)) (.lv (XF m.B5 port) λ(x2:Int)=>.lf (x2,m)) (.br (decide (port<=9)) (.lv (S3 m.D2 port) λ(x3:Int)=>.lf (x3,m)) (.lv (Lb m.A6 port) λ(x4:Int)=>.lf (x4,m))))))
def Dz m port clock:=(MY m port clock).m
def vD:bc:=mS 120 [true,false,false] true [.ptr 0,.one (.int .i64),.one (.int .u32)] [.box 43 49 (bd.ic (.row 1)),.arr 25 1 (.ints .u32)] (λa r=>MY (bd.iz (r.getD 0 default).cs (cw .u32 r 1)) (ar a 1) (ar a 2)) (λX=>.int .u32 (X.1)) (λX=>[⟨true,43,49,.gen [(bd.cj (X.2) (.all 1))]⟩,⟨false,25,1,.ints .u32 (X.2).Mem⟩])
theorem Zsz:bm pG vD:=oS (.cons Z0g (.cons Z4r (.cons Z9u (.cons Zgn (.cons Qz2 (.nil)))))) Tryz.func120 Tryz.call120 [.row 25 1 (.ints .u32)] [] 2
def Xk(deadline:Int):Tree iT:=
.br (deadline==0) (.lf ({F0:=false,D3:=0,E0:=false})) (.lf ({F0:=true,D3:=deadline,E0:=false}))
def Xj deadline:=(Xk deadline).m
def Zsr:bc:=mS 171 [] true [.one (.int .u32)] [] (λa r=>Xk (ar a 0)) (λX=>.agg (iT.cells X)) (λX=>[])
theorem Zn4:bm pG Zsr:=oS (.nil) Tryz.func171 Tryz.call171 [] [] 2
def Qy4(x n:Int)(z:(Int)×(List Int)):Prop:=0<=z.1/\(z.2.length:Int)=z.1/\(z.1<=n\/z.1=0)
def US(x n:Int)(z:(Int)×(List Int)):Nat:=(n-z.1).toNat
def L7(x n:Int):Tree (List UInt8):=
.lp inferInstance (US x n (0,[])+1) ((rE (x:Int)/\rE (n:Int)/\True/\rE (0:Int)/\True)/\rE ([]:List Int)/\True) (0,[]) λ(v0:Int×List Int)=>.br (decide (v0.1<n)) (.cn (decide (0<=wrap u64 (wrap i64 (8*v0.1)))) (.cn (decide (1*(v0.2.length+1)<=140737488355328)) (.nx ((rE (x:Int)/\rE (n:Int)/\True/\rE ((wrap i64 (v0.1+1)):Int)/\True)/\rE ((v0.2++[wrap u8 (bb u32 x (wrap u64 (wrap i64 (8*v0.1))))]):List Int)/\True) (Sum.inl (wrap i64 (v0.1+1),v0.2++[wrap u8 (bb u32 x (wrap u64 (wrap i64 (8*v0.1))))]))))) (.lf (Sum.inr (bytesOf v0.2)))
def WX x n:=(L7 x n).m
def VB(x n:Int):Prop:=
n<=1000000000000
theorem Zil(x n:Int)(hw:VB x n):(L7 x n).p:=by
 simp only[VB]at hw
 unfold Tree.p L7
 repeat'(first|refine fj (inv:=Qy4 x n) (μ:=US x n) ?_ (cN _) (λ_ _=>?_)|exact trivial|refine ab (λ_=>?_) (λ_=>?_)|refine ax ?_ ?_|refine c7 ?_ ?_|refine aq (λ_ _=>?_)|refine ez ?_|refine bh ?_|refine And.intro ?_ ?_)
 all_goals((try simp only[Qy4,US]at*);exact nD)
def Zlh:cg:={
 α:=(Int)×(List Int)
 F:=λst a=>([(0,(lk st 0)),(1,(lk st 1)),(5,.all 0),(6,.int i64 a.1)],[⟨false,5,1,.ints u8 a.2⟩])
 a0:=λst=>((lk st 6).toInt,(nU st.rows (rN st 5)))
 jf:=λst=>[]++[(rX st 5 0)]}
def Zgg:List (Nat×cg):=[(3,Zlh)]
def Zs:bc:=lh 206 [] true [.one (.int .u32),.one (.int .i64)] [] (λa r=>VB (ar a 0) (ar a 1)) (λa r=>WX (ar a 0) (ar a 1)) (λX=>.str X) (λX=>[])
theorem Zmp:bm pG Zs:=uM drawn jt (.nil) Tryz.func206 Tryz.call206 (λa r=>L7 (ar a 0) (ar a 1)) [] Zgg 3 (hp:=λa r h=>Zil (ar a 0) (ar a 1) h)
def WY(m:List Int)(frame:Int)(z:(Int)×(List Int)):Nat:=(32-z.1).toNat
def Gq(m:List Int)(frame:Int):Tree ((List UInt8)×Bool):=
.br (decide (frame<0)) (.lf ([],false)) (.lv (wa m) λ(x0:Int)=>.br (decide (frame>=x0)) (.lf ([],false)) (.lp inferInstance (WY m frame (0,[])+1) ((((ai.Nil (ai.ints u32 m)\/rE (1:Nat))/\rE (m:List Int))/\rE (frame:Int)/\True/\rE (0:Int)/\True)/\rE ([]:List Int)/\True) (0,[]) λ(v0:Int×List Int)=>.br (decide (v0.1<32)) (.cn (bX 1 1&&bN 0 1&&decide (0<=wrap i64 (wrap i64 (frame*32)+v0.1)/\wrap i64 (wrap i64 (frame*32)+v0.1)<(m.length:Int))) (let E1:=m.getD (dA (wrap i64 (wrap i64 (frame*32)+v0.1))) 0;.an (VB E1 4) (.lv (WX E1 4) λ(x1:List UInt8)=>.cn (decide (1*(v0.2.length+dF (oR x1))<=140737488355328)) (.nx ((((ai.Nil (ai.ints u32 m)\/rE (1:Nat))/\rE (m:List Int))/\rE (frame:Int)/\True/\rE ((wrap i64 (v0.1+1)):Int)/\True)/\rE ((v0.2++oR x1):List Int)/\True) (Sum.inl (wrap i64 (v0.1+1),v0.2++oR x1)))))) (.lf (Sum.inr (bytesOf v0.2,true)))))
def KN m frame:=(Gq m frame).m
abbrev ZY m frame:=(Gq m frame).p
def Ziy:cg:={
 α:=(Int)×(List Int)
 F:=λst a=>([(0,(lk st 0)),(1,(lk st 1)),(6,.all 0),(7,.int i64 a.1)],[⟨false,5,1,.ints u8 a.2⟩])
 a0:=λst=>((lk st 7).toInt,(nU st.rows (rN st 6)))
 jf:=λst=>[]++[(rX st 6 0)]}
def Zao:List (Nat×cg):=[(5,Ziy)]
def Zmw:bc:=mT 149 [] true [.one (.ints .u32),.one (.int .i64)] [] (λa r=>Gq (dh .u32 a 0) (ar a 1)) (λX=>.dv [.str (X.1),.bool (X.2)]) (λX=>[])
theorem Z16:bm pG Zmw:=oT (.cons RN (.cons Zmp (.nil))) Tryz.func149 Tryz.call149 [] Zao 3
def Qua(d0:fw)(gg:Int):Tree (ik×Bool):=
.br (d0.C8 !=1) (.lf ({C3:=0,At:=0,C9:=0,F1:=[]},false)) (.br (d0.F6==1) (.lf ({C3:=3,At:=gg,C9:=d0.C5,F1:=[]},true)) (.br (d0.F6==2) (.lf ({C3:=4,At:=gg,C9:=d0.C5,F1:=d0.C7},true)) (.lf ({C3:=0,At:=0,C9:=0,F1:=[]},false))))
def Xo d0 gg:=(Qua d0 gg).m
def Z9j:bc:=mS 227 [] true [.agg fw.sig,.one (.int .u64)] [] (λa r=>Qua (fw.of (aC a 0)) (ar a 1)) (λX=>.dv [.agg (ik.cells (X.1)),.bool (X.2)]) (λX=>[])
theorem Z5z:bm pG Z9j:=oS (.nil) Tryz.func227 Tryz.call227 [] [] 2
def K8(d0:fw)(m:List Int)(port v gg:Int):Tree (fw×(List ik)):=
.br (port==4) (.lf ({ae:=d0.ae,C9:=v,Frame:=d0.Frame,C8:=d0.C8,F6:=d0.F6,C5:=d0.C5,C6:=d0.C6,C7:=d0.C7},[])) (.br (port==5) (.lf ({ae:=d0.ae,C9:=d0.C9,Frame:=v,C8:=d0.C8,F6:=d0.F6,C5:=d0.C5,C6:=d0.C6,C7:=d0.C7},[])) (.br (port !=6) (.lf (d0,[])) (let T1:Tree ((fw×(List ik))):=.br (d0.C8==0) (let T2:Tree ((fw×(List ik))):=.lf ({ae:=d0.ae,C9:=d0.C9,Frame:=d0.Frame,C8:=3,F6:=d0.F6,C5:=d0.C5,C6:=d0.C6,C7:=d0.C7},[]);.br (decide (d0.C9>=d0.ae)) T2 (.lv (tn m d0.Frame) λ(x0:Bool)=>.br (!x0) T2 (.br (v==2) (.an (ZY m (wrap i64 d0.Frame)) (.lv (KN m (wrap i64 d0.Frame)) λ(x1:List UInt8×Bool)=>.lv (Xo {ae:=d0.ae,C9:=d0.C9,Frame:=d0.Frame,C8:=1,F6:=wrap i64 v,C5:=d0.C9,C6:=d0.Frame,C7:=x1.1} gg) λ(x2:ik×Bool)=>.lf ({ae:=d0.ae,C9:=d0.C9,Frame:=d0.Frame,C8:=1,F6:=wrap i64 v,C5:=d0.C9,C6:=d0.Frame,C7:=x1.1},[x2.1]))) (.lv (Xo {ae:=d0.ae,C9:=d0.C9,Frame:=d0.Frame,C8:=1,F6:=wrap i64 v,C5:=d0.C9,C6:=d0.Frame,C7:=[]} gg) λ(x3:ik×Bool)=>.lf ({ae:=d0.ae,C9:=d0.C9,Frame:=d0.Frame,C8:=1,F6:=wrap i64 v,C5:=d0.C9,C6:=d0.Frame,C7:=[]},[x3.1]))))) (.lf (d0,[]));.br (v==0) (let T3:Tree ((fw×(List ik))):=.lf ({ae:=d0.ae,C9:=d0.C9,Frame:=d0.Frame,C8:=0,F6:=d0.F6,C5:=d0.C5,C6:=d0.C6,C7:=d0.C7},[]);.br (d0.C8==2) T3 (.br (d0.C8==3) T3 (.br (v==1) T1 (.br (v==2) T1 (.lf (d0,[])))))) (.br (v==1) T1 (.br (v==2) T1 (.lf (d0,[])))))))
def Xm d0 m port v gg:=(K8 d0 m port v gg).m
abbrev Qpy d0 m port v gg:=(K8 d0 m port v gg).p
def Z91:bc:=mT 172 [] true [.agg fw.sig,.one (.ints .u32),.one (.int .i64),.one (.int .u32),.one (.int .u64)] [] (λa r=>K8 (fw.of (aC a 0)) (dh .u32 a 1) (ar a 2) (ar a 3) (ar a 4)) (λX=>.dv [.agg (fw.cells (X.1)),.sl 4 (.ah .bu (X.2)) true]) (λX=>[])
theorem Z6z:bm pG Z91:=oT (.cons RC (.cons Z16 (.cons Z5z (.nil)))) Tryz.func172 Tryz.call172 [.sl (.ah .bu) true] [] 2
def K9(n:gw)(m:List Int)(port v gg:Int):Tree (gw×(List ik)):=
.br (port==7) (.lf ({Frame:=v,F7:=n.F7,D1:=n.D1,D4:=n.D4,C4:=n.C4,F9:=n.F9},[])) (.br (port==8) (.lf ({Frame:=n.Frame,F7:=v,D1:=n.D1,D4:=n.D4,C4:=n.C4,F9:=n.F9},[])) (.br (port !=9) (.lf (n,[])) (.br (v==0) (.lf ({Frame:=n.Frame,F7:=n.F7,D1:=n.D1,D4:=n.D4,C4:=false,F9:=0},[])) (let T1:Tree ((gw×(List ik))):=.br (v==2) (.lv (tn m n.Frame) λ(x2:Bool)=>.br x2 (.br (!n.D1) (.br (!n.C4) (.lf ({Frame:=n.Frame,F7:=n.F7,D1:=true,D4:=n.Frame,C4:=n.C4,F9:=n.F9},[])) (.lf (n,[]))) (.lf (n,[]))) (.lf (n,[]))) (.lf (n,[]));.br (v==1) (.br (decide (n.F7>=1)) (.br (decide (n.F7<=128)) (.lv (tn m n.Frame) λ(x0:Bool)=>.br x0 (.an (ZY m (wrap i64 n.Frame)) (.lv (KN m (wrap i64 n.Frame)) λ(x1:List UInt8×Bool)=>.cn (decide ((0:Int)<=(0:Int)/\0<=n.F7/\n.F7<=(x1.1.length:Int))) (.lf (n,[{C3:=2,At:=gg,C9:=0,F1:=cU (dA n.F7-dA 0) (cV (dA 0) x1.1)}])))) T1) T1) T1) T1))))
def Xq n m port v gg:=(K9 n m port v gg).m
abbrev Qrh n m port v gg:=(K9 n m port v gg).p
def Zfm:bc:=mT 173 [] true [.agg gw.sig,.one (.ints .u32),.one (.int .i64),.one (.int .u32),.one (.int .u64)] [] (λa r=>K9 (gw.of (aC a 0)) (dh .u32 a 1) (ar a 2) (ar a 3) (ar a 4)) (λX=>.dv [.agg (gw.cells (X.1)),.sl 4 (.ah .bu (X.2)) true]) (λX=>[])
theorem Z8r:bm pG Zfm:=oT (.cons RC (.cons Z16 (.nil))) Tryz.func173 Tryz.call173 [.sl (.ah .bu) true] [] 2
def Xv(b:gl)(m:List Int)(port v:Int)(z:(Int)×(List Int)):Nat:=(32-z.1).toNat
def AL(b:gl)(m:List Int)(port v:Int):Tree (gl×(List Int)):=
let T1:Tree ((gl×(List Int))):=.br (port==11) (.br (decide (v<32)) (.cn (decide (0<=v)) (.lf ({A2:=b.A2,D0:=oD u32 b.D0 (ep u32 1 v)},m))) (.lf (b,m))) (.lf (b,m));.br (port==10) (.lv (tn m v) λ(x0:Bool)=>.br x0 (.cn (decide (0<=v)) (.br (ba u32 (bb u32 b.D0 v) (1:Int)==(0:Int)) (.cn (decide (0<=v)) (.lp inferInstance (Xv b m port v (0,m)+1) ((True/\rE (v:Int)/\rZ/\rZ/\rE (0:Int)/\True)/\rE (m:List Int)/\(rE b.A2/\rE ((iH u32 b.D0 (ep u32 1 v)):Int)/\True)/\(rE (0:Int)/\rE (0:Int)/\True)/\True) (0,m) λ(v0:Int×List Int)=>.br (decide (v0.1<32)) (let E2:=wrap i64 (wrap i64 v*32)+v0.1;.cn (bX 1 1&&bN 0 1&&decide (0<=wrap i64 E2/\wrap i64 E2<(v0.2.length:Int))) (.nx ((True/\rE (v:Int)/\rZ/\rZ/\rE ((wrap i64 (v0.1+1)):Int)/\True)/\rE ((dB v0.2 (dA (wrap i64 (wrap i64 (wrap i64 v*32)+v0.1))) 0):List Int)/\(rE b.A2/\rE ((iH u32 b.D0 (ep u32 1 v)):Int)/\True)/\(rE (0:Int)/\rE (0:Int)/\True)/\True) (Sum.inl (wrap i64 (v0.1+1),dB v0.2 (dA (wrap i64 E2)) 0)))) (.lf (Sum.inr ({A2:=b.A2,D0:=iH u32 b.D0 (ep u32 1 v)},v0.2))))) T1)) T1) T1
def AM b m port v:=(AL b m port v).m
abbrev Qyf b m port v:=(AL b m port v).p
def Zk6:cg:={
 α:=(Int)×(List Int)
 F:=λst a=>([(1,.all 0),(3,(lk st 3)),(4,.ptr 1 0 0),(8,.ptr 2 0 0),(9,.int i64 a.1)],[⟨false,25,1,.ints u32 a.2⟩,⟨true,40,2,.gen [[(cT st 4 0),(cT st 4 1)]]⟩,⟨true,40,2,.gen [[(cT st 8 0),(cT st 8 1)]]⟩])
 a0:=λst=>((lk st 9).toInt,(nU st.rows 0))
 jf:=λst=>[0]++[(rX st 4 1),(rX st 8 2)]}
def Z9w:List (Nat×cg):=[(4,Zk6)]
def Zm5:bc:=mT 174 [false,true,false,false] true [.agg gl.sig,.one (.row 0),.one (.int .i64),.one (.int .u32)] [.arr 25 1 (.ints .u32)] (λa r=>AL (gl.of (aC a 0)) (cw .u32 r 0) (ar a 2) (ar a 3)) (λX=>.agg (gl.cells (X.1))) (λX=>[⟨false,25,1,.ints .u32 (X.2)⟩])
theorem Zkn:bm pG Zm5:=oT (.cons RC (.nil)) Tryz.func174 Tryz.call174 [] Z9w 3
def J8(m:bd)(port v:Int):Tree ((List ik)×bd):=
.br (port==0) (.lf ([{C3:=1,At:=m.B7,C9:=0,F1:=[(λ(n:Int)=>UInt8.ofNat n.toNat) (wrap u8 v)]}],m)) (.br (decide (port<=2)) (.lf ([],m)) (.br (port==3) (.lv (Xj v) λ(x0:iT)=>.lf ([],{B4:=m.B4,Mem:=m.Mem,B2:=m.B2,B8:=x0,B5:=m.B5,D2:=m.D2,A6:=m.A6,B7:=m.B7,B3:=m.B3,B6:=m.B6})) (.br (decide (port<=6)) (.an (Qpy m.B5 m.Mem port v m.B7) (.lv (Xm m.B5 m.Mem port v m.B7) λ(x1:fw×List ik)=>.lf (x1.2,{B4:=m.B4,Mem:=m.Mem,B2:=m.B2,B8:=m.B8,B5:=x1.1,D2:=m.D2,A6:=m.A6,B7:=m.B7,B3:=m.B3,B6:=m.B6}))) (.br (decide (port<=9)) (.an (Qrh m.D2 m.Mem port v m.B7) (.lv (Xq m.D2 m.Mem port v m.B7) λ(x2:gw×List ik)=>.lf (x2.2,{B4:=m.B4,Mem:=m.Mem,B2:=m.B2,B8:=m.B8,B5:=m.B5,D2:=x2.1,A6:=m.A6,B7:=m.B7,B3:=m.B3,B6:=m.B6}))) (.an (Qyf m.A6 m.Mem port v) (.lv (AM m.A6 m.Mem port v) λ(x3:gl×List Int)=>.lf ([],{B4:=m.B4,Mem:=x3.2,B2:=m.B2,B8:=m.B8,B5:=m.B5,D2:=m.D2,A6:=x3.1,B7:=m.B7,B3:=m.B3,B6:=m.B6})))))))
def Ev m port v:=(J8 m port v).m
abbrev Z1t m port v:=(J8 m port v).p
def Zs9:bc:=mT 122 [true,false,false] true [.ptr 0,.one (.int .i64),.one (.int .u32)] [.box 43 49 (bd.ic (.row 1)),.arr 25 1 (.ints .u32)] (λa r=>J8 (bd.iz (r.getD 0 default).cs (cw .u32 r 1)) (ar a 1) (ar a 2)) (λX=>.sl 4 (.ah .bu (X.1)) true) (λX=>[⟨true,43,49,.gen [(bd.cj (X.2) (.all 1))]⟩,⟨false,25,1,.ints .u32 (X.2).Mem⟩])
theorem Zmb:bm pG Zs9:=oT (.cons Zn4 (.cons Z6z (.cons Z8r (.cons Zkn (.nil))))) Tryz.func122 Tryz.call122 [.sl (.ah .bu) true,.row 25 1 (.ints .u32)] [] 2
def MZ(m:bd)(clock:Int):Tree ((List ik)×bd):=
.an (Qbb m) (.lv (pW m) λ(x0:bq)=>.an (Z7d x0 m.Mem) (.lv (AK x0 m.Mem) λ(x1:bq×lj×List Int)=>let E1:=({B4:=x1.1,Mem:=x1.2.2,B2:=m.B2,B8:=m.B8,B5:=m.B5,D2:=m.D2,A6:=m.A6,B7:=m.B7,B3:=false,B6:=m.B6}:bd);.br (x1.2.1.C3==1) (.lv (Dz E1 x1.2.1.D8 clock) λ(x2:Int×bd)=>.an (Db x2.2.B4 x1.2.1.F8 x2.1) (.lv (lu x2.2.B4 x1.2.1.F8 x2.1) λ(x3:bq)=>.lf ([],{B4:=x3,Mem:=x2.2.Mem,B2:=x2.2.B2,B8:=x2.2.B8,B5:=x2.2.B5,D2:=x2.2.D2,A6:=x2.2.A6,B7:=wrap u64 (x2.2.B7+1),B3:=x2.2.B3,B6:=x2.2.B6}))) (.br (x1.2.1.C3==2) (.an (Z1t E1 x1.2.1.D8 x1.2.1.Value) (.lv (Ev E1 x1.2.1.D8 x1.2.1.Value) λ(x4:List ik×bd)=>.lf (x4.1,{B4:=x4.2.B4,Mem:=x4.2.Mem,B2:=x4.2.B2,B8:=x4.2.B8,B5:=x4.2.B5,D2:=x4.2.D2,A6:=x4.2.A6,B7:=wrap u64 (x4.2.B7+1),B3:=x4.2.B3,B6:=x4.2.B6}))) (.br (x1.2.1.C3==3) (.lf ([],{B4:=x1.1,Mem:=x1.2.2,B2:=m.B2,B8:=m.B8,B5:=m.B5,D2:=m.D2,A6:=m.A6,B7:=wrap u64 (m.B7+1),B3:=true,B6:=m.B6})) (.br (x1.2.1.C3==4) (.lf ([],{B4:=x1.1,Mem:=x1.2.2,B2:=m.B2,B8:=m.B8,B5:=m.B5,D2:=m.D2,A6:=m.A6,B7:=wrap u64 (m.B7+1),B3:=false,B6:=true})) (.lf ([],{B4:=x1.1,Mem:=x1.2.2,B2:=m.B2,B8:=m.B8,B5:=m.B5,D2:=m.D2,A6:=m.A6,B7:=wrap u64 (m.B7+1),B3:=false,B6:=m.B6})))))))
def Aa m clock:=(MZ m clock).m
abbrev Qhk m clock:=(MZ m clock).p
def Z8t:bc:=mT 76 [true,false] true [.ptr 0,.one (.int .u32)] [.box 43 49 (bd.ic (.row 1)),.arr 25 1 (.ints .u32)] (λa r=>MZ (bd.iz (r.getD 0 default).cs (cw .u32 r 1)) (ar a 1)) (λX=>.sl 4 (.ah .bu (X.1)) true) (λX=>[⟨true,43,49,.gen [(bd.cj (X.2) (.all 1))]⟩,⟨false,25,1,.ints .u32 (X.2).Mem⟩])
theorem Qsb:bm pG Z8t:=oT (.cons Qk2 (.cons Zsm (.cons Zsz (.cons RQ (.cons Zmb (.nil)))))) Tryz.func76 Tryz.call76 [.sl (.ah .bu) true,.row 25 1 (.ints .u32)] [] 2

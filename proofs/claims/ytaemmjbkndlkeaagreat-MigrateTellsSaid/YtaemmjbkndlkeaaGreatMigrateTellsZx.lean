import Derived.Test.YtaemmjbkndlkeaaGreatMigrateTellsYz
open Nat renaming blt->bN,beq->bX,lt_succ_self->cN
open List renaming length->dF,replicate->cO,take->cU,drop->cV,set->dB,getD->aV
open Int renaming toNat->dA,tdiv->eN,tmod->cZ
set_option maxRecDepth 100000
set_option linter.all false
namespace Go.Proofs.YtaemmjbkndlkeaaGreat
open Go Go.GD Go.IntKind
noncomputable section
def HS(m:List Int):Tree (List Int):=
.cn (bN (0:Nat) (1:Nat)&&bX (1:Nat) (1:Nat)&&List.all [D.int u32 (0:Int)] D.plain&&decide ((0:Int)<=(m.length:Int)/\(m.length:Int)<=(m.length:Int)/\(m.length:Int)<=(9223372036854775807:Int)/\(↑(4:Nat):Int)*(m.length:Int)<=(140737488355328:Int))) (let E1:=dF (cO (dA (m.length:Int)) (0:Int));.lf (cU (Min.min (m.length) E1) m++cV (Min.min (m.length) E1) (cO (dA (m.length:Int)) (0:Int))))
def P3 m:=(HS m).m
abbrev Ql7 m:=(HS m).p
def Zt8:bd:=mT 116 [] true [.one (.ints .u32)] [] (λa r=>HS (c9 .u32 a 0)) (λX=>.all 0) (λX=>[⟨false,25,1,.ints .u32 X⟩])
theorem Z6o:bu pG Zt8:=oT (.nil) Tryz.func116 Tryz.call116 [.row 25 1 (.ints .u32)] [] 2
def LR(m:bj):Tree bj:=
.an (Ql7 m.Mem) (.lv (P3 m.Mem) λ(x0:List Int)=>.lf ({B2:=m.B2,Mem:=x0,B3:=m.B3,C1:=m.C1,B6:=m.B6,D4:=m.D4,B0:=m.B0,B9:=m.B9,B4:=m.B4,B8:=m.B8}))
def VO m:=(LR m).m
abbrev Quy m:=(LR m).p
def Zyo:bd:=mT 74 [] true [.agg bj.sig] [] (λa r=>LR (bj.of (aC a 0))) (λX=>.agg (bj.cg X (.all 0))) (λX=>[⟨false,25,1,.ints .u32 X.Mem⟩])
theorem Zc9:bu pG Zyo:=oT (.cons Z6o (.nil)) Tryz.func74 Tryz.call74 [.row 25 1 (.ints .u32)] [] 2
def Qyo(n k:Int)(z:(Int)×(List Int)):Prop:=0<=z.1/\(z.2.length:Int)=z.1/\(z.1<=k\/z.1=0)
def Wf(n k:Int)(z:(Int)×(List Int)):Nat:=(k-z.1).toNat
def Ni(n k:Int):Tree (List UInt8):=
.lp inferInstance (Wf n k (0,[])+1) ((rE (n:Int)/\rE (k:Int)/\True/\rE (0:Int)/\True)/\rE ([]:List Int)/\True) (0,[]) λ(v0:Int×List Int)=>.br (decide (v0.1<k)) (.lv (Wg n (wrap i64 (eN v0.1 9))) λ(x0:Int)=>.cn (decide (1*(v0.2.length+1)<=140737488355328)) (.nx ((rE (n:Int)/\rE (k:Int)/\True/\rE ((wrap i64 (v0.1+1)):Int)/\True)/\rE ((v0.2++[wrap u8 x0]):List Int)/\True) (Sum.inl (wrap i64 (v0.1+1),v0.2++[wrap u8 x0])))) (.lf (Sum.inr (bytesOf v0.2)))
def Zba n k:=(Ni n k).m
def Rn(n k:Int):Prop:=
k<=1000000000000
theorem Zm3(n k:Int)(hw:Rn n k):(Ni n k).p:=by
 simp only[Rn]at hw
 unfold Tree.p Ni
 repeat'(first|refine ed (inv:=Qyo n k) (μ:=Wf n k) ?_ (cN _) (λ_ _=>?_)|exact trivial|refine aa (λ_=>?_) (λ_=>?_)|refine ar ?_ ?_|refine bz ?_ ?_|refine ai (λ_ _=>?_)|refine dj ?_|refine aw ?_|refine And.intro ?_ ?_)
 all_goals((try simp only[Qyo,Wf]at*);exact mC)
def Zpo:bw:={
 α:=(Int)×(List Int)
 F:=λst a=>([(0,(lk st 0)),(1,(lk st 1)),(5,.all 0),(6,.int i64 a.1)],[⟨false,5,1,.ints u8 a.2⟩])
 a0:=λst=>((lk st 6).toInt,(nS st.rows (rN st 5)))
 iU:=λst=>[]++[(rX st 5 0)]}
def Zeb:List (Nat×bw):=[(3,Zpo)]
def Zrq:bd:=lj 81 [] true [.one (.int .i64),.one (.int .i64)] [] (λa r=>Rn (au a 0) (au a 1)) (λa r=>Zba (au a 0) (au a 1)) (λX=>.str X) (λX=>[])
theorem Zq4:bu pG Zrq:=sF drawn jL (.cons Qzf (.nil)) Tryz.func81 Tryz.call81 (λa r=>Ni (au a 0) (au a 1)) [] Zeb 3 (hp:=λa r h=>Zm3 (au a 0) (au a 1) h)
def Qv3(m:List Int):Tree Int:=
.br (cZ (m.length:Int) (32:Int) !=(0:Int)) (.lf 0) (.br (decide ((m.length:Int)>(1024:Int))) (.lf 0) (.lf (wrap i64 (eN (m.length:Int) 32))))
def oW m:=(Qv3 m).m
def Znm:bd:=mS 36 [] true [.one (.ints .u32)] [] (λa r=>Qv3 (c9 .u32 a 0)) (λX=>.int .i64 X) (λX=>[])
theorem G3:bu pG Znm:=oS (.nil) Tryz.func36 Tryz.call36 [] [] 2
def Qqz(c:jn):Tree Bool:=
.lf (decide ((c.D9.length:Int)<=(16:Int)))
def Qm6 c:=(Qqz c).m
def Z35:bd:=mS 82 [] true [.agg jn.sig] [] (λa r=>Qqz (jn.of (aC a 0))) (λX=>.bool X) (λX=>[])
theorem Z1w:bu pG Z35:=oS (.nil) Tryz.func82 Tryz.call82 [] [] 2
def Qm3(t:jx):Tree Bool:=
.br t.E0 (.br t.D8 (.lf false) (.br t.E0 (.lf (t.D0 !=0)) (.br t.D8 (.lf true) (.lf (t.D0==0))))) (.br t.E0 (.lf (t.D0 !=0)) (.br t.D8 (.lf true) (.lf (t.D0==0))))
def VC t:=(Qm3 t).m
def Z9t:bd:=mS 83 [] true [.agg jx.sig] [] (λa r=>Qm3 (jx.of (aC a 0))) (λX=>.bool X) (λX=>[])
theorem Z8c:bu pG Z9t:=oS (.nil) Tryz.func83 Tryz.call83 [] [] 2
def Qph(d0:gk)(bq:Int):Tree Bool:=
.br (decide (d0.ab>64)) (.lf false) (.br (decide (d0.C9<0)) (.lf false) (.br (decide (d0.C9>3)) (.lf false) (.br (d0.C9 !=1) (.br (d0.F5==0) (.br (d0.C5==0) (.br (d0.C6==0) (.lf (decide (d0.C7=[]))) (.lf false)) (.lf false)) (.lf false)) (.br (decide (d0.C5>=d0.ab)) (.lf false) (.br (decide (wrap i64 d0.C6>=bq)) (.lf false) (.br (d0.F5==1) (.br (decide (d0.C7=[])) (.lf true) (.br (d0.F5==2) (.lf ((d0.C7.length:Int)==(128:Int))) (.lf false))) (.br (d0.F5==2) (.lf ((d0.C7.length:Int)==(128:Int))) (.lf false))))))))
def VE d0 bq:=(Qph d0 bq).m
def Zg8:bd:=mS 84 [] true [.agg gk.sig,.one (.int .i64)] [] (λa r=>Qph (gk.of (aC a 0)) (au a 1)) (λX=>.bool X) (λX=>[])
theorem Zaj:bu pG Zg8:=oS (.nil) Tryz.func84 Tryz.call84 [] [] 2
def Qs5(n:iq)(bq:Int):Tree Bool:=
let T1:Tree (Bool):=.br n.C3 (.br (decide (n.F8>=1)) (.lf (decide (n.F8<=128))) (.lf false)) (.lf (n.F8==0));.br n.D2 (.br n.C3 (.lf false) (.br (decide (wrap i64 n.D5>=bq)) (.lf false) (.br (!n.D2) (.br (n.D5 !=0) (.lf false) T1) T1))) (.br (!n.D2) (.br (n.D5 !=0) (.lf false) T1) T1)
def VD n bq:=(Qs5 n bq).m
def Zk0:bd:=mS 85 [] true [.agg iq.sig,.one (.int .i64)] [] (λa r=>Qs5 (iq.of (aC a 0)) (au a 1)) (λX=>.bool X) (λX=>[])
theorem Zfl:bu pG Zk0:=oS (.nil) Tryz.func85 Tryz.call85 [] [] 2
def Qkb(b:ie)(bq:Int)(z:(Int)):Prop:=0<=z/\z<=32
def VI(b:ie)(bq:Int)(z:(Int)):Nat:=(32-z).toNat
def MV(b:ie)(bq:Int):Tree Bool:=
.lp inferInstance (VI b bq 0+1) ((rE (bq:Int)/\rZ/\rE (0:Int)/\True)/\(rE b.A2/\rE b.D1/\True)/\True) 0 λ(v0:Int)=>.br (decide (v0<32)) (.cn (decide (0<=wrap u64 v0)) (let T1:Tree ((Int)⊕(Bool)):=.nx ((rE (bq:Int)/\rZ/\rE ((wrap i64 (v0+1)):Int)/\True)/\(rE b.A2/\rE b.D1/\True)/\True) (Sum.inl (wrap i64 (v0+1)));.br (bm u32 (bn u32 b.D1 (wrap u64 v0)) (1:Int)==(1:Int)) (.br (decide (v0>=bq)) (.lf (Sum.inr false)) T1) T1)) (.lf (Sum.inr true))
def VJ b bq:=(MV b bq).m
theorem Z0(b:ie)(bq:Int):(MV b bq).p:=by
 unfold Tree.p MV
 repeat'(first|refine ed (inv:=Qkb b bq) (μ:=VI b bq) ?_ (cN _) (λ_ _=>?_)|exact trivial|refine aa (λ_=>?_) (λ_=>?_)|refine ar ?_ ?_|refine bz ?_ ?_|refine ai (λ_ _=>?_)|refine dj ?_|refine aw ?_|refine And.intro ?_ ?_)
 all_goals((try simp only[Qkb,VI]at*);exact mC)
def Z0g:bw:={
 α:=(Int)
 F:=λst a=>([(1,(lk st 1)),(2,.ptr 0 0 0),(5,.int i64 a)],[⟨true,40,2,.gen [[(cT st 2 0),(cT st 2 1)]]⟩])
 a0:=λst=>(lk st 5).toInt
 iU:=λst=>[]++[(rX st 2 0)]}
def Qxm:List (Nat×bw):=[(2,Z0g)]
def Z56:bd:=mS 86 [] true [.agg ie.sig,.one (.int .i64)] [] (λa r=>MV (ie.of (aC a 0)) (au a 1)) (λX=>.bool X) (λX=>[])
theorem Z1b:bu pG Z56:=oS (.nil) Tryz.func86 Tryz.call86 [] Qxm 3 (λ_ _ _=>by kernel_rfl) (λa r=>Z0 (ie.of (aC a 0)) (au a 1)) (λ_ X=>by kernel_rfl)
def Z33(m:bj):Tree Bool:=
.lv (oW m.Mem) λ(x0:Int)=>.br (decide (x0<1)) (.lf false) (.br (m.B2.X.a0 !=0) (.lf false) (.br (decide (m.B2.C4.a0>31)) (.lf false) (.br (decide (m.B2.C4.a7>31)) (.lf false) (.br (decide (m.B2.C4.a6>255)) (.lf false) (.br (cZ m.B2.C4.a1 (4:Int) !=(0:Int)) (.lf false) (.lv (Qm6 m.B3) λ(x1:Bool)=>.br (!x1) (.lf false) (.lv (VC m.C1) λ(x2:Bool)=>.br (!x2) (.lf false) (.lv (VE m.B6 x0) λ(x3:Bool)=>.br (!x3) (.lf false) (.lv (VD m.D4 x0) λ(x4:Bool)=>.br (!x4) (.lf false) (.lv (VJ m.B0 x0) λ(x5:Bool)=>.br (!x5) (.lf false) (.br (decide (m.B9<=1152921504606846976)) (.br m.B4 (.lf (!m.B8)) (.lf true)) (.lf false))))))))))))
def Ag m:=(Z33 m).m
def Zy1:bd:=mS 34 [] true [.agg bj.sig] [] (λa r=>Z33 (bj.of (aC a 0))) (λX=>.bool X) (λX=>[])
theorem Qze:bu pG Zy1:=oS (.cons G3 (.cons Z1w (.cons Z8c (.cons Zaj (.cons Zfl (.cons Z1b (.nil))))))) Tryz.func34 Tryz.call34 [] [] 2
def Tx(is:Bool)(n:Int):Tree Int:=
.br is (.cn (decide (0<=wrap u64 n)) (.lf (ei u32 1 (wrap u64 n)))) (.lf 0)
def ET is n:=(Tx is n).m
abbrev Um is n:=(Tx is n).p
def Ztg:bd:=mT 255 [] true [.one (.bool),.one (.int .i64)] [] (λa r=>Tx (kZ a 0) (au a 1)) (λX=>.int .u32 X) (λX=>[])
theorem Zo4:bu pG Ztg:=oT (.nil) Tryz.func255 Tryz.call255 [] [] 2
def Qmi(t:jx):Tree Bool:=
.lf t.D8
def Qbr t:=(Qmi t).m
def Qyu:bd:=mS 256 [] true [.agg jx.sig] [] (λa r=>Qmi (jx.of (aC a 0))) (λX=>.bool X) (λX=>[])
theorem Qxy:bu pG Qyu:=oS (.nil) Tryz.func256 Tryz.call256 [] [] 2
def Qiv(c:jn):Tree Bool:=
.lf (decide ((c.D9.length:Int)>(0:Int)))
def VG c:=(Qiv c).m
def Qw2:bd:=mS 257 [] true [.agg jn.sig] [] (λa r=>Qiv (jn.of (aC a 0))) (λX=>.bool X) (λX=>[])
theorem Qtp:bu pG Qw2:=oS (.nil) Tryz.func257 Tryz.call257 [] [] 2
def Qod(d0:gk):Tree Bool:=
.br (d0.C9==2) (.lf true) (.lf (d0.C9==3))
def Qdr d0:=(Qod d0).m
def Z1o:bd:=mS 258 [] true [.agg gk.sig] [] (λa r=>Qod (gk.of (aC a 0))) (λX=>.bool X) (λX=>[])
theorem Qzt:bu pG Z1o:=oS (.nil) Tryz.func258 Tryz.call258 [] [] 2
def Qqg(n:iq):Tree Bool:=
.lf n.C3
def Qfa n:=(Qqg n).m
def Z4b:bd:=mS 259 [] true [.agg iq.sig] [] (λa r=>Qqg (iq.of (aC a 0))) (λX=>.bool X) (λX=>[])
theorem Z1k:bu pG Z4b:=oS (.nil) Tryz.func259 Tryz.call259 [] [] 2
def Quk(b:ie)(z:(Int)×(Int)):Prop:=0<=z.2/\z.2<=32
def Qk(b:ie)(z:(Int)×(Int)):Nat:=(32-z.2).toNat
def X6(b:ie):Tree Int:=
.lp inferInstance (Qk b (0,0)+1) ((rZ/\rE (0:Int)/\rE (0:Int)/\True)/\(rE b.A2/\rE b.D1/\True)/\True) (0,0) λ(v0:Int×Int)=>.br (decide (v0.2<32)) (.cn (decide (0<=wrap u64 v0.2)) (.nx ((rZ/\rE ((wrap i64 (v0.1+wrap i64 (bm u32 (bn u32 b.D1 (wrap u64 v0.2)) 1))):Int)/\rE ((wrap i64 (v0.2+1)):Int)/\True)/\(rE b.A2/\rE b.D1/\True)/\True) (Sum.inl (wrap i64 (v0.1+wrap i64 (bm u32 (bn u32 b.D1 (wrap u64 v0.2)) 1)),wrap i64 (v0.2+1))))) (.lf (Sum.inr v0.1))
def MP b:=(X6 b).m
theorem Zef(b:ie):(X6 b).p:=by
 unfold Tree.p X6
 repeat'(first|refine ed (inv:=Quk b) (μ:=Qk b) ?_ (cN _) (λ_ _=>?_)|exact trivial|refine aa (λ_=>?_) (λ_=>?_)|refine ar ?_ ?_|refine bz ?_ ?_|refine ai (λ_ _=>?_)|refine dj ?_|refine aw ?_|refine And.intro ?_ ?_)
 all_goals((try simp only[Quk,Qk]at*);exact mC)
def Zja:bw:={
 α:=(Int)×(Int)
 F:=λst a=>([(1,.ptr 0 0 0),(3,.int i64 a.1),(4,.int i64 a.2)],[⟨true,40,2,.gen [[(cT st 1 0),(cT st 1 1)]]⟩])
 a0:=λst=>((lk st 3).toInt,(lk st 4).toInt)
 iU:=λst=>[]++[(rX st 1 0)]}
def Zbn:List (Nat×bw):=[(3,Zja)]
def Zr1:bd:=mS 225 [] true [.agg ie.sig] [] (λa r=>X6 (ie.of (aC a 0))) (λX=>.int .i64 X) (λX=>[])
theorem Z2a:bu pG Zr1:=oS (.nil) Tryz.func225 Tryz.call225 [] Zbn 3 (λ_ _ _=>by kernel_rfl) (λa r=>Zef (ie.of (aC a 0))) (λ_ X=>by kernel_rfl)
def Qbe(b:ie):Tree Bool:=
.lv (MP b) λ(x0:Int)=>.lf (wrap u64 x0 !=wrap u64 b.A2)
def PZ b:=(Qbe b).m
def Quu:bd:=mS 260 [] true [.agg ie.sig] [] (λa r=>Qbe (ie.of (aC a 0))) (λX=>.bool X) (λX=>[])
theorem Qu7:bu pG Quu:=oS (.cons Z2a (.nil)) Tryz.func260 Tryz.call260 [] [] 2
def Ty(m:bj):Tree Int:=
.lv (Qbr m.C1) λ(x0:Bool)=>.an (Um x0 0) (.lv (ET x0 0) λ(x1:Int)=>.lv (VG m.B3) λ(x2:Bool)=>.an (Um x2 1) (.lv (ET x2 1) λ(x3:Int)=>.lv (Qdr m.B6) λ(x4:Bool)=>.an (Um x4 2) (.lv (ET x4 2) λ(x5:Int)=>.lv (Qfa m.D4) λ(x6:Bool)=>.an (Um x6 3) (.lv (ET x6 3) λ(x7:Int)=>.lv (PZ m.B0) λ(x8:Bool)=>.an (Um x8 4) (.lv (ET x8 4) λ(x9:Int)=>.lf (ja u32 (ja u32 (ja u32 (ja u32 x1 x3) x5) x7) x9))))))
def P1 m:=(Ty m).m
abbrev Qy3 m:=(Ty m).p
def Zp4:bd:=mT 210 [] true [.agg bj.sig] [] (λa r=>Ty (bj.of (aC a 0))) (λX=>.int .u32 X) (λX=>[])
theorem Zlu:bu pG Zp4:=oT (.cons Zo4 (.cons Qxy (.cons Qtp (.cons Qzt (.cons Z1k (.cons Qu7 (.nil))))))) Tryz.func210 Tryz.call210 [] [] 2
def M0(m:bj):Tree Int:=
.an (Qy3 m) (.lv (P1 m) λ(x0:Int)=>.lf (bm u32 x0 m.B2.C4.a7))
def BV m:=(M0 m).m
abbrev Qjn m:=(M0 m).p
def Zfy:bd:=mT 156 [] true [.agg bj.sig] [] (λa r=>M0 (bj.of (aC a 0))) (λX=>.int .u32 X) (λX=>[])
theorem Qur:bu pG Zfy:=oT (.cons Zlu (.nil)) Tryz.func156 Tryz.call156 [] [] 2
def M3(m:bj):Tree Bool:=
.br m.B4 (.an (Qjn m) (.lv (BV m) λ(x0:Int)=>.lf (x0==0))) (.lf false)
def J5 m:=(M3 m).m
abbrev Qs0 m:=(M3 m).p
def Zu2:bd:=mT 117 [] true [.agg bj.sig] [] (λa r=>M3 (bj.of (aC a 0))) (λX=>.bool X) (λX=>[])
theorem Z6i:bu pG Zu2:=oT (.cons Qur (.nil)) Tryz.func117 Tryz.call117 [] [] 2
def J6(m:bj):Tree Bool:=
.lv (Ag m) λ(x0:Bool)=>.br (!x0) (.lf true) (.br m.B8 (.lf true) (.an (Qs0 m) (.lv (J5 m) λ(x1:Bool)=>.br x1 (.lf true) (.lf (decide (m.B9>=1152921504606846976))))))
def HP m:=(J6 m).m
abbrev Qyk m:=(J6 m).p
def Zre:bd:=mT 75 [] true [.agg bj.sig] [] (λa r=>J6 (bj.of (aC a 0))) (λX=>.bool X) (λX=>[])
theorem Zmj:bu pG Zre:=oT (.cons Qze (.cons Z6i (.nil))) Tryz.func75 Tryz.call75 [] [] 2
end
noncomputable section
def JW(m:List Int)(addr size v:Int):Tree (List Int):=
let E1:=bX 1 1&&bN 0 1&&decide (0<=wrap u32 (eN addr 4)/\wrap u32 (eN addr 4)<(m.length:Int));let E2:=dA (wrap u32 (eN addr 4));.br (size==4) (.cn E1 (.lf (dB m E2 v))) (.cn E1 (let E3:=decide (0<=wrap u32 (8*cZ addr 4));.cn E3 (.cn E3 (.cn E1 (.lf (dB m E2 (ja u32 (oA u32 (m.getD E2 0) (ei u32 255 (wrap u32 (8*cZ addr 4)))) (ei u32 (bm u32 v 255) (wrap u32 (8*cZ addr 4))))))))))
def BR m addr size v:=(JW m addr size v).m
abbrev Vn m addr size v:=(JW m addr size v).p
def Zy4:bd:=mT 221 [true,false,false,false] true [.one (.row 0),.one (.int .u32),.one (.int .i64),.one (.int .u32)] [.arr 25 1 (.ints .u32)] (λa r=>JW (mA .u32 r 0) (au a 1) (au a 2) (au a 3)) (λX=>.dw []) (λX=>[⟨false,25,1,.ints .u32 X⟩])
theorem Ze2:bu pG Zy4:=oT (.nil) Tryz.func221 Tryz.call221 [] [] 2
def Zi7(b:Bool):Tree Int:=
.br b (.lf 1) (.lf 0)
def De b:=(Zi7 b).m
def Zxw:bd:=mS 211 [] true [.one (.bool)] [] (λa r=>Zi7 (kZ a 0)) (λX=>.int .u32 X) (λX=>[])
theorem Qzy:bu pG Zxw:=oS (.nil) Tryz.func211 Tryz.call211 [] [] 2
def PI(c:cq)(pk bad:Int):Tree cq:=
.lv (De (bm u32 c.C4.a0 (1:Int) !=(0:Int))) λ(x0:Int)=>.lv (De (bm u32 c.C4.a0 (2:Int) !=(0:Int))) λ(x1:Int)=>.lf ({X:=c.X,Pc:=c.C4.a1,C4:={a0:=ja u32 (oA u32 (ja u32 (ja u32 (oA u32 c.C4.a0 24) (wrap u32 (8*x0))) (wrap u32 (16*x1))) 2) 1,a1:=c.C4.a1,a2:=c.Pc,a3:=wrap u32 pk,a4:=bad,a5:=c.C4.a5,a6:=c.C4.a6,a7:=c.C4.a7}})
def rH c pk bad:=(PI c pk bad).m
def Zsv:bd:=mS 157 [] true [.agg cq.sig,.one (.int .i64),.one (.int .u32)] [] (λa r=>PI (cq.of (aC a 0)) (au a 1) (au a 2)) (λX=>.agg (cq.cells X)) (λX=>[])
theorem X7:bu pG Zsv:=oS (.cons Qzy (.nil)) Tryz.func157 Tryz.call157 [] [] 2
def JX(m:List Int)(addr size:Int):Tree Bool:=
let T1:Tree (Bool):=.cn (decide (wrap u32 size≠0)) (.br (cZ addr (wrap u32 size)==0) (.lv (oW m) λ(x0:Int)=>.lf (decide (addr<wrap u32 (wrap i64 (128*x0))))) (.lf false));.br (size !=1) (.br (size !=4) (.lf false) T1) T1
def we m addr size:=(JX m addr size).m
abbrev Qgj m addr size:=(JX m addr size).p
def Zm:bd:=mT 214 [] true [.one (.ints .u32),.one (.int .u32),.one (.int .i64)] [] (λa r=>JX (c9 .u32 a 0) (au a 1) (au a 2)) (λX=>.bool X) (λX=>[])
theorem Qp8:bu pG Zm:=oT (.cons G3 (.nil)) Tryz.func214 Tryz.call214 [] [] 2
def EP(m:List Int)(addr size:Int):Tree (Int×Bool):=
.an (Qgj m addr size) (.lv (we m addr size) λ(x0:Bool)=>.br (!x0) (.lf (0,false)) (.cn (bX 1 1&&bN 0 1&&decide (0<=wrap u32 (eN addr 4)/\wrap u32 (eN addr 4)<(m.length:Int))) (.br (size==1) (.cn (decide (0<=wrap u32 (8*cZ addr 4))) (.lf (bm u32 (bn u32 (m.getD (dA (wrap u32 (eN addr 4))) 0) (wrap u32 (8*cZ addr 4))) 255,true))) (.lf (m.getD (dA (wrap u32 (eN addr 4))) 0,true)))))
def pB m addr size:=(EP m addr size).m
abbrev XP m addr size:=(EP m addr size).p
def Zsd:bd:=mT 159 [] true [.one (.ints .u32),.one (.int .u32),.one (.int .i64)] [] (λa r=>EP (c9 .u32 a 0) (au a 1) (au a 2)) (λX=>.dw [.int .u32 (X.1),.bool (X.2)]) (λX=>[])
theorem Qvq:bu pG Zsd:=oT (.cons Qp8 (.nil)) Tryz.func159 Tryz.call159 [] [] 2
def Mz(w:Int):Tree (ig×Bool):=
.lv (pA (wrap i64 (bn u32 w 24))) λ(x0:Int)=>let E5:=({Op:=0,A:=0,B:=0,C:=0,cv:=0}:ig);.br (x0==0) (.lf (E5,false)) (.br (x0==2) (let E3:=({Op:=wrap i64 (bn u32 w 24),A:=wrap i64 (bm u32 (bn u32 w 20) 15),B:=wrap i64 (bm u32 (bn u32 w 16) 15),C:=wrap i64 (bm u32 w 65535),cv:=0}:ig);.lv (FN E3) λ(x1:Bool)=>.br (!x1) (.lf (E5,false)) (.lf (E3,true))) (let T1:Tree ((ig×Bool)):=let E2:=({Op:=wrap i64 (bn u32 w 24),A:=wrap i64 (bm u32 (bn u32 w 20) 15),B:=wrap i64 (bm u32 (bn u32 w 16) 15),C:=0,cv:=wrap i32 (wrap i16 (bm u32 w 65535))}:ig);.lv (FN E2) λ(x2:Bool)=>.br (!x2) (.lf (E5,false)) (.lf (E2,true));.br (x0==3) T1 (.br (x0==7) T1 (let E4:=({Op:=wrap i64 (bn u32 w 24),A:=wrap i64 (bm u32 (bn u32 w 20) 15),B:=wrap i64 (bm u32 (bn u32 w 16) 15),C:=0,cv:=wrap i32 (bm u32 w 65535)}:ig);.lv (FN E4) λ(x4:Bool)=>.br (!x4) (.lf (E5,false)) (.lf (E4,true))))))
def BQ w:=(Mz w).m
def Zm8:bd:=mS 160 [] true [.one (.int .u32)] [] (λa r=>Mz (au a 0)) (λX=>.dw [.agg (ig.cells (X.1)),.bool (X.2)]) (λX=>[])
theorem Qyt:bu pG Zm8:=oS (.cons TW (.cons Z0y (.nil))) Tryz.func160 Tryz.call160 [] [] 2
def Z6e(access:Int):Tree Bool:=
.br (decide (access>=1)) (.lf (decide (access<=3))) (.lf false)
def PF access:=(Z6e access).m
def Zny:bd:=mS 212 [] true [.one (.int .i64)] [] (λa r=>Z6e (au a 0)) (λX=>.bool X) (λX=>[])
theorem Z0t:bu pG Zny:=oS (.nil) Tryz.func212 Tryz.call212 [] [] 2
def Z5v(c:cq):Tree Bool:=
.lf (bm u32 c.C4.a0 (5:Int)==(4:Int))
def Qwy c:=(Z5v c).m
def Zq0:bd:=mS 213 [] true [.agg cq.sig] [] (λa r=>Z5v (cq.of (aC a 0))) (λX=>.bool X) (λX=>[])
theorem Zlh:bu pG Zq0:=oS (.nil) Tryz.func213 Tryz.call213 [] [] 2
def MM(access:Int):Tree Int:=
.br (access==1) (.lf 4) (.br (access==3) (.lf 6) (.lf 5))
def Dc access:=(MM access).m
def Zf:bd:=mS 215 [] true [.one (.int .i64)] [] (λa r=>MM (au a 0)) (λX=>.int .i64 X) (λX=>[])
theorem Qvu:bu pG Zf:=oS (.nil) Tryz.func215 Tryz.call215 [] [] 2
def HJ(m:List Int)(root va access:Int):Tree sq:=
.lv (Dc access) λ(x0:Int)=>.lv (oW m) λ(x1:Int)=>.lv (PF access) λ(x2:Bool)=>let E4:=({Addr:=0,G1:=0,G0:=x0}:sq);.br (!x2) (.lf (E4)) (.br (decide (va>=4096)) (.lf (E4)) (.br (decide (root>=wrap u32 x1)) (.lf (E4)) (let E6:=wrap u32 (root*128)+wrap u32 (4*wrap u32 (eN va 128));let E3:=eN (wrap u32 E6) 4;.cn (bX 1 1&&bN 0 1&&decide (0<=wrap u32 E3/\wrap u32 E3<(m.length:Int))) (let E5:=m.getD (dA (wrap u32 E3)) 0;.br (bm u32 E5 (1:Int)==(0:Int)) (.lf (E4)) (let T1:Tree (sq):=.br (decide (bm u32 (bn u32 E5 8) 255>=wrap u32 x1)) (.lf (E4)) (.lf ({Addr:=wrap u32 (wrap u32 (bm u32 (bn u32 E5 8) (255:Int)*(128:Int))+cZ va 128),G1:=wrap u32 E6,G0:=0}));let T2:Tree (sq):=.br (access==1) (.br (bm u32 E5 (4:Int)==(0:Int)) (.lf (E4)) T1) T1;.br (access==3) (.br (bm u32 E5 (2:Int)==(0:Int)) (.lf (E4)) T2) T2)))))
def Bh m root va access:=(HJ m root va access).m
abbrev Z1h m root va access:=(HJ m root va access).p
def Zuk:bd:=mT 216 [] true [.one (.ints .u32),.one (.int .u32),.one (.int .u32),.one (.int .i64)] [] (λa r=>HJ (c9 .u32 a 0) (au a 1) (au a 2) (au a 3)) (λX=>.agg (sq.cells X)) (λX=>[])
theorem Zp3:bu pG Zuk:=oT (.cons Qvu (.cons G3 (.cons Z0t (.nil)))) Tryz.func216 Tryz.call216 [] [] 2
def MG(m:List Int)(entry access:Int):Tree (List Int):=
.an (Qgj m entry 4) (.lv (we m entry 4) λ(x0:Bool)=>.br (!x0) (.lf m) (let E3:=bX 1 1&&bN 0 1&&decide (0<=wrap u32 (eN entry 4)/\wrap u32 (eN entry 4)<(m.length:Int));.cn E3 (.cn E3 (let E4:=dA (wrap u32 (eN entry 4));let E1:=dB m E4 (ja u32 (m.getD E4 0) 8);.br (access==3) (let E2:=bX 1 1&&bN 0 1&&decide (0<=wrap u32 (eN entry 4)/\wrap u32 (eN entry 4)<(↑(dF E1):Int));.cn E2 (.cn E2 (.lf (dB E1 E4 (ja u32 (aV E1 E4 0) 16))))) (.lf E1)))))
def Vt m entry access:=(MG m entry access).m
abbrev Z0o m entry access:=(MG m entry access).p
def Ztw:bd:=mT 217 [true,false,false] true [.one (.row 0),.one (.int .u32),.one (.int .i64)] [.arr 25 1 (.ints .u32)] (λa r=>MG (mA .u32 r 0) (au a 1) (au a 2)) (λX=>.dw []) (λX=>[⟨false,25,1,.ints .u32 X⟩])
theorem Zpi:bu pG Ztw:=oT (.cons Qp8 (.nil)) Tryz.func217 Tryz.call217 [] [] 2
def J1(c:cq)(m:List Int)(va size access:Int):Tree (Int×Int×(List Int)):=
.lv (PF access) λ(x0:Bool)=>.br (!x0) (.lf (0,5,m)) (let T1:Tree ((Int×Int×(List Int))):=.cn (decide (wrap u32 size≠0)) (.br (cZ va (wrap u32 size) !=0) (.lf (0,3,m)) (.lv (Qwy c) λ(x1:Bool)=>.br (!x1) (.an (Qgj m va size) (.lv (we m va size) λ(x2:Bool)=>.br (!x2) (.lv (Dc access) λ(x3:Int)=>.lf (0,x3,m)) (.lf (va,0,m)))) (.an (Z1h m c.C4.a6 va access) (.lv (Bh m c.C4.a6 va access) λ(x4:sq)=>.br (x4.G0 !=0) (.lf (0,x4.G0,m)) (.an (Z0o m x4.G1 access) (.lv (Vt m x4.G1 access) λ(x5:List Int)=>.lf (x4.Addr,0,x5)))))));.br (size !=1) (.br (size !=4) (.lf (0,5,m)) T1) T1)
def mw c m va size access:=(J1 c m va size access).m
abbrev Un c m va size access:=(J1 c m va size access).p
def Zqp:bd:=mT 158 [false,true,false,false,false] true [.agg cq.sig,.one (.row 0),.one (.int .u32),.one (.int .i64),.one (.int .i64)] [.arr 25 1 (.ints .u32)] (λa r=>J1 (cq.of (aC a 0)) (mA .u32 r 0) (au a 2) (au a 3) (au a 4)) (λX=>.dw [.int .u32 (X.1),.int .i64 (X.2.1)]) (λX=>[⟨false,25,1,.ints .u32 (X.2.2)⟩])
theorem Z0j:bu pG Zqp:=oT (.cons Z0t (.cons Zlh (.cons Qp8 (.cons Qvu (.cons Zp3 (.cons Zpi (.nil))))))) Tryz.func158 Tryz.call158 [] [] 2
def Qqb(op:Int):Tree Bool:=
.br (decide (op>=57)) (.lf (decide (op<=64))) (.lf false)
def Mv op:=(Qqb op).m
def Z47:bd:=mS 161 [] true [.one (.int .i64)] [] (λa r=>Qqb (au a 0)) (λX=>.bool X) (λX=>[])
theorem Z2o:bu pG Z47:=oS (.nil) Tryz.func161 Tryz.call161 [] [] 2
def PK(c:cq):Tree cq:=
.lv (De (bm u32 c.C4.a0 (8:Int) !=(0:Int))) λ(x0:Int)=>.lv (De (bm u32 c.C4.a0 (16:Int) !=(0:Int))) λ(x1:Int)=>.lf ({X:=c.X,Pc:=c.C4.a2,C4:={a0:=ja u32 (ja u32 (oA u32 c.C4.a0 3) (wrap u32 (1*x0))) (wrap u32 (2*x1)),a1:=c.C4.a1,a2:=c.C4.a2,a3:=c.C4.a3,a4:=c.C4.a4,a5:=c.C4.a5,a6:=c.C4.a6,a7:=c.C4.a7}})
def Vu c:=(PK c).m
def Zmo:bd:=mS 218 [] true [.agg cq.sig] [] (λa r=>PK (cq.of (aC a 0))) (λX=>.agg (cq.cells X)) (λX=>[])
theorem Zfv:bu pG Zmo:=oS (.cons Qzy (.nil)) Tryz.func218 Tryz.call218 [] [] 2
def J0(c:cq)(r v:Int):Tree cq:=
.br (decide (r>0)) (.br (decide (r<16)) (.cn (bN 0 1&&decide (0<=r/\r<(↑16:Int))) (.lf ({X:=jg.of 0 (dB (jg.l c.X) r.toNat v),Pc:=c.Pc,C4:=c.C4}))) (.lf c)) (.lf c)
def mf c r v:=(J0 c r v).m
abbrev Ev c r v:=(J0 c r v).p
def Zzn:bd:=mT 121 [] true [.agg cq.sig,.one (.int .i64),.one (.int .u32)] [] (λa r=>J0 (cq.of (aC a 0)) (au a 1) (au a 2)) (λX=>.agg (cq.cells X)) (λX=>[])
theorem Uo:bu pG Zzn:=oT (.nil) Tryz.func121 Tryz.call121 [] [] 2
def MN(c:cq)(jK v:Int):Tree cq:=
let E4:=bN 0 1&&decide (0<=jK/\jK<(↑8:Int));let T2:Tree (cq):=.cn E4 (.lf ({X:=c.X,Pc:=c.Pc,C4:=A8.of 0 (dB (A8.l c.C4) jK.toNat (bm u32 v 31))}));.br (jK==0) T2 (.br (jK==7) T2 (.br (jK==6) (.cn E4 (.lf ({X:=c.X,Pc:=c.Pc,C4:=A8.of 0 (dB (A8.l c.C4) jK.toNat (bm u32 v 255))}))) (let T3:Tree (cq):=.cn E4 (.lf ({X:=c.X,Pc:=c.Pc,C4:=A8.of 0 (dB (A8.l c.C4) jK.toNat (oA u32 v 3))}));.br (jK==1) T3 (.br (jK==2) T3 (let T1:Tree (cq):=.cn E4 (.lf ({X:=c.X,Pc:=c.Pc,C4:=A8.of 0 (dB (A8.l c.C4) jK.toNat v)}));.br (jK==3) T1 (.br (jK==4) T1 (.br (jK==5) T1 (.lf c))))))))
def PO c jK v:=(MN c jK v).m
abbrev Qyg c jK v:=(MN c jK v).p
def Zqc:bd:=mT 219 [] true [.agg cq.sig,.one (.int .i64),.one (.int .u32)] [] (λa r=>MN (cq.of (aC a 0)) (au a 1) (au a 2)) (λX=>.agg (cq.cells X)) (λX=>[])
theorem Zj2:bu pG Zqc:=oT (.nil) Tryz.func219 Tryz.call219 [] [] 2
def Ts(c:cq)(i:ig):Tree (cq×ma):=
.br (i.Op==56) (.lv (rH c 7 0) λ(x0:cq)=>.lf (x0,{C2:=0,F1:=0,F9:=0,Value:=0})) (.br (i.Op==57) (.lv (Vu c) λ(x1:cq)=>.lf (x1,{C2:=0,F1:=0,F9:=0,Value:=0})) (.br (i.Op==58) (.cn (bN 0 1&&decide (0<=i.cv/\i.cv<(↑8:Int))) (let E3:=aV (A8.l c.C4) i.cv.toNat 0;.an (Ev c i.A E3) (.lv (mf c i.A E3) λ(x2:cq)=>.lf ({X:=x2.X,Pc:=wrap u32 (x2.Pc+4),C4:=x2.C4},{C2:=0,F1:=0,F9:=0,Value:=0})))) (let E2:=bN 0 1&&decide (0<=i.A/\i.A<(↑16:Int));.br (i.Op==59) (.cn E2 (let E4:=aV (jg.l c.X) i.A.toNat 0;.an (Qyg c (wrap i64 i.cv) E4) (.lv (PO c (wrap i64 i.cv) E4) λ(x3:cq)=>.lf ({X:=x3.X,Pc:=wrap u32 (x3.Pc+4),C4:=x3.C4},{C2:=0,F1:=0,F9:=0,Value:=0})))) (let E1:=({X:=c.X,Pc:=wrap u32 (c.Pc+4),C4:=c.C4}:cq);.br (i.Op==60) (.lf (E1,{C2:=1,F1:=wrap i64 i.cv,F9:=i.A,Value:=0})) (.br (i.Op==61) (.cn E2 (.lf (E1,{C2:=2,F1:=wrap i64 i.cv,F9:=0,Value:=aV (jg.l c.X) i.A.toNat 0}))) (.br (i.Op==62) (.lf (E1,{C2:=3,F1:=0,F9:=0,Value:=0})) (.br (i.Op==63) (.lf (E1,{C2:=5,F1:=0,F9:=0,Value:=0})) (.br (i.Op==64) (.lf (E1,{C2:=4,F1:=0,F9:=0,Value:=0})) (.lf (E1,{C2:=0,F1:=0,F9:=0,Value:=0}))))))))))
def Qrj c i:=(Ts c i).m
abbrev Qwb c i:=(Ts c i).p
def Zj9:bd:=mT 162 [] true [.agg cq.sig,.agg ig.sig] [] (λa r=>Ts (cq.of (aC a 0)) (ig.of (aC a 1))) (λX=>.dw [.agg (cq.cells (X.1)),.agg (ma.cells (X.2))]) (λX=>[])
theorem Zg0:bu pG Zj9:=oT (.cons X7 (.cons Zfv (.cons Uo (.cons Zj2 (.nil))))) Tryz.func162 Tryz.call162 [] [] 2
def Z6k(op a b:Int):Tree Bool:=
.br (op==40) (.lf (a==b)) (.br (op==41) (.lf (a !=b)) (.br (op==42) (.lf (decide (wrap i32 a<wrap i32 b))) (.br (op==43) (.lf (decide (wrap i32 a>=wrap i32 b))) (.br (op==44) (.lf (decide (a<b))) (.lf (decide (a>=b)))))))
def r5 op a b:=(Z6k op a b).m
def Zph:bd:=mS 220 [] true [.one (.int .i64),.one (.int .u32),.one (.int .u32)] [] (λa r=>Z6k (au a 0) (au a 1) (au a 2)) (λX=>.bool X) (λX=>[])
theorem Zkn:bu pG Zph:=oS (.nil) Tryz.func220 Tryz.call220 [] [] 2
def Tt(c:cq)(i:ig):Tree cq:=
.br (i.Op==48) (.an (Ev c i.A (wrap u32 (c.Pc+4))) (.lv (mf c i.A (wrap u32 (c.Pc+4))) λ(x0:cq)=>.lf ({X:=x0.X,Pc:=wrap u32 (c.Pc+wrap u32 (4*wrap u32 i.cv)),C4:=x0.C4}))) (let E1:=bN 0 1&&decide (0<=i.B/\i.B<(↑16:Int));.br (i.Op==49) (.cn E1 (.an (Ev c i.A (wrap u32 (c.Pc+4))) (.lv (mf c i.A (wrap u32 (c.Pc+4))) λ(x1:cq)=>.lf ({X:=x1.X,Pc:=wrap u32 (aV (jg.l c.X) i.B.toNat 0+wrap u32 i.cv),C4:=x1.C4})))) (.cn (bN 0 1&&decide (0<=i.A/\i.A<(↑16:Int))) (.cn E1 (.lv (r5 i.Op (aV (jg.l c.X) i.A.toNat 0) (aV (jg.l c.X) i.B.toNat 0)) λ(x2:Bool)=>.br x2 (.lf ({X:=c.X,Pc:=wrap u32 (c.Pc+wrap u32 (4*wrap u32 i.cv)),C4:=c.C4})) (.lf ({X:=c.X,Pc:=wrap u32 (c.Pc+4),C4:=c.C4}))))))
def Zd2 c i:=(Tt c i).m
abbrev Z1t c i:=(Tt c i).p
def Ztl:bd:=mT 163 [] true [.agg cq.sig,.agg ig.sig] [] (λa r=>Tt (cq.of (aC a 0)) (ig.of (aC a 1))) (λX=>.agg (cq.cells X)) (λX=>[])
theorem Zqt:bu pG Ztl:=oT (.cons Uo (.cons Zkn (.nil))) Tryz.func163 Tryz.call163 [] [] 2
def Tq(x n:Int):Tree Int:=
.br (decide (n<1)) (.lf 0) (.br (decide (n>=32)) (.lf x) (.cn (decide (0<=wrap u64 n)) (.cn (decide (0<=wrap u64 (wrap i64 (n-1)))) (let E1:=bm u32 x (wrap u32 (ei u32 1 (wrap u64 n)-1));.br (bn u32 E1 (wrap u64 (wrap i64 (n-1)))==1) (.cn (decide (0<=wrap u64 n)) (.lf (ja u32 E1 (ei u32 4294967295 (wrap u64 n))))) (.lf E1)))))
def HE x n:=(Tq x n).m
abbrev Qej x n:=(Tq x n).p
def Z4m:bd:=mT 222 [] true [.one (.int .u32),.one (.int .i64)] [] (λa r=>Tq (au a 0) (au a 1)) (λX=>.int .u32 X) (λX=>[])
theorem Z0q:bu pG Z4m:=oT (.nil) Tryz.func222 Tryz.call222 [] [] 2
def Tu(c:cq)(m:List Int)(i:ig):Tree (cq×(List Int)):=
.cn (bN 0 1&&decide (0<=i.B/\i.B<(↑16:Int))) (let E4:=wrap u32 (aV (jg.l c.X) i.B.toNat 0+wrap u32 i.cv);let E5:=aV (jg.l c.X) i.A.toNat 0;let E6:=bN 0 1&&decide (0<=i.A/\i.A<(↑16:Int));let E7:=({X:=c.X,Pc:=wrap u32 (c.Pc+4),C4:=c.C4}:cq);let T1:Tree ((cq×(List Int))):=let T3:Tree ((cq×(List Int))):=.an (Un c m E4 4 3) (.lv (mw c m E4 4 3) λ(x0:Int×Int×List Int)=>.br (x0.2.1 !=0) (.lv (rH c x0.2.1 E4) λ(x1:cq)=>.lf (x1,x0.2.2)) (.cn E6 (.an (Vn x0.2.2 x0.1 4 E5) (.lv (BR x0.2.2 x0.1 4 E5) λ(x2:List Int)=>.lf (E7,x2)))));.br (i.Op==35) T3 (.br (i.Op==36) T3 (.an (Un c m E4 4 2) (.lv (mw c m E4 4 2) λ(x6:Int×Int×List Int)=>.br (x6.2.1 !=0) (.lv (rH c x6.2.1 E4) λ(x7:cq)=>.lf (x7,x6.2.2)) (.an (XP x6.2.2 x6.1 4) (.lv (pB x6.2.2 x6.1 4) λ(x8:Int×Bool)=>.br (i.Op==33) (.an (Qej x8.1 8) (.lv (HE x8.1 8) λ(x9:Int)=>.an (Ev c i.A x9) (.lv (mf c i.A x9) λ(kF:cq)=>.lf ({X:=kF.X,Pc:=wrap u32 (kF.Pc+4),C4:=kF.C4},x6.2.2)))) (.an (Ev c i.A x8.1) (.lv (mf c i.A x8.1) λ(kX:cq)=>.lf ({X:=kX.X,Pc:=wrap u32 (kX.Pc+4),C4:=kX.C4},x6.2.2))))))));.br (i.Op==32) T1 (.br (i.Op==35) T1 (let T2:Tree ((cq×(List Int))):=.an (Un c m E4 1 3) (.lv (mw c m E4 1 3) λ(Cj:Int×Int×List Int)=>.br (Cj.2.1 !=0) (.lv (rH c Cj.2.1 E4) λ(x25:cq)=>.lf (x25,Cj.2.2)) (.cn E6 (.an (Vn Cj.2.2 Cj.1 1 E5) (.lv (BR Cj.2.2 Cj.1 1 E5) λ(x26:List Int)=>.lf (E7,x26)))));.br (i.Op==35) T2 (.br (i.Op==36) T2 (.an (Un c m E4 1 2) (.lv (mw c m E4 1 2) λ(G6:Int×Int×List Int)=>.br (G6.2.1 !=0) (.lv (rH c G6.2.1 E4) λ(x31:cq)=>.lf (x31,G6.2.2)) (.an (XP G6.2.2 G6.1 1) (.lv (pB G6.2.2 G6.1 1) λ(X8:Int×Bool)=>.br (i.Op==33) (.an (Qej X8.1 8) (.lv (HE X8.1 8) λ(Ul:Int)=>.an (Ev c i.A Ul) (.lv (mf c i.A Ul) λ(x34:cq)=>.lf ({X:=x34.X,Pc:=wrap u32 (x34.Pc+4),C4:=x34.C4},G6.2.2)))) (.an (Ev c i.A X8.1) (.lv (mf c i.A X8.1) λ(x35:cq)=>.lf ({X:=x35.X,Pc:=wrap u32 (x35.Pc+4),C4:=x35.C4},G6.2.2)))))))))))
def HK c m i:=(Tu c m i).m
abbrev Qq5 c m i:=(Tu c m i).p
def Zch:bd:=mT 164 [false,true,false] true [.agg cq.sig,.one (.row 0),.agg ig.sig] [.arr 25 1 (.ints .u32)] (λa r=>Tu (cq.of (aC a 0)) (mA .u32 r 0) (ig.of (aC a 2))) (λX=>.agg (cq.cells (X.1))) (λX=>[⟨false,25,1,.ints .u32 (X.2)⟩])
theorem Z8h:bu pG Zch:=oT (.cons Z0j (.cons X7 (.cons Ze2 (.cons Qvq (.cons Z0q (.cons Uo (.nil))))))) Tryz.func164 Tryz.call164 [] [] 2
def Z72(op:Int):Tree Int:=
.br (op==16) (.lf 1) (.br (op==17) (.lf 3) (.br (op==18) (.lf 4) (.br (op==19) (.lf 5) (.br (op==20) (.lf 6) (.br (op==21) (.lf 7) (.br (op==22) (.lf 8) (.br (op==23) (.lf 12) (.lf op))))))))
def Zgp op:=(Z72 op).m
def Zpx:bd:=mS 223 [] true [.one (.int .i64)] [] (λa r=>Z72 (au a 0)) (λX=>.int .i64 X) (λX=>[])
theorem Zln:bu pG Zpx:=oS (.nil) Tryz.func223 Tryz.call223 [] [] 2
def MK(a b:Int):Tree (Int×Int):=
.br (b==0) (.lf (4294967295,a)) (.cn (decide (wrap i64 (wrap i32 b)≠0)) (.cn (decide (wrap i64 (wrap i32 b)≠0)) (.lf (wrap u32 (wrap i64 (eN (wrap i64 (wrap i32 a)) (wrap i64 (wrap i32 b)))),wrap u32 (cZ (wrap i64 (wrap i32 a)) (wrap i64 (wrap i32 b)))))))
def MI a b:=(MK a b).m
abbrev Qnl a b:=(MK a b).p
def Zmf:bd:=mT 224 [] true [.one (.int .u32),.one (.int .u32)] [] (λa r=>MK (au a 0) (au a 1)) (λX=>.dw [.int .u32 (X.1),.int .u32 (X.2)]) (λX=>[])
theorem Ze8:bu pG Zmf:=oT (.nil) Tryz.func224 Tryz.call224 [] [] 2
def Tp(op a b:Int):Tree (Int×Bool):=
.lv (Zgp op) λ(x0:Int)=>.br (x0==1) (.lf (wrap u32 (a+b),true)) (.br (x0==2) (.lf (wrap u32 (a-b),true)) (.br (x0==3) (.lf (bm u32 a b,true)) (.br (x0==4) (.lf (ja u32 a b,true)) (.br (x0==5) (.lf (sn u32 a b,true)) (.br (x0==6) (.lf (ei u32 a (bm u32 b 31),true)) (.br (x0==7) (.lf (bn u32 a (bm u32 b 31),true)) (.br (x0==8) (.lf (wrap u32 (bn i32 (wrap i32 a) (bm u32 b 31)),true)) (.br (x0==9) (.lf (wrap u32 (a*b),true)) (.br (x0==10) (.an (Qnl a b) (.lv (MI a b) λ(x1:Int×Int)=>.lf (x1.1,true))) (.br (x0==11) (.an (Qnl a b) (.lv (MI a b) λ(x2:Int×Int)=>.lf (x2.2,true))) (.br (x0==12) (.lv (De (decide (wrap i32 a<wrap i32 b))) λ(x3:Int)=>.lf (x3,true)) (.br (x0==13) (.lv (De (decide (a<b))) λ(x4:Int)=>.lf (x4,true)) (.lf (0,false))))))))))))))
def ER op a b:=(Tp op a b).m
abbrev Qub op a b:=(Tp op a b).p
def Zy:bd:=mT 165 [] true [.one (.int .i64),.one (.int .u32),.one (.int .u32)] [] (λa r=>Tp (au a 0) (au a 1) (au a 2)) (λX=>.dw [.int .u32 (X.1),.bool (X.2)]) (λX=>[])
theorem Zs0:bu pG Zy:=oT (.cons Zln (.cons Ze8 (.cons Qzy (.nil)))) Tryz.func165 Tryz.call165 [] [] 2
def Tv(c:cq)(m:List Int):Tree (cq×ma×(List Int)):=
.an (Un c m c.Pc 4 1) (.lv (mw c m c.Pc 4 1) λ(x0:Int×Int×List Int)=>.br (x0.2.1 !=0) (.lv (rH c x0.2.1 c.Pc) λ(x1:cq)=>.lf (x1,{C2:=0,F1:=0,F9:=0,Value:=0},x0.2.2)) (.an (XP x0.2.2 x0.1 4) (.lv (pB x0.2.2 x0.1 4) λ(x2:Int×Bool)=>.lv (BQ x2.1) λ(x3:ig×Bool)=>.br (!x3.2) (.lv (rH c 1 x2.1) λ(x4:cq)=>.lf (x4,{C2:=0,F1:=0,F9:=0,Value:=0},x0.2.2)) (.lv (Mv x3.1.Op) λ(x5:Bool)=>let T1:Tree ((cq×ma×(List Int))):=.br (decide (x3.1.Op>=56)) (.an (Qwb c x3.1) (.lv (Qrj c x3.1) λ(x7:cq×ma)=>.lf (x7.1,x7.2,x0.2.2))) (.br (decide (x3.1.Op>=40)) (.an (Z1t c x3.1) (.lv (Zd2 c x3.1) λ(x8:cq)=>.lf (x8,{C2:=0,F1:=0,F9:=0,Value:=0},x0.2.2))) (.br (decide (x3.1.Op>=32)) (.an (Qq5 c x0.2.2 x3.1) (.lv (HK c x0.2.2 x3.1) λ(x9:cq×List Int)=>.lf (x9.1,{C2:=0,F1:=0,F9:=0,Value:=0},x9.2))) (.br (x3.1.Op==24) (.an (Ev c x3.1.A (ei u32 (wrap u32 x3.1.cv) 16)) (.lv (mf c x3.1.A (ei u32 (wrap u32 x3.1.cv) 16)) λ(kF:cq)=>.lf ({X:=kF.X,Pc:=wrap u32 (kF.Pc+4),C4:=kF.C4},{C2:=0,F1:=0,F9:=0,Value:=0},x0.2.2))) (let E2:=aV (jg.l c.X) x3.1.B.toNat 0;let E3:=bN 0 1&&decide (0<=x3.1.B/\x3.1.B<(↑16:Int));.br (decide (x3.1.Op<=13)) (.cn (bN 0 1&&decide (0<=x3.1.C/\x3.1.C<(↑16:Int))) (.cn E3 (let E4:=aV (jg.l c.X) x3.1.C.toNat 0;.an (Qub x3.1.Op E2 E4) (.lv (ER x3.1.Op E2 E4) λ(kX:Int×Bool)=>.an (Ev c x3.1.A kX.1) (.lv (mf c x3.1.A kX.1) λ(nW:cq)=>.lf ({X:=nW.X,Pc:=wrap u32 (nW.Pc+4),C4:=nW.C4},{C2:=0,F1:=0,F9:=0,Value:=0},x0.2.2)))))) (.cn E3 (.an (Qub x3.1.Op E2 (wrap u32 x3.1.cv)) (.lv (ER x3.1.Op E2 (wrap u32 x3.1.cv)) λ(r8:Int×Bool)=>.an (Ev c x3.1.A r8.1) (.lv (mf c x3.1.A r8.1) λ(Am:cq)=>.lf ({X:=Am.X,Pc:=wrap u32 (Am.Pc+4),C4:=Am.C4},{C2:=0,F1:=0,F9:=0,Value:=0},x0.2.2)))))))));.br x5 (.br (bm u32 c.C4.a0 (1:Int)==(0:Int)) (.lv (rH c 2 x2.1) λ(x6:cq)=>.lf (x6,{C2:=0,F1:=0,F9:=0,Value:=0},x0.2.2)) T1) T1))))
def BS c m:=(Tv c m).m
abbrev Zds c m:=(Tv c m).p
def qF:bd:=mT 119 [false,true] true [.agg cq.sig,.one (.row 0)] [.arr 25 1 (.ints .u32)] (λa r=>Tv (cq.of (aC a 0)) (mA .u32 r 0)) (λX=>.dw [.agg (cq.cells (X.1)),.agg (ma.cells (X.2.1))]) (λX=>[⟨false,25,1,.ints .u32 (X.2.2)⟩])
theorem Zzk:bu pG qF:=oT (.cons Z0j (.cons X7 (.cons Qvq (.cons Qyt (.cons Z2o (.cons Zg0 (.cons Zqt (.cons Z8h (.cons Uo (.cons Zs0 (.nil))))))))))) Tryz.func119 Tryz.call119 [] [] 2
end
noncomputable section
def PW(m:List Int)(frame:Int):Tree Bool:=
.lv (oW m) λ(x0:Int)=>.lf (decide (wrap u64 frame<wrap u64 x0))
def uz m frame:=(PW m frame).m
def Zsw:bd:=mS 226 [] true [.one (.ints .u32),.one (.int .u32)] [] (λa r=>PW (c9 .u32 a 0) (au a 1)) (λX=>.bool X) (λX=>[])
theorem Uc:bu pG Zsw:=oS (.cons G3 (.nil)) Tryz.func226 Tryz.call226 [] [] 2
def Qgt(m:bj)(z:(Int)):Nat:=(32-z).toNat
def M4(m:bj):Tree cq:=
.an (Qjn m) (.lv (BV m) λ(x0:Int)=>.br (bm u32 m.B2.C4.a0 (2:Int)==(0:Int)) (.lf m.B2) (.br (x0==0) (.lf m.B2) (.lp inferInstance (Qgt m 0+1) ((rZ/\rZ/\rE (x0:Int)/\rE (0:Int)/\True)/\(mE m (((ag.Nil (ag.ints u32 m.Mem)\/rE (1:Nat))/\rE m.Mem)) True)/\(rE (0:Int)/\rE (0:Int)/\rE (0:Int)/\rE (0:Int)/\rE (0:Int)/\rE (0:Int)/\rE (0:Int)/\rE (0:Int)/\rE (0:Int)/\rE (0:Int)/\rE (0:Int)/\rE (0:Int)/\rE (0:Int)/\rE (0:Int)/\rE (0:Int)/\rE (0:Int)/\rE (0:Int)/\rE (0:Int)/\rE (0:Int)/\rE (0:Int)/\rE (0:Int)/\rE (0:Int)/\rE (0:Int)/\rE (0:Int)/\rE (0:Int)/\True)/\True) 0 λ(v0:Int)=>.cn (decide (0<=wrap u64 v0)) (.br (bm u32 (bn u32 x0 (wrap u64 v0)) (1:Int)==(0:Int)) (.nx ((rZ/\rZ/\rE (x0:Int)/\rE ((wrap i64 (v0+1)):Int)/\True)/\(mE m (((ag.Nil (ag.ints u32 m.Mem)\/rE (1:Nat))/\rE m.Mem)) True)/\(rE (0:Int)/\rE (0:Int)/\rE (0:Int)/\rE (0:Int)/\rE (0:Int)/\rE (0:Int)/\rE (0:Int)/\rE (0:Int)/\rE (0:Int)/\rE (0:Int)/\rE (0:Int)/\rE (0:Int)/\rE (0:Int)/\rE (0:Int)/\rE (0:Int)/\rE (0:Int)/\rE (0:Int)/\rE (0:Int)/\rE (0:Int)/\rE (0:Int)/\rE (0:Int)/\rE (0:Int)/\rE (0:Int)/\rE (0:Int)/\rE (0:Int)/\True)/\True) (Sum.inl (wrap i64 (v0+1)))) (.lv (rH m.B2 (wrap i64 (16+v0)) 0) λ(x1:cq)=>.lf (Sum.inr x1))))))
def r6 m:=(M4 m).m
abbrev Qco m:=(M4 m).p
def Qzx:bw:={
 α:=(Int)
 F:=λst a=>([(1,.ptr 0 0 0),(2,.ptr 1 0 0),(3,(lk st 3)),(4,.int i64 a)],[⟨true,43,49,.gen [mB (cT st 1)]⟩,⟨true,29,25,.gen [cN st 2 0 25]⟩])
 a0:=λst=>(lk st 4).toInt
 iU:=λst=>[]++[(rX st 1 0),(rX st 2 1)]}
def Qvh:List (Nat×bw):=[(5,Qzx)]
def Z1f:bd:=mT 118 [] true [.agg bj.sig] [] (λa r=>M4 (bj.of (aC a 0))) (λX=>.agg (cq.cells X)) (λX=>[])
theorem Qn:bu pG Z1f:=oT (.cons Qur (.cons X7 (.nil))) Tryz.func118 Tryz.call118 [] Qvh 3
def HM(c:jn)(port:Int):Tree (jn×Int):=
let T1:Tree ((jn×Int)):=.br (port==0) (.cn (decide ((0:Int)<=(1:Int)/\1<=(c.D9.length:Int)/\(c.D9.length:Int)<=(c.D9.length:Int))) (.cn (decide ((0:Int)<=(0:Int)/\0<(c.D9.length:Int))) (.lf ({D9:=cU (dA (c.D9.length:Int)-dA 1) (cV (dA 1) c.D9)},wrap u32 (↑(UInt8.toNat (c.D9.getD (dA 0) (0:UInt8))):Int))))) (.br (port==1) (.lf (c,wrap u32 (c.D9.length:Int))) (.lf (c,0)));.br (port==0) (.br ((c.D9.length:Int)==(0:Int)) (.lf (c,4294967295)) T1) T1
def MQ c port:=(HM c port).m
theorem Z1n(c:jn)(port:Int):(HM c port).p:=by
 unfold Tree.p HM
 repeat'(first|exact trivial|refine aa (λ_=>?_) (λ_=>?_)|refine ar ?_ ?_|refine bz ?_ ?_|refine ai (λ_ _=>?_)|refine dj ?_|refine aw ?_|refine And.intro ?_ ?_)
 all_goals(exact mC)
def Z74:bd:=mS 166 [] true [.agg jn.sig,.one (.int .i64)] [] (λa r=>HM (jn.of (aC a 0)) (au a 1)) (λX=>.dw [.agg (jn.cells (X.1)),.int .u32 (X.2)]) (λX=>[])
theorem Z5j:bu pG Z74:=oS (.nil) Tryz.func166 Tryz.call166 [] [] 2 (λ_ _ _=>by kernel_rfl) (λa r=>Z1n (jn.of (aC a 0)) (au a 1)) (λ_ X=>by kernel_rfl)
def Xs(t:jx):Tree Int:=
.br t.D8 (.lf 1) (.lf 0)
def Qot t:=(Xs t).m
def Zfg:bd:=mS 167 [] true [.agg jx.sig] [] (λa r=>Xs (jx.of (aC a 0))) (λX=>.int .u32 X) (λX=>[])
theorem Zac:bu pG Zfg:=oS (.nil) Tryz.func167 Tryz.call167 [] [] 2
def Xr(d0:gk)(port:Int):Tree Int:=
.br (port==4) (.lf d0.C8) (.br (port==5) (.lf d0.Frame) (.br (port==6) (.lf (wrap u32 d0.C9)) (.lf 0)))
def Qsc d0 port:=(Xr d0 port).m
def Zlv:bd:=mS 168 [] true [.agg gk.sig,.one (.int .i64)] [] (λa r=>Xr (gk.of (aC a 0)) (au a 1)) (λX=>.int .u32 X) (λX=>[])
theorem Ze9:bu pG Zlv:=oS (.nil) Tryz.func168 Tryz.call168 [] [] 2
def PV(n:iq)(port:Int):Tree Int:=
.br (port==7) (.lf n.Frame) (.br (port==8) (.lf n.F8) (.br (port==9) (.br n.D2 (.br n.C3 (.lf (wrap u32 ((1:Int)+(2:Int)))) (.lf 1)) (.br n.C3 (.lf (wrap u32 ((0:Int)+(2:Int)))) (.lf 0))) (.lf 0)))
def VB n port:=(PV n port).m
def Zpw:bd:=mS 169 [] true [.agg iq.sig,.one (.int .i64)] [] (λa r=>PV (iq.of (aC a 0)) (au a 1)) (λX=>.int .u32 X) (λX=>[])
theorem Zkc:bu pG Zpw:=oS (.nil) Tryz.func169 Tryz.call169 [] [] 2
def MU(b:ie)(port:Int):Tree Int:=
.br (port==10) (.lf b.A2) (.br (port==11) (.lv (MP b) λ(x0:Int)=>.lf (wrap u32 x0)) (.lf 0))
def MT b port:=(MU b port).m
def Z76:bd:=mS 170 [] true [.agg ie.sig,.one (.int .i64)] [] (λa r=>MU (ie.of (aC a 0)) (au a 1)) (λX=>.int .u32 X) (λX=>[])
theorem Z4o:bu pG Z76:=oS (.cons Z2a (.nil)) Tryz.func170 Tryz.call170 [] [] 2
def OS(m:bj)(port clock:Int):Tree (Int×bj):=
.br (decide (port<=1)) (.lv (MQ m.B3 port) λ(x0:jn×Int)=>.lf (x0.2,{B2:=m.B2,Mem:=m.Mem,B3:=x0.1,C1:=m.C1,B6:=m.B6,D4:=m.D4,B0:=m.B0,B9:=m.B9,B4:=m.B4,B8:=m.B8})) (.br (port==2) (.lf (clock,m)) (.br (port==3) (.lv (Qot m.C1) λ(x1:Int)=>.lf (x1,m)) (.br (decide (port<=6)) (.lv (Qsc m.B6 port) λ(x2:Int)=>.lf (x2,m)) (.br (decide (port<=9)) (.lv (VB m.D4 port) λ(x3:Int)=>.lf (x3,m)) (.lv (MT m.B0 port) λ(x4:Int)=>.lf (x4,m))))))
def EU m port clock:=(OS m port clock).m
def xF:bd:=mS 120 [true,false,false] true [.ptr 0,.one (.int .i64),.one (.int .u32)] [.box 43 49 (bj.kA (.row 1)),.arr 25 1 (.ints .u32)] (λa r=>OS (bj.og (r.getD 0 default).cs (mA .u32 r 1)) (au a 1) (au a 2)) (λX=>.int .u32 (X.1)) (λX=>[⟨true,43,49,.gen [(bj.cg (X.2) (.all 1))]⟩,⟨false,25,1,.ints .u32 (X.2).Mem⟩])
theorem Zwz:bu pG xF:=oS (.cons Z5j (.cons Zac (.cons Ze9 (.cons Zkc (.cons Z4o (.nil)))))) Tryz.func120 Tryz.call120 [.row 25 1 (.ints .u32)] [] 2
def Z5n(deadline:Int):Tree jx:=
.br (deadline==0) (.lf ({E0:=false,D0:=0,D8:=false})) (.lf ({E0:=true,D0:=deadline,D8:=false}))
def Z95 deadline:=(Z5n deadline).m
def Zwy:bd:=mS 171 [] true [.one (.int .u32)] [] (λa r=>Z5n (au a 0)) (λX=>.agg (jx.cells X)) (λX=>[])
theorem Ztu:bu pG Zwy:=oS (.nil) Tryz.func171 Tryz.call171 [] [] 2
def Z13(x n:Int)(z:(Int)×(List Int)):Prop:=0<=z.1/\(z.2.length:Int)=z.1/\(z.1<=n\/z.1=0)
def Xq(x n:Int)(z:(Int)×(List Int)):Nat:=(n-z.1).toNat
def NX(x n:Int):Tree (List UInt8):=
.lp inferInstance (Xq x n (0,[])+1) ((rE (x:Int)/\rE (n:Int)/\True/\rE (0:Int)/\True)/\rE ([]:List Int)/\True) (0,[]) λ(v0:Int×List Int)=>.br (decide (v0.1<n)) (.cn (decide (0<=wrap u64 (wrap i64 (8*v0.1)))) (.cn (decide (1*(v0.2.length+1)<=140737488355328)) (.nx ((rE (x:Int)/\rE (n:Int)/\True/\rE ((wrap i64 (v0.1+1)):Int)/\True)/\rE ((v0.2++[wrap u8 (bn u32 x (wrap u64 (wrap i64 (8*v0.1))))]):List Int)/\True) (Sum.inl (wrap i64 (v0.1+1),v0.2++[wrap u8 (bn u32 x (wrap u64 (wrap i64 (8*v0.1))))]))))) (.lf (Sum.inr (bytesOf v0.2)))
def ZX x n:=(NX x n).m
def X9(x n:Int):Prop:=
n<=1000000000000
theorem Znh(x n:Int)(hw:X9 x n):(NX x n).p:=by
 simp only[X9]at hw
 unfold Tree.p NX
 repeat'(first|refine ed (inv:=Z13 x n) (μ:=Xq x n) ?_ (cN _) (λ_ _=>?_)|exact trivial|refine aa (λ_=>?_) (λ_=>?_)|refine ar ?_ ?_|refine bz ?_ ?_|refine ai (λ_ _=>?_)|refine dj ?_|refine aw ?_|refine And.intro ?_ ?_)
 all_goals((try simp only[Z13,Xq]at*);exact mC)
def Zt:bw:={
 α:=(Int)×(List Int)
 F:=λst a=>([(0,(lk st 0)),(1,(lk st 1)),(5,.all 0),(6,.int i64 a.1)],[⟨false,5,1,.ints u8 a.2⟩])
 a0:=λst=>((lk st 6).toInt,(nS st.rows (rN st 5)))
 iU:=λst=>[]++[(rX st 5 0)]}
def Zkr:List (Nat×bw):=[(3,Zt)]
def Zxs:bd:=lj 206 [] true [.one (.int .u32),.one (.int .i64)] [] (λa r=>X9 (au a 0) (au a 1)) (λa r=>ZX (au a 0) (au a 1)) (λX=>.str X) (λX=>[])
theorem Zs:bu pG Zxs:=sF drawn jL (.nil) Tryz.func206 Tryz.call206 (λa r=>NX (au a 0) (au a 1)) [] Zkr 3 (hp:=λa r h=>Znh (au a 0) (au a 1) h)
def ZZ(m:List Int)(frame:Int)(z:(Int)×(List Int)):Nat:=(32-z.1).toNat
def HI(m:List Int)(frame:Int):Tree ((List UInt8)×Bool):=
.br (decide (frame<0)) (.lf ([],false)) (.lv (oW m) λ(x0:Int)=>.br (decide (frame>=x0)) (.lf ([],false)) (.lp inferInstance (ZZ m frame (0,[])+1) ((((ag.Nil (ag.ints u32 m)\/rE (1:Nat))/\rE (m:List Int))/\rE (frame:Int)/\True/\rE (0:Int)/\True)/\rE ([]:List Int)/\True) (0,[]) λ(v0:Int×List Int)=>.br (decide (v0.1<32)) (.cn (bX 1 1&&bN 0 1&&decide (0<=wrap i64 (wrap i64 (frame*32)+v0.1)/\wrap i64 (wrap i64 (frame*32)+v0.1)<(m.length:Int))) (let E1:=m.getD (dA (wrap i64 (wrap i64 (frame*32)+v0.1))) 0;.an (X9 E1 4) (.lv (ZX E1 4) λ(x1:List UInt8)=>.cn (decide (1*(v0.2.length+dF (pQ x1))<=140737488355328)) (.nx ((((ag.Nil (ag.ints u32 m)\/rE (1:Nat))/\rE (m:List Int))/\rE (frame:Int)/\True/\rE ((wrap i64 (v0.1+1)):Int)/\True)/\rE ((v0.2++pQ x1):List Int)/\True) (Sum.inl (wrap i64 (v0.1+1),v0.2++pQ x1)))))) (.lf (Sum.inr (bytesOf v0.2,true)))))
def EO m frame:=(HI m frame).m
abbrev TB m frame:=(HI m frame).p
def Zn4:bw:={
 α:=(Int)×(List Int)
 F:=λst a=>([(0,(lk st 0)),(1,(lk st 1)),(6,.all 0),(7,.int i64 a.1)],[⟨false,5,1,.ints u8 a.2⟩])
 a0:=λst=>((lk st 7).toInt,(nS st.rows (rN st 6)))
 iU:=λst=>[]++[(rX st 6 0)]}
def Zg4:List (Nat×bw):=[(5,Zn4)]
def Zuf:bd:=mT 149 [] true [.one (.ints .u32),.one (.int .i64)] [] (λa r=>HI (c9 .u32 a 0) (au a 1)) (λX=>.dw [.str (X.1),.bool (X.2)]) (λX=>[])
theorem X5:bu pG Zuf:=oT (.cons G3 (.cons Zs (.nil))) Tryz.func149 Tryz.call149 [] Zg4 3
def Qyq(d0:gk)(fw:Int):Tree (ir×Bool):=
.br (d0.C9 !=1) (.lf ({C2:=0,At:=0,C8:=0,F0:=[]},false)) (.br (d0.F5==1) (.lf ({C2:=3,At:=fw,C8:=d0.C5,F0:=[]},true)) (.br (d0.F5==2) (.lf ({C2:=4,At:=fw,C8:=d0.C5,F0:=d0.C7},true)) (.lf ({C2:=0,At:=0,C8:=0,F0:=[]},false))))
def Qo5 d0 fw:=(Qyq d0 fw).m
def Ze5:bd:=mS 227 [] true [.agg gk.sig,.one (.int .u64)] [] (λa r=>Qyq (gk.of (aC a 0)) (au a 1)) (λX=>.dw [.agg (ir.cells (X.1)),.bool (X.2)]) (λX=>[])
theorem Zaw:bu pG Ze5:=oS (.nil) Tryz.func227 Tryz.call227 [] [] 2
def MR(d0:gk)(m:List Int)(port v fw:Int):Tree (gk×(List ir)):=
.br (port==4) (.lf ({ab:=d0.ab,C8:=v,Frame:=d0.Frame,C9:=d0.C9,F5:=d0.F5,C5:=d0.C5,C6:=d0.C6,C7:=d0.C7},[])) (.br (port==5) (.lf ({ab:=d0.ab,C8:=d0.C8,Frame:=v,C9:=d0.C9,F5:=d0.F5,C5:=d0.C5,C6:=d0.C6,C7:=d0.C7},[])) (.br (port !=6) (.lf (d0,[])) (let T1:Tree ((gk×(List ir))):=.br (d0.C9==0) (let T2:Tree ((gk×(List ir))):=.lf ({ab:=d0.ab,C8:=d0.C8,Frame:=d0.Frame,C9:=3,F5:=d0.F5,C5:=d0.C5,C6:=d0.C6,C7:=d0.C7},[]);.br (decide (d0.C8>=d0.ab)) T2 (.lv (uz m d0.Frame) λ(x0:Bool)=>.br (!x0) T2 (.br (v==2) (.an (TB m (wrap i64 d0.Frame)) (.lv (EO m (wrap i64 d0.Frame)) λ(x1:List UInt8×Bool)=>.lv (Qo5 {ab:=d0.ab,C8:=d0.C8,Frame:=d0.Frame,C9:=1,F5:=wrap i64 v,C5:=d0.C8,C6:=d0.Frame,C7:=x1.1} fw) λ(x2:ir×Bool)=>.lf ({ab:=d0.ab,C8:=d0.C8,Frame:=d0.Frame,C9:=1,F5:=wrap i64 v,C5:=d0.C8,C6:=d0.Frame,C7:=x1.1},[x2.1]))) (.lv (Qo5 {ab:=d0.ab,C8:=d0.C8,Frame:=d0.Frame,C9:=1,F5:=wrap i64 v,C5:=d0.C8,C6:=d0.Frame,C7:=[]} fw) λ(x3:ir×Bool)=>.lf ({ab:=d0.ab,C8:=d0.C8,Frame:=d0.Frame,C9:=1,F5:=wrap i64 v,C5:=d0.C8,C6:=d0.Frame,C7:=[]},[x3.1]))))) (.lf (d0,[]));.br (v==0) (let T3:Tree ((gk×(List ir))):=.lf ({ab:=d0.ab,C8:=d0.C8,Frame:=d0.Frame,C9:=0,F5:=d0.F5,C5:=d0.C5,C6:=d0.C6,C7:=d0.C7},[]);.br (d0.C9==2) T3 (.br (d0.C9==3) T3 (.br (v==1) T1 (.br (v==2) T1 (.lf (d0,[])))))) (.br (v==1) T1 (.br (v==2) T1 (.lf (d0,[])))))))
def Qop d0 m port v fw:=(MR d0 m port v fw).m
abbrev Qt4 d0 m port v fw:=(MR d0 m port v fw).p
def Zes:bd:=mT 172 [] true [.agg gk.sig,.one (.ints .u32),.one (.int .i64),.one (.int .u32),.one (.int .u64)] [] (λa r=>MR (gk.of (aC a 0)) (c9 .u32 a 1) (au a 2) (au a 3) (au a 4)) (λX=>.dw [.agg (gk.cells (X.1)),.sl 4 (.ao .cu (X.2)) true]) (λX=>[])
theorem Z9c:bu pG Zes:=oT (.cons Uc (.cons X5 (.cons Zaw (.nil)))) Tryz.func172 Tryz.call172 [.sl (.ao .cu) true] [] 2
def Qc(n:iq)(m:List Int)(port v fw:Int):Tree (iq×(List ir)):=
.br (port==7) (.lf ({Frame:=v,F7:=n.F7,D2:=n.D2,D5:=n.D5,C3:=n.C3,F8:=n.F8},[])) (.br (port==8) (.lf ({Frame:=n.Frame,F7:=v,D2:=n.D2,D5:=n.D5,C3:=n.C3,F8:=n.F8},[])) (.br (port !=9) (.lf (n,[])) (.br (v==0) (.lf ({Frame:=n.Frame,F7:=n.F7,D2:=n.D2,D5:=n.D5,C3:=false,F8:=0},[])) (let T1:Tree ((iq×(List ir))):=.br (v==2) (.lv (uz m n.Frame) λ(x2:Bool)=>.br x2 (.br (!n.D2) (.br (!n.C3) (.lf ({Frame:=n.Frame,F7:=n.F7,D2:=true,D5:=n.Frame,C3:=n.C3,F8:=n.F8},[])) (.lf (n,[]))) (.lf (n,[]))) (.lf (n,[]))) (.lf (n,[]));.br (v==1) (.br (decide (n.F7>=1)) (.br (decide (n.F7<=128)) (.lv (uz m n.Frame) λ(x0:Bool)=>.br x0 (.an (TB m (wrap i64 n.Frame)) (.lv (EO m (wrap i64 n.Frame)) λ(x1:List UInt8×Bool)=>.cn (decide ((0:Int)<=(0:Int)/\0<=n.F7/\n.F7<=(x1.1.length:Int))) (.lf (n,[{C2:=2,At:=fw,C8:=0,F0:=cU (dA n.F7-dA 0) (cV (dA 0) x1.1)}])))) T1) T1) T1) T1))))
def Qso n m port v fw:=(Qc n m port v fw).m
abbrev Qv2 n m port v fw:=(Qc n m port v fw).p
def Zm7:bd:=mT 173 [] true [.agg iq.sig,.one (.ints .u32),.one (.int .i64),.one (.int .u32),.one (.int .u64)] [] (λa r=>Qc (iq.of (aC a 0)) (c9 .u32 a 1) (au a 2) (au a 3) (au a 4)) (λX=>.dw [.agg (iq.cells (X.1)),.sl 4 (.ao .cu (X.2)) true]) (λX=>[])
theorem Zg3:bu pG Zm7:=oT (.cons Uc (.cons X5 (.nil))) Tryz.func173 Tryz.call173 [.sl (.ao .cu) true] [] 2
def Qne(b:ie)(m:List Int)(port v:Int)(z:(Int)×(List Int)):Nat:=(32-z.1).toNat
def BT(b:ie)(m:List Int)(port v:Int):Tree (ie×(List Int)):=
let T1:Tree ((ie×(List Int))):=.br (port==11) (.br (decide (v<32)) (.cn (decide (0<=v)) (.lf ({A2:=b.A2,D1:=oA u32 b.D1 (ei u32 1 v)},m))) (.lf (b,m))) (.lf (b,m));.br (port==10) (.lv (uz m v) λ(x0:Bool)=>.br x0 (.cn (decide (0<=v)) (.br (bm u32 (bn u32 b.D1 v) (1:Int)==(0:Int)) (.cn (decide (0<=v)) (.lp inferInstance (Qne b m port v (0,m)+1) ((True/\rE (v:Int)/\rZ/\rZ/\rE (0:Int)/\True)/\rE (m:List Int)/\(rE b.A2/\rE ((ja u32 b.D1 (ei u32 1 v)):Int)/\True)/\(rE (0:Int)/\rE (0:Int)/\True)/\True) (0,m) λ(v0:Int×List Int)=>.br (decide (v0.1<32)) (let E2:=wrap i64 (wrap i64 v*32)+v0.1;.cn (bX 1 1&&bN 0 1&&decide (0<=wrap i64 E2/\wrap i64 E2<(v0.2.length:Int))) (.nx ((True/\rE (v:Int)/\rZ/\rZ/\rE ((wrap i64 (v0.1+1)):Int)/\True)/\rE ((dB v0.2 (dA (wrap i64 (wrap i64 (wrap i64 v*32)+v0.1))) 0):List Int)/\(rE b.A2/\rE ((ja u32 b.D1 (ei u32 1 v)):Int)/\True)/\(rE (0:Int)/\rE (0:Int)/\True)/\True) (Sum.inl (wrap i64 (v0.1+1),dB v0.2 (dA (wrap i64 E2)) 0)))) (.lf (Sum.inr ({A2:=b.A2,D1:=ja u32 b.D1 (ei u32 1 v)},v0.2))))) T1)) T1) T1
def BU b m port v:=(BT b m port v).m
abbrev Z0m b m port v:=(BT b m port v).p
def Zqg:bw:={
 α:=(Int)×(List Int)
 F:=λst a=>([(1,.all 0),(3,(lk st 3)),(4,.ptr 1 0 0),(8,.ptr 2 0 0),(9,.int i64 a.1)],[⟨false,25,1,.ints u32 a.2⟩,⟨true,40,2,.gen [[(cT st 4 0),(cT st 4 1)]]⟩,⟨true,40,2,.gen [[(cT st 8 0),(cT st 8 1)]]⟩])
 a0:=λst=>((lk st 9).toInt,(nS st.rows 0))
 iU:=λst=>[0]++[(rX st 4 1),(rX st 8 2)]}
def Zgg:List (Nat×bw):=[(4,Zqg)]
def Zta:bd:=mT 174 [false,true,false,false] true [.agg ie.sig,.one (.row 0),.one (.int .i64),.one (.int .u32)] [.arr 25 1 (.ints .u32)] (λa r=>BT (ie.of (aC a 0)) (mA .u32 r 0) (au a 2) (au a 3)) (λX=>.agg (ie.cells (X.1))) (λX=>[⟨false,25,1,.ints .u32 (X.2)⟩])
theorem Znx:bu pG Zta:=oT (.cons Uc (.nil)) Tryz.func174 Tryz.call174 [] Zgg 3
def LQ(m:bj)(port v:Int):Tree ((List ir)×bj):=
.br (port==0) (.lf ([{C2:=1,At:=m.B9,C8:=0,F0:=[(λ(n:Int)=>UInt8.ofNat n.toNat) (wrap u8 v)]}],m)) (.br (decide (port<=2)) (.lf ([],m)) (.br (port==3) (.lv (Z95 v) λ(x0:jx)=>.lf ([],{B2:=m.B2,Mem:=m.Mem,B3:=m.B3,C1:=x0,B6:=m.B6,D4:=m.D4,B0:=m.B0,B9:=m.B9,B4:=m.B4,B8:=m.B8})) (.br (decide (port<=6)) (.an (Qt4 m.B6 m.Mem port v m.B9) (.lv (Qop m.B6 m.Mem port v m.B9) λ(x1:gk×List ir)=>.lf (x1.2,{B2:=m.B2,Mem:=m.Mem,B3:=m.B3,C1:=m.C1,B6:=x1.1,D4:=m.D4,B0:=m.B0,B9:=m.B9,B4:=m.B4,B8:=m.B8}))) (.br (decide (port<=9)) (.an (Qv2 m.D4 m.Mem port v m.B9) (.lv (Qso m.D4 m.Mem port v m.B9) λ(x2:iq×List ir)=>.lf (x2.2,{B2:=m.B2,Mem:=m.Mem,B3:=m.B3,C1:=m.C1,B6:=m.B6,D4:=x2.1,B0:=m.B0,B9:=m.B9,B4:=m.B4,B8:=m.B8}))) (.an (Z0m m.B0 m.Mem port v) (.lv (BU m.B0 m.Mem port v) λ(x3:ie×List Int)=>.lf ([],{B2:=m.B2,Mem:=x3.2,B3:=m.B3,C1:=m.C1,B6:=m.B6,D4:=m.D4,B0:=x3.1,B9:=m.B9,B4:=m.B4,B8:=m.B8})))))))
def FR m port v:=(LQ m port v).m
abbrev Z5x m port v:=(LQ m port v).p
def Zxl:bd:=mT 122 [true,false,false] true [.ptr 0,.one (.int .i64),.one (.int .u32)] [.box 43 49 (bj.kA (.row 1)),.arr 25 1 (.ints .u32)] (λa r=>LQ (bj.og (r.getD 0 default).cs (mA .u32 r 1)) (au a 1) (au a 2)) (λX=>.sl 4 (.ao .cu (X.1)) true) (λX=>[⟨true,43,49,.gen [(bj.cg (X.2) (.all 1))]⟩,⟨false,25,1,.ints .u32 (X.2).Mem⟩])
theorem Zu0:bu pG Zxl:=oT (.cons Ztu (.cons Z9c (.cons Zg3 (.cons Znx (.nil))))) Tryz.func122 Tryz.call122 [.sl (.ao .cu) true,.row 25 1 (.ints .u32)] [] 2
def OT(m:bj)(clock:Int):Tree ((List ir)×bj):=
.an (Qco m) (.lv (r6 m) λ(x0:cq)=>.an (Zds x0 m.Mem) (.lv (BS x0 m.Mem) λ(x1:cq×ma×List Int)=>let E1:=({B2:=x1.1,Mem:=x1.2.2,B3:=m.B3,C1:=m.C1,B6:=m.B6,D4:=m.D4,B0:=m.B0,B9:=m.B9,B4:=false,B8:=m.B8}:bj);.br (x1.2.1.C2==1) (.lv (EU E1 x1.2.1.F1 clock) λ(x2:Int×bj)=>.an (Ev x2.2.B2 x1.2.1.F9 x2.1) (.lv (mf x2.2.B2 x1.2.1.F9 x2.1) λ(x3:cq)=>.lf ([],{B2:=x3,Mem:=x2.2.Mem,B3:=x2.2.B3,C1:=x2.2.C1,B6:=x2.2.B6,D4:=x2.2.D4,B0:=x2.2.B0,B9:=wrap u64 (x2.2.B9+1),B4:=x2.2.B4,B8:=x2.2.B8}))) (.br (x1.2.1.C2==2) (.an (Z5x E1 x1.2.1.F1 x1.2.1.Value) (.lv (FR E1 x1.2.1.F1 x1.2.1.Value) λ(x4:List ir×bj)=>.lf (x4.1,{B2:=x4.2.B2,Mem:=x4.2.Mem,B3:=x4.2.B3,C1:=x4.2.C1,B6:=x4.2.B6,D4:=x4.2.D4,B0:=x4.2.B0,B9:=wrap u64 (x4.2.B9+1),B4:=x4.2.B4,B8:=x4.2.B8}))) (.br (x1.2.1.C2==3) (.lf ([],{B2:=x1.1,Mem:=x1.2.2,B3:=m.B3,C1:=m.C1,B6:=m.B6,D4:=m.D4,B0:=m.B0,B9:=wrap u64 (m.B9+1),B4:=true,B8:=m.B8})) (.br (x1.2.1.C2==4) (.lf ([],{B2:=x1.1,Mem:=x1.2.2,B3:=m.B3,C1:=m.C1,B6:=m.B6,D4:=m.D4,B0:=m.B0,B9:=wrap u64 (m.B9+1),B4:=false,B8:=true})) (.lf ([],{B2:=x1.1,Mem:=x1.2.2,B3:=m.B3,C1:=m.C1,B6:=m.B6,D4:=m.D4,B0:=m.B0,B9:=wrap u64 (m.B9+1),B4:=false,B8:=m.B8})))))))
def Bi m clock:=(OT m clock).m
abbrev Qjm m clock:=(OT m clock).p
def Zf0:bd:=mT 76 [true,false] true [.ptr 0,.one (.int .u32)] [.box 43 49 (bj.kA (.row 1)),.arr 25 1 (.ints .u32)] (λa r=>OT (bj.og (r.getD 0 default).cs (mA .u32 r 1)) (au a 1)) (λX=>.sl 4 (.ao .cu (X.1)) true) (λX=>[⟨true,43,49,.gen [(bj.cg (X.2) (.all 1))]⟩,⟨false,25,1,.ints .u32 (X.2).Mem⟩])
theorem Qvl:bu pG Zf0:=oT (.cons Qn (.cons Zzk (.cons Zwz (.cons Uo (.cons Zu0 (.nil)))))) Tryz.func76 Tryz.call76 [.sl (.ao .cu) true,.row 25 1 (.ints .u32)] [] 2

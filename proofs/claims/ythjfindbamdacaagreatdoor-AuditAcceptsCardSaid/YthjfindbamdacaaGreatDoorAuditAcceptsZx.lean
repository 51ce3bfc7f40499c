import Derived.Test.YthjfindbamdacaaGreatDoorAuditAcceptsYz
open Nat renaming blt->bJ,beq->bT,lt_succ_self->cO
open List renaming length->dK,replicate->cQ,take->dB,drop->dC,set->dG,getD->aK
open Int renaming toNat->dF,tdiv->eU,tmod->dE
open UInt8 renaming ofNat->eY,toNat->eW
set_option maxRecDepth 100000
set_option linter.all false
namespace Go.Proofs.YthjfindbamdacaaGreatDoor
open Go Go.GD Go.IntKind
noncomputable section
def Mm(m:List Int):Tree (List Int):=
.cn (bJ (0:Nat) (1:Nat)&&bT (1:Nat) (1:Nat)&&List.all [D.int u32 (0:Int)] D.plain&&decide ((0:Int)<=(m.length:Int)/\(m.length:Int)<=(m.length:Int)/\(m.length:Int)<=(9223372036854775807:Int)/\(↑(4:Nat):Int)*(m.length:Int)<=(140737488355328:Int))) (let E1:=dK (cQ (dF (m.length:Int)) (0:Int));.lf (dB (Min.min (m.length) E1) m++dC (Min.min (m.length) E1) (cQ (dF (m.length:Int)) (0:Int))))
def YH m:=(Mm m).m
abbrev Qwx m:=(Mm m).p
def Znn:bf:=mT 141 [] true [.one (.ints .u32)] [] (λa r=>Mm (eg .u32 a 0)) (λX=>.all 0) (λX=>[⟨false,23,1,.ints .u32 X⟩])
theorem Zje:bj pG Znn:=oT (.nil) Tryz.func141 Tryz.call141 [.row 23 1 (.ints .u32)] [] 2
def GU(m:av):Tree av:=
.an (Qwx m.Mem) (.lv (YH m.Mem) λ(x0:List Int)=>.lf ({B0:=m.B0,Mem:=x0,A3:=m.A3,A9:=m.A9,A7:=m.A7,C1:=m.C1,A2:=m.A2,A1:=m.A1,A4:=m.A4,A6:=m.A6}))
def Hv m:=(GU m).m
abbrev Nn m:=(GU m).p
def Zre:bf:=mT 87 [] true [.agg av.sig] [] (λa r=>GU (av.of (aC a 0))) (λX=>.agg (av.ff X (.all 0))) (λX=>[⟨false,23,1,.ints .u32 X.Mem⟩])
theorem Wa:bj pG Zre:=oT (.cons Zje (.nil)) Tryz.func87 Tryz.call87 [.row 23 1 (.ints .u32)] [] 2
def Qtg(n k:Int)(z:(Int)×(List Int)):Prop:=0<=z.1/\(z.2.length:Int)=z.1/\(z.1<=k\/z.1=0)
def Qjd(n k:Int)(z:(Int)×(List Int)):Nat:=(k-z.1).toNat
def Wn(n k:Int):Tree (List UInt8):=
.lp inferInstance (Qjd n k (0,[])+1) ((rE (n:Int)/\rE (k:Int)/\True/\rE (0:Int)/\True)/\rE ([]:List Int)/\True) (0,[]) λ(v0:Int×List Int)=>.br (decide (v0.1<k)) (.lv (Bd n (wrap i64 (eU v0.1 9))) λ(x0:Int)=>.cn (decide (1*(v0.2.length+1)<=140737488355328)) (.nx ((rE (n:Int)/\rE (k:Int)/\True/\rE ((wrap i64 (v0.1+1)):Int)/\True)/\rE ((v0.2++[wrap u8 x0]):List Int)/\True) (Sum.inl (wrap i64 (v0.1+1),v0.2++[wrap u8 x0])))) (.lf (Sum.inr (bytesOf v0.2)))
def Z3j n k:=(Wn n k).m
def Na(n k:Int):Prop:=
k<=1000000000000
theorem Zek(n k:Int)(hw:Na n k):(Wn n k).p:=by
 simp only[Na]at hw
 unfold Tree.p Wn
 repeat'(first|refine fi (inv:=Qtg n k) (μ:=Qjd n k) ?_ (cO _) (λ_ _=>?_)|exact trivial|refine aa (λ_=>?_) (λ_=>?_)|refine au ?_ ?_|refine cj ?_ ?_|refine aq (λ_ _=>?_)|refine ea ?_|refine dc ?_|refine And.intro ?_ ?_)
 all_goals((try simp only[Qtg,Qjd]at*);exact nY)
def Zim:bn:={
 α:=(Int)×(List Int)
 F:=λst a=>([(0,(lk st 0)),(1,(lk st 1)),(5,.all 0),(6,.int i64 a.1)],[⟨false,5,1,.ints u8 a.2⟩])
 a0:=λst=>((lk st 6).toInt,(mG st.rows (rN st 5)))
 iL:=λst=>[]++[(rX st 5 0)]}
def Z7y:List (Nat×bn):=[(3,Zim)]
def Zmm:bf:=mP 20 [] true [.one (.int .i64),.one (.int .i64)] [] (λa r=>Na (ar a 0) (ar a 1)) (λa r=>Z3j (ar a 0) (ar a 1)) (λX=>.str X) (λX=>[])
theorem Zjk:bj pG Zmm:=ue drawn mQ (.cons V2 (.nil)) Tryz.func20 Tryz.call20 (λa r=>Wn (ar a 0) (ar a 1)) [] Z7y 3 (hp:=λa r h=>Zek (ar a 0) (ar a 1) h)
def Mv(r:dj):Tree dj:=
.an (Nn r.A0) (.lv (Hv r.A0) λ(x0:av)=>.cn (decide (40*(0+r.C8.length)<=140737488355328)) (.cn (decide (32*(0+r.B1.length)<=140737488355328)) (.lf ({A0:=x0,B4:=r.B4,C8:=r.C8,B1:=r.B1}))))
def UC r:=(Mv r).m
abbrev Qmm r:=(Mv r).p
def Zmv:bf:=mT 262 [] true [.agg dj.sig] [] (λa r=>Mv (dj.of (aC a 0))) (λX=>.agg (dj.ff X (.all 0) (.all 1) (.all 2))) (λX=>[⟨false,23,1,.ints .u32 X.A0.Mem⟩,⟨false,103,4,.ax .ab X.C8⟩,⟨false,72,3,.ax .bc X.B1⟩])
theorem Z13:bj pG Zmv:=oT (.cons Wa (.nil)) Tryz.func262 Tryz.call262 [.row 23 1 (.ints .u32),.row 103 4 (.ax .ab),.row 72 3 (.ax .bc)] [] 2
def Qxe(e:ib):Tree Bool:=
.br (e.C0==1) (.lf (decide (e.D0=[]))) (.br (e.C0==6) (.lf (decide (e.D0=[]))) (.br (e.C0==2) (.br (e.N==0) (.lf (decide (e.D0=[]))) (.lf false)) (.br (e.C0==3) (.br (decide (e.N<=255)) (.lf (decide (e.D0=[]))) (.lf false)) (.br (e.C0==4) (.br (decide (e.N<=1)) (.br (decide (e.D0=[])) (.lf true) (.br (e.N==1) (.lf ((e.D0.length:Int)==(128:Int))) (.lf false))) (.lf false)) (.br (e.C0==5) (.br (e.N==0) (.br (decide ((e.D0.length:Int)>=(1:Int))) (.lf (decide ((e.D0.length:Int)<=(128:Int)))) (.lf false)) (.lf false)) (.lf false))))))
def Qe e:=(Qxe e).m
def Ze4:bf:=mS 263 [] true [.agg ib.sig] [] (λa r=>Qxe (ib.of (aC a 0))) (λX=>.bool X) (λX=>[])
theorem Z83:bj pG Ze4:=oS (.nil) Tryz.func263 Tryz.call263 [] [] 2
def Mw(r:dj)(e:ib):Tree (dj×Bool):=
.an (Qmm r) (.lv (UC r) λ(x0:dj)=>.lv (Qe e) λ(x1:Bool)=>.br (!x1) (.lf (x0,false)) (.br (e.C0==1) (.lf (x0,false)) (.br (decide ((x0.B1.length:Int)>=(16:Int))) (.lf (x0,false)) (.cn (decide (32*(x0.B1.length+1)<=140737488355328)) (.lf ({A0:=x0.A0,B4:=x0.B4,C8:=x0.C8,B1:=x0.B1++[e]},true))))))
def EE r e:=(Mw r e).m
abbrev Qo6 r e:=(Mw r e).p
def Z8m:bf:=mT 200 [] true [.agg dj.sig,.agg ib.sig] [] (λa r=>Mw (dj.of (aC a 0)) (ib.of (aC a 1))) (λX=>.dt [.agg (dj.ff (X.1) (.all 0) (.all 1) (.all 2)),.bool (X.2)]) (λX=>[⟨false,23,1,.ints .u32 (X.1).A0.Mem⟩,⟨false,103,4,.ax .ab (X.1).C8⟩,⟨false,72,3,.ax .bc (X.1).B1⟩])
theorem Z6r:bj pG Z8m:=oT (.cons Z13 (.cons Z83 (.nil))) Tryz.func200 Tryz.call200 [.row 23 1 (.ints .u32),.row 103 4 (.ax .ab),.row 72 3 (.ax .bc)] [] 2
def Sc(n:Int):Tree ib:=
.lv (Bd n 2) λ(x0:Int)=>.br (dE x0 (7:Int)==(0:Int)) (.lf ({C0:=2,N:=0,D0:=[]})) (.br (dE x0 (7:Int)==(1:Int)) (.lf ({C0:=3,N:=wrap u32 (bd i64 (bg i64 x0 8) 255),D0:=[]})) (.br (dE x0 (7:Int)==(2:Int)) (.lf ({C0:=3,N:=wrap u32 (bd i64 (bg i64 x0 8) 255),D0:=[]})) (.br (dE x0 (7:Int)==(3:Int)) (.lf ({C0:=4,N:=1,D0:=[]})) (.br (dE x0 (7:Int)==(4:Int)) (.an (Na x0 128) (.lv (Z3j x0 128) λ(x1:List UInt8)=>.lf ({C0:=4,N:=1,D0:=x1}))) (.br (dE x0 (7:Int)==(5:Int)) (let E1:=wrap i64 (1+dE (bg i64 x0 8) 40);.an (Na x0 E1) (.lv (Z3j x0 E1) λ(x2:List UInt8)=>.lf ({C0:=5,N:=0,D0:=x2}))) (.br (dE (bg i64 x0 8) (4:Int)==(0:Int)) (.lf ({C0:=4,N:=0,D0:=[]})) (.lf ({C0:=6,N:=wrap u32 (dE (bg i64 x0 8) 3),D0:=[]}))))))))
def Ph n:=(Sc n).m
abbrev Qtb n:=(Sc n).p
def Zks:bf:=mT 28 [] true [.one (.int .i64)] [] (λa r=>Sc (ar a 0)) (λX=>.agg (ib.cells X)) (λX=>[])
theorem Zfa:bj pG Zks:=oT (.cons V2 (.cons Zjk (.nil))) Tryz.func28 Tryz.call28 [] [] 2
def Qq4(m:List Int):Tree Int:=
.br (dE (m.length:Int) (32:Int) !=(0:Int)) (.lf 0) (.br (decide ((m.length:Int)>(1024:Int))) (.lf 0) (.lf (wrap i64 (eU (m.length:Int) 32))))
def wX m:=(Qq4 m).m
def Ziv:bf:=mS 157 [] true [.one (.ints .u32)] [] (λa r=>Qq4 (eg .u32 a 0)) (λX=>.int .i64 X) (λX=>[])
theorem SD:bj pG Ziv:=oS (.nil) Tryz.func157 Tryz.call157 [] [] 2
def Qm9(c:iY):Tree Bool:=
.lf (decide ((c.C9.length:Int)<=(16:Int)))
def Qi1 c:=(Qm9 c).m
def Qzf:bf:=mS 158 [] true [.agg iY.sig] [] (λa r=>Qm9 (iY.of (aC a 0))) (λX=>.bool X) (λX=>[])
theorem Qvy:bj pG Qzf:=oS (.nil) Tryz.func158 Tryz.call158 [] [] 2
def Yi(t:iZ):Tree Bool:=
.br t.D3 (.br t.D2 (.lf false) (.br t.D3 (.lf (t.C3 !=0)) (.br t.D2 (.lf true) (.lf (t.C3==0))))) (.br t.D3 (.lf (t.C3 !=0)) (.br t.D2 (.lf true) (.lf (t.C3==0))))
def Ul t:=(Yi t).m
def Z5i:bf:=mS 159 [] true [.agg iZ.sig] [] (λa r=>Yi (iZ.of (aC a 0))) (λX=>.bool X) (λX=>[])
theorem Z2q:bj pG Z5i:=oS (.nil) Tryz.func159 Tryz.call159 [] [] 2
def Yk(d0:fv)(c8:Int):Tree Bool:=
.br (decide (d0.ag>64)) (.lf false) (.br (decide (d0.B8<0)) (.lf false) (.br (decide (d0.B8>3)) (.lf false) (.br (d0.B8 !=1) (.br (d0.D5==0) (.br (d0.B6==0) (.br (d0.B2==0) (.lf (decide (d0.B7=[]))) (.lf false)) (.lf false)) (.lf false)) (.br (decide (d0.B6>=d0.ag)) (.lf false) (.br (decide (wrap i64 d0.B2>=c8)) (.lf false) (.br (d0.D5==1) (.br (decide (d0.B7=[])) (.lf true) (.br (d0.D5==2) (.lf ((d0.B7.length:Int)==(128:Int))) (.lf false))) (.br (d0.D5==2) (.lf ((d0.B7.length:Int)==(128:Int))) (.lf false))))))))
def Un d0 c8:=(Yk d0 c8).m
def Z9b:bf:=mS 160 [] true [.agg fv.sig,.one (.int .i64)] [] (λa r=>Yk (fv.of (aC a 0)) (ar a 1)) (λX=>.bool X) (λX=>[])
theorem Z6s:bj pG Z9b:=oS (.nil) Tryz.func160 Tryz.call160 [] [] 2
def Yj(n:ik)(c8:Int):Tree Bool:=
let T1:Tree (Bool):=.br n.B5 (.br (decide (n.F0>=1)) (.lf (decide (n.F0<=128))) (.lf false)) (.lf (n.F0==0));.br n.C5 (.br n.B5 (.lf false) (.br (decide (wrap i64 n.B9>=c8)) (.lf false) (.br (!n.C5) (.br (n.B9 !=0) (.lf false) T1) T1))) (.br (!n.C5) (.br (n.B9 !=0) (.lf false) T1) T1)
def Um n c8:=(Yj n c8).m
def Zdf:bf:=mS 161 [] true [.agg ik.sig,.one (.int .i64)] [] (λa r=>Yj (ik.of (aC a 0)) (ar a 1)) (λX=>.bool X) (λX=>[])
theorem Z9h:bj pG Zdf:=oS (.nil) Tryz.func161 Tryz.call161 [] [] 2
def Qgg(b:iu)(c8:Int)(z:(Int)):Prop:=0<=z/\z<=32
def Ur(b:iu)(c8:Int)(z:(Int)):Nat:=(32-z).toNat
def Mg(b:iu)(c8:Int):Tree Bool:=
.lp inferInstance (Ur b c8 0+1) ((rE (c8:Int)/\rZ/\rE (0:Int)/\True)/\(rE b.C7/\rE b.C4/\True)/\True) 0 λ(v0:Int)=>.br (decide (v0<32)) (.cn (decide (0<=wrap u64 v0)) (let T1:Tree ((Int)⊕(Bool)):=.nx ((rE (c8:Int)/\rZ/\rE ((wrap i64 (v0+1)):Int)/\True)/\(rE b.C7/\rE b.C4/\True)/\True) (Sum.inl (wrap i64 (v0+1)));.br (bd u32 (bg u32 b.C4 (wrap u64 v0)) (1:Int)==(1:Int)) (.br (decide (v0>=c8)) (.lf (Sum.inr false)) T1) T1)) (.lf (Sum.inr true))
def Us b c8:=(Mg b c8).m
theorem Qtq(b:iu)(c8:Int):(Mg b c8).p:=by
 unfold Tree.p Mg
 repeat'(first|refine fi (inv:=Qgg b c8) (μ:=Ur b c8) ?_ (cO _) (λ_ _=>?_)|exact trivial|refine aa (λ_=>?_) (λ_=>?_)|refine au ?_ ?_|refine cj ?_ ?_|refine aq (λ_ _=>?_)|refine ea ?_|refine dc ?_|refine And.intro ?_ ?_)
 all_goals((try simp only[Qgg,Ur]at*);exact nY)
def Qw0:bn:={
 α:=(Int)
 F:=λst a=>([(1,(lk st 1)),(2,.ptr 0 0 0),(5,.int i64 a)],[⟨true,39,2,.gen [[(cT st 2 0),(cT st 2 1)]]⟩])
 a0:=λst=>(lk st 5).toInt
 iL:=λst=>[]++[(rX st 2 0)]}
def Qs0:List (Nat×bn):=[(2,Qw0)]
def Qyr:bf:=mS 162 [] true [.agg iu.sig,.one (.int .i64)] [] (λa r=>Mg (iu.of (aC a 0)) (ar a 1)) (λX=>.bool X) (λX=>[])
theorem Qv3:bj pG Qyr:=oS (.nil) Tryz.func162 Tryz.call162 [] Qs0 3 (λ_ _ _=>by kernel_rfl) (λa r=>Qtq (iu.of (aC a 0)) (ar a 1)) (λ_ X=>by kernel_rfl)
def Yz(m:av):Tree Bool:=
.lv (wX m.Mem) λ(x0:Int)=>.br (decide (x0<1)) (.lf false) (.br (m.B0.X.a0 !=0) (.lf false) (.br (decide (m.B0.B3.a0>31)) (.lf false) (.br (decide (m.B0.B3.a7>31)) (.lf false) (.br (decide (m.B0.B3.a6>255)) (.lf false) (.br (dE m.B0.B3.a1 (4:Int) !=(0:Int)) (.lf false) (.lv (Qi1 m.A3) λ(x1:Bool)=>.br (!x1) (.lf false) (.lv (Ul m.A9) λ(x2:Bool)=>.br (!x2) (.lf false) (.lv (Un m.A7 x0) λ(x3:Bool)=>.br (!x3) (.lf false) (.lv (Um m.C1 x0) λ(x4:Bool)=>.br (!x4) (.lf false) (.lv (Us m.A2 x0) λ(x5:Bool)=>.br (!x5) (.lf false) (.br (decide (m.A1<=1152921504606846976)) (.br m.A4 (.lf (!m.A6)) (.lf true)) (.lf false))))))))))))
def o9 m:=(Yz m).m
def Zsz:bf:=mS 101 [] true [.agg av.sig] [] (λa r=>Yz (av.of (aC a 0))) (λX=>.bool X) (λX=>[])
theorem Wd:bj pG Zsz:=oS (.cons SD (.cons Qvy (.cons Z2q (.cons Z6s (.cons Z9h (.cons Qv3 (.nil))))))) Tryz.func101 Tryz.call101 [] [] 2
def UH(t:iZ):Tree (iZ×Bool):=
.br (!t.D3) (.lf (t,false)) (.lf ({D3:=false,C3:=t.C3,D2:=true},true))
def Uz t:=(UH t).m
def Zni:bf:=mS 163 [] true [.agg iZ.sig] [] (λa r=>UH (iZ.of (aC a 0))) (λX=>.dt [.agg (iZ.cells (X.1)),.bool (X.2)]) (λX=>[])
theorem Z04:bj pG Zni:=oS (.nil) Tryz.func163 Tryz.call163 [] [] 2
def Sb(c:iY)(b:Int):Tree (iY×Bool):=
.br (decide ((c.C9.length:Int)>=(16:Int))) (.lf (c,false)) (.cn (decide (c.C9.length+1<=maxLen)) (.lf ({C9:=c.C9++[(λ(n:Int)=>eY n.toNat) b]},true)))
def YM c b:=(Sb c b).m
abbrev Qmz c b:=(Sb c b).p
def Zn5:bf:=mT 164 [] true [.agg iY.sig,.one (.int .u8)] [] (λa r=>Sb (iY.of (aC a 0)) (ar a 1)) (λX=>.dt [.agg (iY.cells (X.1)),.bool (X.2)]) (λX=>[])
theorem Z0d:bj pG Zn5:=oT (.nil) Tryz.func164 Tryz.call164 [] [] 2
def O3(m:List Int)(frame:Int):Tree Bool:=
.lv (wX m) λ(x0:Int)=>.lf (decide (wrap u64 frame<wrap u64 x0))
def ob m frame:=(O3 m frame).m
def Zm3:bf:=mS 237 [] true [.one (.ints .u32),.one (.int .u32)] [] (λa r=>O3 (eg .u32 a 0) (ar a 1)) (λX=>.bool X) (λX=>[])
theorem SE:bj pG Zm3:=oS (.cons SD (.nil)) Tryz.func237 Tryz.call237 [] [] 2
def Jp(m:List Int)(addr size v:Int):Tree (List Int):=
let E1:=bT 1 1&&bJ 0 1&&decide (0<=wrap u32 (eU addr 4)/\wrap u32 (eU addr 4)<(m.length:Int));let E2:=dF (wrap u32 (eU addr 4));.br (size==4) (.cn E1 (.lf (dG m E2 v))) (.cn E1 (let E3:=decide (0<=wrap u32 (8*dE addr 4));.cn E3 (.cn E3 (.cn E1 (.lf (dG m E2 (ij u32 (oa u32 (m.getD E2 0) (ek u32 255 (wrap u32 (8*dE addr 4)))) (ek u32 (bd u32 v 255) (wrap u32 (8*dE addr 4))))))))))
def BC m addr size v:=(Jp m addr size v).m
abbrev TZ m addr size v:=(Jp m addr size v).p
def Zr6:bf:=mT 278 [true,false,false,false] true [.one (.row 0),.one (.int .u32),.one (.int .i64),.one (.int .u32)] [.arr 23 1 (.ints .u32)] (λa r=>Jp (gj .u32 r 0) (ar a 1) (ar a 2) (ar a 3)) (λX=>.dt []) (λX=>[⟨false,23,1,.ints .u32 X⟩])
theorem Z6v:bj pG Zr6:=oT (.nil) Tryz.func278 Tryz.call278 [] [] 2
def X0(m:List Int)(frame:Int)(s:List UInt8)(z:(Int)×(List Int)):Nat:=(128-z.1).toNat
def He(m:List Int)(frame:Int)(s:List UInt8):Tree (List Int):=
.lp inferInstance (X0 m frame s (0,m)+1) ((True/\rE (frame:Int)/\rE (s:List UInt8)/\rE (0:Int)/\True)/\rE (m:List Int)/\True) (0,m) λ(v0:Int×List Int)=>.br (decide (v0.1<(s.length:Int))) (.br (decide (v0.1<128)) (.cn (decide (0<=v0.1/\v0.1<(s.length:Int))) (let E1:=wrap u32 (↑(eW (s.getD v0.1.toNat (0:UInt8))):Int);let E2:=wrap u32 (wrap i64 (wrap i64 (frame*128)+v0.1));.an (TZ v0.2 E2 1 E1) (.lv (BC v0.2 E2 1 E1) λ(x0:List Int)=>.nx ((True/\rE (frame:Int)/\rE (s:List UInt8)/\rE ((wrap i64 (v0.1+1)):Int)/\True)/\rE (x0:List Int)/\True) (Sum.inl (wrap i64 (v0.1+1),x0))))) (.lf (Sum.inr v0.2))) (.lf (Sum.inr v0.2))
def OK m frame s:=(He m frame s).m
abbrev Qmo m frame s:=(He m frame s).p
def Zkf:bn:={
 α:=(Int)×(List Int)
 F:=λst a=>([(0,.all 0),(1,(lk st 1)),(2,(lk st 2)),(6,.int i64 a.1)],[⟨false,23,1,.ints u32 a.2⟩])
 a0:=λst=>((lk st 6).toInt,(mG st.rows 0))
 iL:=λst=>[0]++[]}
def Z9:List (Nat×bn):=[(1,Zkf)]
def Zno:bf:=mT 238 [true,false,false] true [.one (.row 0),.one (.int .i64),.one (.str)] [.arr 23 1 (.ints .u32)] (λa r=>He (gj .u32 r 0) (ar a 1) (gm a 2)) (λX=>.dt []) (λX=>[⟨false,23,1,.ints .u32 X⟩])
theorem Z11:bj pG Zno:=oT (.cons Z6v (.nil)) Tryz.func238 Tryz.call238 [] Z9 3
def Hq(d0:fv)(m:List Int)(e:ib):Tree (fv×Bool×(List Int)):=
.br (d0.B8 !=1) (.lf (d0,false,m)) (.br (e.C0 !=4) (.lf (d0,false,m)) (.br (decide (e.N>1)) (.lf (d0,false,m)) (let E4:=({ag:=d0.ag,C2:=d0.C2,Frame:=d0.Frame,B8:=2,D5:=0,B6:=0,B2:=0,B7:=[]}:fv);let E5:=({ag:=d0.ag,C2:=d0.C2,Frame:=d0.Frame,B8:=3,D5:=0,B6:=0,B2:=0,B7:=[]}:fv);let T2:Tree ((fv×Bool×(List Int))):=.br (e.N==1) (.lf (E4,true,m)) (.lf (E5,true,m));let E6:=decide ((e.D0.length:Int)>(0:Int));.br (e.N==1) (let T1:Tree ((fv×Bool×(List Int))):=.br (d0.D5==1) (.an (Qmo m (wrap i64 d0.B2) e.D0) (.lv (OK m (wrap i64 d0.B2) e.D0) λ(x1:List Int)=>.br (e.N==1) (.lf (E4,true,x1)) (.lf (E5,true,x1)))) T2;let T3:Tree ((fv×Bool×(List Int))):=.br (!d0.D5==1) (.br E6 (.lf (d0,false,m)) T1) T1;.br (d0.D5==1) (.br ((e.D0.length:Int) !=(128:Int)) (.lf (d0,false,m)) (.lv (ob m d0.B2) λ(x0:Bool)=>.br (!x0) (.lf (d0,false,m)) T3)) T3) (.br E6 (.lf (d0,false,m)) T2))))
def Jv d0 m e:=(Hq d0 m e).m
abbrev Qhv d0 m e:=(Hq d0 m e).p
def Zdp:bf:=mT 165 [false,true,false] true [.agg fv.sig,.one (.row 0),.agg ib.sig] [.arr 23 1 (.ints .u32)] (λa r=>Hq (fv.of (aC a 0)) (gj .u32 r 0) (ib.of (aC a 2))) (λX=>.dt [.agg (fv.cells (X.1)),.bool (X.2.1)]) (λX=>[⟨false,23,1,.ints .u32 (X.2.2)⟩])
theorem Qsk:bj pG Zdp:=oT (.cons SE (.cons Z11 (.nil))) Tryz.func165 Tryz.call165 [] [] 2
def Md(n:ik)(m:List Int)(frame:List UInt8):Tree (ik×Bool×(List Int)):=
.br (!n.C5) (.lf (n,false,m)) (.br (decide ((frame.length:Int)<(1:Int))) (.lf (n,false,m)) (.br (decide ((frame.length:Int)>(128:Int))) (.lf (n,false,m)) (.lv (ob m n.B9) λ(x0:Bool)=>.br (!x0) (.lf (n,false,m)) (.an (Qmo m (wrap i64 n.B9) frame) (.lv (OK m (wrap i64 n.B9) frame) λ(x1:List Int)=>.lf ({Frame:=n.Frame,D9:=n.D9,C5:=false,B9:=0,B5:=true,F0:=wrap u32 (frame.length:Int)},true,x1))))))
def Mc n m frame:=(Md n m frame).m
abbrev Qhy n m frame:=(Md n m frame).p
def Zci:bf:=mT 166 [false,true,false] true [.agg ik.sig,.one (.row 0),.one (.str)] [.arr 23 1 (.ints .u32)] (λa r=>Md (ik.of (aC a 0)) (gj .u32 r 0) (gm a 2)) (λX=>.dt [.agg (ik.cells (X.1)),.bool (X.2.1)]) (λX=>[⟨false,23,1,.ints .u32 (X.2.2)⟩])
theorem Qth:bj pG Zci:=oT (.cons SE (.cons Z11 (.nil))) Tryz.func166 Tryz.call166 [] [] 2
def FT(m:av)(e:ib):Tree (Bool×av):=
.br m.A6 (.lf (false,m)) (let T1:Tree ((Bool×av)):=.br (e.C0==4) (.an (Qhv m.A7 m.Mem e) (.lv (Jv m.A7 m.Mem e) λ(x2:fv×Bool×List Int)=>.lf (x2.2.1,{B0:=m.B0,Mem:=x2.2.2,A3:=m.A3,A9:=m.A9,A7:=x2.1,C1:=m.C1,A2:=m.A2,A1:=m.A1,A4:=m.A4,A6:=m.A6}))) (let T3:Tree ((Bool×av)):=.br (e.C0==6) (.br (decide (e.D0=[])) (.lf (true,{B0:=m.B0,Mem:=m.Mem,A3:=m.A3,A9:=m.A9,A7:=m.A7,C1:=m.C1,A2:={C7:=e.N,C4:=m.A2.C4},A1:=m.A1,A4:=m.A4,A6:=m.A6})) (.lf (false,m))) (.lf (false,m));.br (e.C0==5) (.br (e.N==0) (.an (Qhy m.C1 m.Mem e.D0) (.lv (Mc m.C1 m.Mem e.D0) λ(x3:ik×Bool×List Int)=>.lf (x3.2.1,{B0:=m.B0,Mem:=x3.2.2,A3:=m.A3,A9:=m.A9,A7:=m.A7,C1:=x3.1,A2:=m.A2,A1:=m.A1,A4:=m.A4,A6:=m.A6}))) T3) T3);let T2:Tree ((Bool×av)):=.br (e.C0==3) (.br (decide (e.N<=255)) (.br (decide (e.D0=[])) (.an (Qmz m.A3 (wrap u8 e.N)) (.lv (YM m.A3 (wrap u8 e.N)) λ(x1:iY×Bool)=>.lf (x1.2,{B0:=m.B0,Mem:=m.Mem,A3:=x1.1,A9:=m.A9,A7:=m.A7,C1:=m.C1,A2:=m.A2,A1:=m.A1,A4:=m.A4,A6:=m.A6}))) T1) T1) T1;.br (e.C0==2) (.br (e.N==0) (.br (decide (e.D0=[])) (.lv (Uz m.A9) λ(x0:iZ×Bool)=>.lf (x0.2,{B0:=m.B0,Mem:=m.Mem,A3:=m.A3,A9:=x0.1,A7:=m.A7,C1:=m.C1,A2:=m.A2,A1:=m.A1,A4:=m.A4,A6:=m.A6})) T2) T2) T2)
def Q1 m e:=(FT m e).m
abbrev Qkx m e:=(FT m e).p
def Zkm:bf:=mT 103 [true,false] true [.ptr 0,.agg ib.sig] [.box 42 49 (av.kZ (.row 1)),.arr 23 1 (.ints .u32)] (λa r=>FT (av.rA (r.getD 0 default).cs (gj .u32 r 1)) (ib.of (aC a 1))) (λX=>.bool (X.1)) (λX=>[⟨true,42,49,.gen [(av.ff (X.2) (.all 1))]⟩,⟨false,23,1,.ints .u32 (X.2).Mem⟩])
theorem Qwu:bj pG Zkm:=oT (.cons Z04 (.cons Z0d (.cons Qsk (.cons Qth (.nil))))) Tryz.func103 Tryz.call103 [.row 23 1 (.ints .u32)] [] 2
def Mq(m:dj)(e:ib):Tree (Bool×dj):=
.br m.A0.A6 (.lf (false,m)) (let T1:Tree ((Bool×dj)):=.br (e.C0==4) (.an (Qhv m.A0.A7 m.A0.Mem e) (.lv (Jv m.A0.A7 m.A0.Mem e) λ(x2:fv×Bool×List Int)=>.lf (x2.2.1,{A0:={B0:=m.A0.B0,Mem:=x2.2.2,A3:=m.A0.A3,A9:=m.A0.A9,A7:=x2.1,C1:=m.A0.C1,A2:=m.A0.A2,A1:=m.A0.A1,A4:=m.A0.A4,A6:=m.A0.A6},B4:=m.B4,C8:=m.C8,B1:=m.B1}))) (let T3:Tree ((Bool×dj)):=.br (e.C0==6) (.br (decide (e.D0=[])) (.lf (true,{A0:={B0:=m.A0.B0,Mem:=m.A0.Mem,A3:=m.A0.A3,A9:=m.A0.A9,A7:=m.A0.A7,C1:=m.A0.C1,A2:={C7:=e.N,C4:=m.A0.A2.C4},A1:=m.A0.A1,A4:=m.A0.A4,A6:=m.A0.A6},B4:=m.B4,C8:=m.C8,B1:=m.B1})) (.lf (false,m))) (.lf (false,m));.br (e.C0==5) (.br (e.N==0) (.an (Qhy m.A0.C1 m.A0.Mem e.D0) (.lv (Mc m.A0.C1 m.A0.Mem e.D0) λ(x3:ik×Bool×List Int)=>.lf (x3.2.1,{A0:={B0:=m.A0.B0,Mem:=x3.2.2,A3:=m.A0.A3,A9:=m.A0.A9,A7:=m.A0.A7,C1:=x3.1,A2:=m.A0.A2,A1:=m.A0.A1,A4:=m.A0.A4,A6:=m.A0.A6},B4:=m.B4,C8:=m.C8,B1:=m.B1}))) T3) T3);let T2:Tree ((Bool×dj)):=.br (e.C0==3) (.br (decide (e.N<=255)) (.br (decide (e.D0=[])) (.an (Qmz m.A0.A3 (wrap u8 e.N)) (.lv (YM m.A0.A3 (wrap u8 e.N)) λ(x1:iY×Bool)=>.lf (x1.2,{A0:={B0:=m.A0.B0,Mem:=m.A0.Mem,A3:=x1.1,A9:=m.A0.A9,A7:=m.A0.A7,C1:=m.A0.C1,A2:=m.A0.A2,A1:=m.A0.A1,A4:=m.A0.A4,A6:=m.A0.A6},B4:=m.B4,C8:=m.C8,B1:=m.B1}))) T1) T1) T1;.br (e.C0==2) (.br (e.N==0) (.br (decide (e.D0=[])) (.lv (Uz m.A0.A9) λ(x0:iZ×Bool)=>.lf (x0.2,{A0:={B0:=m.A0.B0,Mem:=m.A0.Mem,A3:=m.A0.A3,A9:=x0.1,A7:=m.A0.A7,C1:=m.A0.C1,A2:=m.A0.A2,A1:=m.A0.A1,A4:=m.A0.A4,A6:=m.A0.A6},B4:=m.B4,C8:=m.C8,B1:=m.B1})) T2) T2) T2)
def YP m e:=(Mq m e).m
abbrev Qo2 m e:=(Mq m e).p
def Z7o:bf:=mT 103 [true,false] true [.ptr 0,.agg ib.sig] [.box 154 52 (dj.kZ (.row 1) (.row 2) (.row 3)),.arr 23 1 (.ints .u32),.arr 103 4 (.ax .ab),.arr 72 3 (.ax .bc)] (λa r=>Mq (dj.rA (r.getD 0 default).cs (gj .u32 r 1) (jV .ab r 2) (jV .bc r 3)) (ib.of (aC a 1))) (λX=>.bool (X.1)) (λX=>[⟨true,154,52,.gen [(dj.ff (X.2) (.all 1) (.all 2) (.all 3))]⟩,⟨false,23,1,.ints .u32 (X.2).A0.Mem⟩,⟨false,103,4,.ax .ab (X.2).C8⟩,⟨false,72,3,.ax .bc (X.2).B1⟩])
theorem Z3q:bj pG Z7o:=oT (.cons Z04 (.cons Z0d (.cons Qsk (.cons Qth (.nil))))) Tryz.func103 Tryz.call103 [.row 23 1 (.ints .u32),.row 103 4 (.ax .ab),.row 72 3 (.ax .bc)] [] 2
def Mt(m:dj)(e:ib):Tree (Bool×dj):=
.an (Qo2 m e) (.lv (YP m e) λ(x0:Bool×dj)=>.lf (x0.1,x0.2))
def YQ m e:=(Mt m e).m
abbrev Qm6 m e:=(Mt m e).p
def Z6y:bf:=mT 303 [true,false] true [.ptr 0,.agg ib.sig] [.box 154 52 (dj.kZ (.row 1) (.row 2) (.row 3)),.arr 23 1 (.ints .u32),.arr 103 4 (.ax .ab),.arr 72 3 (.ax .bc)] (λa r=>Mt (dj.rA (r.getD 0 default).cs (gj .u32 r 1) (jV .ab r 2) (jV .bc r 3)) (ib.of (aC a 1))) (λX=>.bool (X.1)) (λX=>[⟨true,154,52,.gen [(dj.ff (X.2) (.all 1) (.all 2) (.all 3))]⟩,⟨false,23,1,.ints .u32 (X.2).A0.Mem⟩,⟨false,103,4,.ax .ab (X.2).C8⟩,⟨false,72,3,.ax .bc (X.2).B1⟩])
theorem Z1n:bj pG Z6y:=oT (.cons Z3q (.nil)) Tryz.func303 Tryz.call303 [.row 23 1 (.ints .u32),.row 103 4 (.ax .ab),.row 72 3 (.ax .bc)] [] 2
def Mu(r:dj)(e:ib):Tree dj:=
.an (Qm6 r e) (.lv (YQ r e) λ(x0:Bool×dj)=>.br x0.1 (.cn (decide (40*(x0.2.C8.length+1)<=140737488355328)) (.lf ({A0:=x0.2.A0,B4:=x0.2.B4,C8:=x0.2.C8++[{At:=x0.2.A0.A1,C6:=e}],B1:=x0.2.B1}))) (.lf x0.2))
def Pg r e:=(Mu r e).m
abbrev Qjb r e:=(Mu r e).p
def Zg8:bf:=mi 1 264 [true,false] [.ptr 0,.agg ib.sig] [.box 154 52 (dj.kZ (.row 1) (.row 2) (.row 3)),.arr 23 1 (.ints .u32),.arr 103 4 (.ax .ab),.arr 72 3 (.ax .bc)] (λa r=>Qjb (dj.rA (r.getD 0 default).cs (gj .u32 r 1) (jV .ab r 2) (jV .bc r 3)) (ib.of (aC a 1))) (λa r=>Pg (dj.rA (r.getD 0 default).cs (gj .u32 r 1) (jV .ab r 2) (jV .bc r 3)) (ib.of (aC a 1))) (λX=>.dt []) (λX=>[⟨true,154,52,.gen [(dj.ff X (.all 1) (.all 2) (.all 3))]⟩,⟨false,23,1,.ints .u32 X.A0.Mem⟩,⟨false,103,4,.ax .ab X.C8⟩,⟨false,72,3,.ax .bc X.B1⟩])
theorem Z99:bj pG Zg8:=ES drawn mQ (.cons Z1n (.nil)) Tryz.func264 Tryz.call264 (λa r=>Mu (dj.rA (r.getD 0 default).cs (gj .u32 r 1) (jV .ab r 2) (jV .bc r 3)) (ib.of (aC a 1))) [.row 23 1 (.ints .u32),.row 103 4 (.ax .ab),.row 72 3 (.ax .bc)] [] 2 (λ_ _ _=>by kernel_rfl) (λ_ _=>rfl) (λ_ _ h=>h)
def R5(is:Bool)(n:Int):Tree Int:=
.br is (.cn (decide (0<=wrap u64 n)) (.lf (ek u32 1 (wrap u64 n)))) (.lf 0)
def EB is n:=(R5 is n).m
abbrev SF is n:=(R5 is n).p
def Zmd:bf:=mT 292 [] true [.one (.bool),.one (.int .i64)] [] (λa r=>R5 (tG a 0) (ar a 1)) (λX=>.int .u32 X) (λX=>[])
theorem Zke:bj pG Zmd:=oT (.nil) Tryz.func292 Tryz.call292 [] [] 2
def Qjf(t:iZ):Tree Bool:=
.lf t.D2
def YD t:=(Qjf t).m
def Qu0:bf:=mS 293 [] true [.agg iZ.sig] [] (λa r=>Qjf (iZ.of (aC a 0))) (λX=>.bool X) (λX=>[])
theorem Qs4:bj pG Qu0:=oS (.nil) Tryz.func293 Tryz.call293 [] [] 2
def Qfe(c:iY):Tree Bool:=
.lf (decide ((c.C9.length:Int)>(0:Int)))
def Uo c:=(Qfe c).m
def Qqk:bf:=mS 294 [] true [.agg iY.sig] [] (λa r=>Qfe (iY.of (aC a 0))) (λX=>.bool X) (λX=>[])
theorem Qox:bj pG Qqk:=oS (.nil) Tryz.func294 Tryz.call294 [] [] 2
def Qk9(d0:fv):Tree Bool:=
.br (d0.B8==2) (.lf true) (.lf (d0.B8==3))
def YE d0:=(Qk9 d0).m
def Qw7:bf:=mS 295 [] true [.agg fv.sig] [] (λa r=>Qk9 (fv.of (aC a 0))) (λX=>.bool X) (λX=>[])
theorem Qu5:bj pG Qw7:=oS (.nil) Tryz.func295 Tryz.call295 [] [] 2
def Qmj(n:ik):Tree Bool:=
.lf n.B5
def YF n:=(Qmj n).m
def Qyk:bf:=mS 296 [] true [.agg ik.sig] [] (λa r=>Qmj (ik.of (aC a 0))) (λX=>.bool X) (λX=>[])
theorem Qw9:bj pG Qyk:=oS (.nil) Tryz.func296 Tryz.call296 [] [] 2
def Qqf(b:iu)(z:(Int)×(Int)):Prop:=0<=z.2/\z.2<=32
def Qgc(b:iu)(z:(Int)×(Int)):Nat:=(32-z.2).toNat
def Wo(b:iu):Tree Int:=
.lp inferInstance (Qgc b (0,0)+1) ((rZ/\rE (0:Int)/\rE (0:Int)/\True)/\(rE b.C7/\rE b.C4/\True)/\True) (0,0) λ(v0:Int×Int)=>.br (decide (v0.2<32)) (.cn (decide (0<=wrap u64 v0.2)) (.nx ((rZ/\rE ((wrap i64 (v0.1+wrap i64 (bd u32 (bg u32 b.C4 (wrap u64 v0.2)) 1))):Int)/\rE ((wrap i64 (v0.2+1)):Int)/\True)/\(rE b.C7/\rE b.C4/\True)/\True) (Sum.inl (wrap i64 (v0.1+wrap i64 (bd u32 (bg u32 b.C4 (wrap u64 v0.2)) 1)),wrap i64 (v0.2+1))))) (.lf (Sum.inr v0.1))
def Ma b:=(Wo b).m
theorem Z84(b:iu):(Wo b).p:=by
 unfold Tree.p Wo
 repeat'(first|refine fi (inv:=Qqf b) (μ:=Qgc b) ?_ (cO _) (λ_ _=>?_)|exact trivial|refine aa (λ_=>?_) (λ_=>?_)|refine au ?_ ?_|refine cj ?_ ?_|refine aq (λ_ _=>?_)|refine ea ?_|refine dc ?_|refine And.intro ?_ ?_)
 all_goals((try simp only[Qqf,Qgc]at*);exact nY)
def Zf:bn:={
 α:=(Int)×(Int)
 F:=λst a=>([(1,.ptr 0 0 0),(3,.int i64 a.1),(4,.int i64 a.2)],[⟨true,39,2,.gen [[(cT st 1 0),(cT st 1 1)]]⟩])
 a0:=λst=>((lk st 3).toInt,(lk st 4).toInt)
 iL:=λst=>[]++[(rX st 1 0)]}
def Z5s:List (Nat×bn):=[(3,Zf)]
def Zl6:bf:=mS 282 [] true [.agg iu.sig] [] (λa r=>Wo (iu.of (aC a 0))) (λX=>.int .i64 X) (λX=>[])
theorem Qvc:bj pG Zl6:=oS (.nil) Tryz.func282 Tryz.call282 [] Z5s 3 (λ_ _ _=>by kernel_rfl) (λa r=>Z84 (iu.of (aC a 0))) (λ_ X=>by kernel_rfl)
def Yu(b:iu):Tree Bool:=
.lv (Ma b) λ(x0:Int)=>.lf (wrap u64 x0 !=wrap u64 b.C7)
def O7 b:=(Yu b).m
def Qqj:bf:=mS 297 [] true [.agg iu.sig] [] (λa r=>Yu (iu.of (aC a 0))) (λX=>.bool X) (λX=>[])
theorem Qom:bj pG Qqj:=oS (.cons Qvc (.nil)) Tryz.func297 Tryz.call297 [] [] 2
def R6(m:av):Tree Int:=
.lv (YD m.A9) λ(x0:Bool)=>.an (SF x0 0) (.lv (EB x0 0) λ(x1:Int)=>.lv (Uo m.A3) λ(x2:Bool)=>.an (SF x2 1) (.lv (EB x2 1) λ(x3:Int)=>.lv (YE m.A7) λ(x4:Bool)=>.an (SF x4 2) (.lv (EB x4 2) λ(x5:Int)=>.lv (YF m.C1) λ(x6:Bool)=>.an (SF x6 3) (.lv (EB x6 3) λ(x7:Int)=>.lv (O7 m.A2) λ(x8:Bool)=>.an (SF x8 4) (.lv (EB x8 4) λ(x9:Int)=>.lf (ij u32 (ij u32 (ij u32 (ij u32 x1 x3) x5) x7) x9))))))
def Pa m:=(R6 m).m
abbrev Qtf m:=(R6 m).p
def Zib:bf:=mT 239 [] true [.agg av.sig] [] (λa r=>R6 (av.of (aC a 0))) (λX=>.int .u32 X) (λX=>[])
theorem Zg9:bj pG Zib:=oT (.cons Zke (.cons Qs4 (.cons Qox (.cons Qu5 (.cons Qw9 (.cons Qom (.nil))))))) Tryz.func239 Tryz.call239 [] [] 2
def Mj(m:av):Tree Int:=
.an (Qtf m) (.lv (Pa m) λ(x0:Int)=>.lf (bd u32 x0 m.B0.B3.a7))
def BE m:=(Mj m).m
abbrev Qg7 m:=(Mj m).p
def Z95:bf:=mT 167 [] true [.agg av.sig] [] (λa r=>Mj (av.of (aC a 0))) (λX=>.int .u32 X) (λX=>[])
theorem Qpc:bj pG Z95:=oT (.cons Zg9 (.nil)) Tryz.func167 Tryz.call167 [] [] 2
def Mk(m:av):Tree Bool:=
.br m.A4 (.an (Qg7 m) (.lv (BE m) λ(x0:Int)=>.lf (x0==0))) (.lf false)
def pH m:=(Mk m).m
abbrev Qh7 m:=(Mk m).p
def Zn7:bf:=mT 104 [] true [.agg av.sig] [] (λa r=>Mk (av.of (aC a 0))) (λX=>.bool X) (λX=>[])
theorem Qqh:bj pG Zn7:=oT (.cons Qpc (.nil)) Tryz.func104 Tryz.call104 [] [] 2
def Jz(m:av):Tree Bool:=
.lv (o9 m) λ(x0:Bool)=>.br (!x0) (.lf true) (.br m.A6 (.lf true) (.an (Qh7 m) (.lv (pH m) λ(x1:Bool)=>.br x1 (.lf true) (.lf (decide (m.A1>=1152921504606846976))))))
def mJ m:=(Jz m).m
abbrev We m:=(Jz m).p
def Zhc:bf:=mT 88 [] true [.agg av.sig] [] (λa r=>Jz (av.of (aC a 0))) (λX=>.bool X) (λX=>[])
theorem Qwd:bj pG Zhc:=oT (.cons Wd (.cons Qqh (.nil))) Tryz.func88 Tryz.call88 [] [] 2
end
noncomputable section
def Zb2(b:Bool):Tree Int:=
.br b (.lf 1) (.lf 0)
def CH b:=(Zb2 b).m
def Zru:bf:=mS 269 [] true [.one (.bool)] [] (λa r=>Zb2 (tG a 0)) (λX=>.int .u32 X) (λX=>[])
theorem Qum:bj pG Zru:=oS (.nil) Tryz.func269 Tryz.call269 [] [] 2
def OP(c:bm)(oU bad:Int):Tree bm:=
.lv (CH (bd u32 c.B3.a0 (1:Int) !=(0:Int))) λ(x0:Int)=>.lv (CH (bd u32 c.B3.a0 (2:Int) !=(0:Int))) λ(x1:Int)=>.lf ({X:=c.X,Pc:=c.B3.a1,B3:={a0:=ij u32 (oa u32 (ij u32 (ij u32 (oa u32 c.B3.a0 24) (wrap u32 (8*x0))) (wrap u32 (16*x1))) 2) 1,a1:=c.B3.a1,a2:=c.Pc,a3:=wrap u32 oU,a4:=bad,a5:=c.B3.a5,a6:=c.B3.a6,a7:=c.B3.a7}})
def rb c oU bad:=(OP c oU bad).m
def Zm6:bf:=mS 208 [] true [.agg bm.sig,.one (.int .i64),.one (.int .u32)] [] (λa r=>OP (bm.of (aC a 0)) (ar a 1) (ar a 2)) (λX=>.agg (bm.cells X)) (λX=>[])
theorem Wp:bj pG Zm6:=oS (.cons Qum (.nil)) Tryz.func208 Tryz.call208 [] [] 2
def Jq(m:List Int)(addr size:Int):Tree Bool:=
let T1:Tree (Bool):=.cn (decide (wrap u32 size≠0)) (.br (dE addr (wrap u32 size)==0) (.lv (wX m) λ(x0:Int)=>.lf (decide (addr<wrap u32 (wrap i64 (128*x0))))) (.lf false));.br (size !=1) (.br (size !=4) (.lf false) T1) T1
def sj m addr size:=(Jq m addr size).m
abbrev Qdd m addr size:=(Jq m addr size).p
def Zcp:bf:=mT 240 [] true [.one (.ints .u32),.one (.int .u32),.one (.int .i64)] [] (λa r=>Jq (eg .u32 a 0) (ar a 1) (ar a 2)) (λX=>.bool X) (λX=>[])
theorem Qkw:bj pG Zcp:=oT (.cons SD (.nil)) Tryz.func240 Tryz.call240 [] [] 2
def AX(m:List Int)(addr size:Int):Tree (Int×Bool):=
.an (Qdd m addr size) (.lv (sj m addr size) λ(x0:Bool)=>.br (!x0) (.lf (0,false)) (.cn (bT 1 1&&bJ 0 1&&decide (0<=wrap u32 (eU addr 4)/\wrap u32 (eU addr 4)<(m.length:Int))) (.br (size==1) (.cn (decide (0<=wrap u32 (8*dE addr 4))) (.lf (bd u32 (bg u32 (m.getD (dF (wrap u32 (eU addr 4))) 0) (wrap u32 (8*dE addr 4))) 255,true))) (.lf (m.getD (dF (wrap u32 (eU addr 4))) 0,true)))))
def kW m addr size:=(AX m addr size).m
abbrev Wq m addr size:=(AX m addr size).p
def Zmt:bf:=mT 168 [] true [.one (.ints .u32),.one (.int .u32),.one (.int .i64)] [] (λa r=>AX (eg .u32 a 0) (ar a 1) (ar a 2)) (λX=>.dt [.int .u32 (X.1),.bool (X.2)]) (λX=>[])
theorem Qpm:bj pG Zmt:=oT (.cons Qkw (.nil)) Tryz.func168 Tryz.call168 [] [] 2
def Hd(w:Int):Tree (gw×Bool):=
.lv (o7 (wrap i64 (bg u32 w 24))) λ(x0:Int)=>let E5:=({Op:=0,A:=0,B:=0,C:=0,bo:=0}:gw);.br (x0==0) (.lf (E5,false)) (.br (x0==2) (let E3:=({Op:=wrap i64 (bg u32 w 24),A:=wrap i64 (bd u32 (bg u32 w 20) 15),B:=wrap i64 (bd u32 (bg u32 w 16) 15),C:=wrap i64 (bd u32 w 65535),bo:=0}:gw);.lv (Er E3) λ(x1:Bool)=>.br (!x1) (.lf (E5,false)) (.lf (E3,true))) (let T1:Tree ((gw×Bool)):=let E2:=({Op:=wrap i64 (bg u32 w 24),A:=wrap i64 (bd u32 (bg u32 w 20) 15),B:=wrap i64 (bd u32 (bg u32 w 16) 15),C:=0,bo:=wrap i32 (wrap i16 (bd u32 w 65535))}:gw);.lv (Er E2) λ(x2:Bool)=>.br (!x2) (.lf (E5,false)) (.lf (E2,true));.br (x0==3) T1 (.br (x0==7) T1 (let E4:=({Op:=wrap i64 (bg u32 w 24),A:=wrap i64 (bd u32 (bg u32 w 20) 15),B:=wrap i64 (bd u32 (bg u32 w 16) 15),C:=0,bo:=wrap i32 (bd u32 w 65535)}:gw);.lv (Er E4) λ(x4:Bool)=>.br (!x4) (.lf (E5,false)) (.lf (E4,true))))))
def rI w:=(Hd w).m
def Ze3:bf:=mS 169 [] true [.one (.int .u32)] [] (λa r=>Hd (ar a 0)) (λX=>.dt [.agg (gw.cells (X.1)),.bool (X.2)]) (λX=>[])
theorem Qsu:bj pG Ze3:=oS (.cons Ss (.cons Qva (.nil))) Tryz.func169 Tryz.call169 [] [] 2
def Z0p(access:Int):Tree Bool:=
.br (decide (access>=1)) (.lf (decide (access<=3))) (.lf false)
def LX access:=(Z0p access).m
def Zgt:bf:=mS 270 [] true [.one (.int .i64)] [] (λa r=>Z0p (ar a 0)) (λX=>.bool X) (λX=>[])
theorem Qvf:bj pG Zgt:=oS (.nil) Tryz.func270 Tryz.call270 [] [] 2
def Z0o(c:bm):Tree Bool:=
.lf (bd u32 c.B3.a0 (5:Int)==(4:Int))
def Ue c:=(Z0o c).m
def Zhi:bf:=mS 271 [] true [.agg bm.sig] [] (λa r=>Z0o (bm.of (aC a 0))) (λX=>.bool X) (λX=>[])
theorem Zcv:bj pG Zhi:=oS (.nil) Tryz.func271 Tryz.call271 [] [] 2
def L6(access:Int):Tree Int:=
.br (access==1) (.lf 4) (.br (access==3) (.lf 6) (.lf 5))
def tU access:=(L6 access).m
def Z9q:bf:=mS 272 [] true [.one (.int .i64)] [] (λa r=>L6 (ar a 0)) (λX=>.int .i64 X) (λX=>[])
theorem Qq0:bj pG Z9q:=oS (.nil) Tryz.func272 Tryz.call272 [] [] 2
def Hi(m:List Int)(root va access:Int):Tree rY:=
.lv (tU access) λ(x0:Int)=>.lv (wX m) λ(x1:Int)=>.lv (LX access) λ(x2:Bool)=>let E4:=({Addr:=0,F3:=0,F1:=x0}:rY);.br (!x2) (.lf (E4)) (.br (decide (va>=4096)) (.lf (E4)) (.br (decide (root>=wrap u32 x1)) (.lf (E4)) (let E6:=wrap u32 (root*128)+wrap u32 (4*wrap u32 (eU va 128));let E3:=eU (wrap u32 E6) 4;.cn (bT 1 1&&bJ 0 1&&decide (0<=wrap u32 E3/\wrap u32 E3<(m.length:Int))) (let E5:=m.getD (dF (wrap u32 E3)) 0;.br (bd u32 E5 (1:Int)==(0:Int)) (.lf (E4)) (let T1:Tree (rY):=.br (decide (bd u32 (bg u32 E5 8) 255>=wrap u32 x1)) (.lf (E4)) (.lf ({Addr:=wrap u32 (wrap u32 (bd u32 (bg u32 E5 8) (255:Int)*(128:Int))+dE va 128),F3:=wrap u32 E6,F1:=0}));let T2:Tree (rY):=.br (access==1) (.br (bd u32 E5 (4:Int)==(0:Int)) (.lf (E4)) T1) T1;.br (access==3) (.br (bd u32 E5 (2:Int)==(0:Int)) (.lf (E4)) T2) T2)))))
def AY m root va access:=(Hi m root va access).m
abbrev Qxc m root va access:=(Hi m root va access).p
def Zmx:bf:=mT 273 [] true [.one (.ints .u32),.one (.int .u32),.one (.int .u32),.one (.int .i64)] [] (λa r=>Hi (eg .u32 a 0) (ar a 1) (ar a 2) (ar a 3)) (λX=>.agg (rY.cells X)) (λX=>[])
theorem Zi4:bj pG Zmx:=oT (.cons Qq0 (.cons SD (.cons Qvf (.nil)))) Tryz.func273 Tryz.call273 [] [] 2
def L0(m:List Int)(entry access:Int):Tree (List Int):=
.an (Qdd m entry 4) (.lv (sj m entry 4) λ(x0:Bool)=>.br (!x0) (.lf m) (let E3:=bT 1 1&&bJ 0 1&&decide (0<=wrap u32 (eU entry 4)/\wrap u32 (eU entry 4)<(m.length:Int));.cn E3 (.cn E3 (let E4:=dF (wrap u32 (eU entry 4));let E1:=dG m E4 (ij u32 (m.getD E4 0) 8);.br (access==3) (let E2:=bT 1 1&&bJ 0 1&&decide (0<=wrap u32 (eU entry 4)/\wrap u32 (eU entry 4)<(↑(dK E1):Int));.cn E2 (.cn E2 (.lf (dG E1 E4 (ij u32 (aK E1 E4 0) 16))))) (.lf E1)))))
def Uc m entry access:=(L0 m entry access).m
abbrev Qwz m entry access:=(L0 m entry access).p
def Zlf:bf:=mT 274 [true,false,false] true [.one (.row 0),.one (.int .u32),.one (.int .i64)] [.arr 23 1 (.ints .u32)] (λa r=>L0 (gj .u32 r 0) (ar a 1) (ar a 2)) (λX=>.dt []) (λX=>[⟨false,23,1,.ints .u32 X⟩])
theorem Zjg:bj pG Zlf:=oT (.cons Qkw (.nil)) Tryz.func274 Tryz.call274 [] [] 2
def Hk(c:bm)(m:List Int)(va size access:Int):Tree (Int×Int×(List Int)):=
.lv (LX access) λ(x0:Bool)=>.br (!x0) (.lf (0,5,m)) (let T1:Tree ((Int×Int×(List Int))):=.cn (decide (wrap u32 size≠0)) (.br (dE va (wrap u32 size) !=0) (.lf (0,3,m)) (.lv (Ue c) λ(x1:Bool)=>.br (!x1) (.an (Qdd m va size) (.lv (sj m va size) λ(x2:Bool)=>.br (!x2) (.lv (tU access) λ(x3:Int)=>.lf (0,x3,m)) (.lf (va,0,m)))) (.an (Qxc m c.B3.a6 va access) (.lv (AY m c.B3.a6 va access) λ(x4:rY)=>.br (x4.F1 !=0) (.lf (0,x4.F1,m)) (.an (Qwz m x4.F3 access) (.lv (Uc m x4.F3 access) λ(x5:List Int)=>.lf (x4.Addr,0,x5)))))));.br (size !=1) (.br (size !=4) (.lf (0,5,m)) T1) T1)
def lP c m va size access:=(Hk c m va size access).m
abbrev SG c m va size access:=(Hk c m va size access).p
def Zhx:bf:=mT 209 [false,true,false,false,false] true [.agg bm.sig,.one (.row 0),.one (.int .u32),.one (.int .i64),.one (.int .i64)] [.arr 23 1 (.ints .u32)] (λa r=>Hk (bm.of (aC a 0)) (gj .u32 r 0) (ar a 2) (ar a 3) (ar a 4)) (λX=>.dt [.int .u32 (X.1),.int .i64 (X.2.1)]) (λX=>[⟨false,23,1,.ints .u32 (X.2.2)⟩])
theorem Qv0:bj pG Zhx:=oT (.cons Qvf (.cons Zcv (.cons Qkw (.cons Qq0 (.cons Zi4 (.cons Zjg (.nil))))))) Tryz.func209 Tryz.call209 [] [] 2
def Qld(op:Int):Tree Bool:=
.br (decide (op>=57)) (.lf (decide (op<=64))) (.lf false)
def Hb op:=(Qld op).m
def Qy5:bf:=mS 210 [] true [.one (.int .i64)] [] (λa r=>Qld (ar a 0)) (λX=>.bool X) (λX=>[])
theorem Qvd:bj pG Qy5:=oS (.nil) Tryz.func210 Tryz.call210 [] [] 2
def OR(c:bm):Tree bm:=
.lv (CH (bd u32 c.B3.a0 (8:Int) !=(0:Int))) λ(x0:Int)=>.lv (CH (bd u32 c.B3.a0 (16:Int) !=(0:Int))) λ(x1:Int)=>.lf ({X:=c.X,Pc:=c.B3.a2,B3:={a0:=ij u32 (ij u32 (oa u32 c.B3.a0 3) (wrap u32 (1*x0))) (wrap u32 (2*x1)),a1:=c.B3.a1,a2:=c.B3.a2,a3:=c.B3.a3,a4:=c.B3.a4,a5:=c.B3.a5,a6:=c.B3.a6,a7:=c.B3.a7}})
def Ud c:=(OR c).m
def Zg4:bf:=mS 275 [] true [.agg bm.sig] [] (λa r=>OR (bm.of (aC a 0))) (λX=>.agg (bm.cells X)) (λX=>[])
theorem Z8t:bj pG Zg4:=oS (.cons Qum (.nil)) Tryz.func275 Tryz.call275 [] [] 2
def Js(c:bm)(r v:Int):Tree bm:=
.br (decide (r>0)) (.br (decide (r<16)) (.cn (bJ 0 1&&decide (0<=r/\r<(↑16:Int))) (.lf ({X:=gn.of 0 (dG (gn.l c.X) r.toNat v),Pc:=c.Pc,B3:=c.B3}))) (.lf c)) (.lf c)
def lO c r v:=(Js c r v).m
abbrev BT c r v:=(Js c r v).p
def Zt2:bf:=mT 145 [] true [.agg bm.sig,.one (.int .i64),.one (.int .u32)] [] (λa r=>Js (bm.of (aC a 0)) (ar a 1) (ar a 2)) (λX=>.agg (bm.cells X)) (λX=>[])
theorem No:bj pG Zt2:=oT (.nil) Tryz.func145 Tryz.call145 [] [] 2
def L7(c:bm)(jt v:Int):Tree bm:=
let E4:=bJ 0 1&&decide (0<=jt/\jt<(↑8:Int));let T2:Tree (bm):=.cn E4 (.lf ({X:=c.X,Pc:=c.Pc,B3:=A8.of 0 (dG (A8.l c.B3) jt.toNat (bd u32 v 31))}));.br (jt==0) T2 (.br (jt==7) T2 (.br (jt==6) (.cn E4 (.lf ({X:=c.X,Pc:=c.Pc,B3:=A8.of 0 (dG (A8.l c.B3) jt.toNat (bd u32 v 255))}))) (let T3:Tree (bm):=.cn E4 (.lf ({X:=c.X,Pc:=c.Pc,B3:=A8.of 0 (dG (A8.l c.B3) jt.toNat (oa u32 v 3))}));.br (jt==1) T3 (.br (jt==2) T3 (let T1:Tree (bm):=.cn E4 (.lf ({X:=c.X,Pc:=c.Pc,B3:=A8.of 0 (dG (A8.l c.B3) jt.toNat v)}));.br (jt==3) T1 (.br (jt==4) T1 (.br (jt==5) T1 (.lf c))))))))
def OV c jt v:=(L7 c jt v).m
abbrev Qtc c jt v:=(L7 c jt v).p
def Zgs:bf:=mT 276 [] true [.agg bm.sig,.one (.int .i64),.one (.int .u32)] [] (λa r=>L7 (bm.of (aC a 0)) (ar a 1) (ar a 2)) (λX=>.agg (bm.cells X)) (λX=>[])
theorem Zfl:bj pG Zgs:=oT (.nil) Tryz.func276 Tryz.call276 [] [] 2
def JF(c:bm)(i:gw):Tree (bm×kT):=
.br (i.Op==56) (.lv (rb c 7 0) λ(x0:bm)=>.lf (x0,{C0:=0,D1:=0,E0:=0,Value:=0})) (.br (i.Op==57) (.lv (Ud c) λ(x1:bm)=>.lf (x1,{C0:=0,D1:=0,E0:=0,Value:=0})) (.br (i.Op==58) (.cn (bJ 0 1&&decide (0<=i.bo/\i.bo<(↑8:Int))) (let E3:=aK (A8.l c.B3) i.bo.toNat 0;.an (BT c i.A E3) (.lv (lO c i.A E3) λ(x2:bm)=>.lf ({X:=x2.X,Pc:=wrap u32 (x2.Pc+4),B3:=x2.B3},{C0:=0,D1:=0,E0:=0,Value:=0})))) (let E2:=bJ 0 1&&decide (0<=i.A/\i.A<(↑16:Int));.br (i.Op==59) (.cn E2 (let E4:=aK (gn.l c.X) i.A.toNat 0;.an (Qtc c (wrap i64 i.bo) E4) (.lv (OV c (wrap i64 i.bo) E4) λ(x3:bm)=>.lf ({X:=x3.X,Pc:=wrap u32 (x3.Pc+4),B3:=x3.B3},{C0:=0,D1:=0,E0:=0,Value:=0})))) (let E1:=({X:=c.X,Pc:=wrap u32 (c.Pc+4),B3:=c.B3}:bm);.br (i.Op==60) (.lf (E1,{C0:=1,D1:=wrap i64 i.bo,E0:=i.A,Value:=0})) (.br (i.Op==61) (.cn E2 (.lf (E1,{C0:=2,D1:=wrap i64 i.bo,E0:=0,Value:=aK (gn.l c.X) i.A.toNat 0}))) (.br (i.Op==62) (.lf (E1,{C0:=3,D1:=0,E0:=0,Value:=0})) (.br (i.Op==63) (.lf (E1,{C0:=5,D1:=0,E0:=0,Value:=0})) (.br (i.Op==64) (.lf (E1,{C0:=4,D1:=0,E0:=0,Value:=0})) (.lf (E1,{C0:=0,D1:=0,E0:=0,Value:=0}))))))))))
def Ug c i:=(JF c i).m
abbrev Qpl c i:=(JF c i).p
def Zf9:bf:=mT 211 [] true [.agg bm.sig,.agg gw.sig] [] (λa r=>JF (bm.of (aC a 0)) (gw.of (aC a 1))) (λX=>.dt [.agg (bm.cells (X.1)),.agg (kT.cells (X.2))]) (λX=>[])
theorem Z8c:bj pG Zf9:=oT (.cons Wp (.cons Z8t (.cons No (.cons Zfl (.nil))))) Tryz.func211 Tryz.call211 [] [] 2
def Z0q(op a b:Int):Tree Bool:=
.br (op==40) (.lf (a==b)) (.br (op==41) (.lf (a !=b)) (.br (op==42) (.lf (decide (wrap i32 a<wrap i32 b))) (.br (op==43) (.lf (decide (wrap i32 a>=wrap i32 b))) (.br (op==44) (.lf (decide (a<b))) (.lf (decide (a>=b)))))))
def rJ op a b:=(Z0q op a b).m
def Zh2:bf:=mS 277 [] true [.one (.int .i64),.one (.int .u32),.one (.int .u32)] [] (λa r=>Z0q (ar a 0) (ar a 1) (ar a 2)) (λX=>.bool X) (λX=>[])
theorem Zdb:bj pG Zh2:=oS (.nil) Tryz.func277 Tryz.call277 [] [] 2
def RY(c:bm)(i:gw):Tree bm:=
.br (i.Op==48) (.an (BT c i.A (wrap u32 (c.Pc+4))) (.lv (lO c i.A (wrap u32 (c.Pc+4))) λ(x0:bm)=>.lf ({X:=x0.X,Pc:=wrap u32 (c.Pc+wrap u32 (4*wrap u32 i.bo)),B3:=x0.B3}))) (let E1:=bJ 0 1&&decide (0<=i.B/\i.B<(↑16:Int));.br (i.Op==49) (.cn E1 (.an (BT c i.A (wrap u32 (c.Pc+4))) (.lv (lO c i.A (wrap u32 (c.Pc+4))) λ(x1:bm)=>.lf ({X:=x1.X,Pc:=wrap u32 (aK (gn.l c.X) i.B.toNat 0+wrap u32 i.bo),B3:=x1.B3})))) (.cn (bJ 0 1&&decide (0<=i.A/\i.A<(↑16:Int))) (.cn E1 (.lv (rJ i.Op (aK (gn.l c.X) i.A.toNat 0) (aK (gn.l c.X) i.B.toNat 0)) λ(x2:Bool)=>.br x2 (.lf ({X:=c.X,Pc:=wrap u32 (c.Pc+wrap u32 (4*wrap u32 i.bo)),B3:=c.B3})) (.lf ({X:=c.X,Pc:=wrap u32 (c.Pc+4),B3:=c.B3}))))))
def Z3r c i:=(RY c i).m
abbrev Qvo c i:=(RY c i).p
def Zm8:bf:=mT 212 [] true [.agg bm.sig,.agg gw.sig] [] (λa r=>RY (bm.of (aC a 0)) (gw.of (aC a 1))) (λX=>.agg (bm.cells X)) (λX=>[])
theorem Zgo:bj pG Zm8:=oT (.cons No (.cons Zdb (.nil))) Tryz.func212 Tryz.call212 [] [] 2
def RX(x n:Int):Tree Int:=
.br (decide (n<1)) (.lf 0) (.br (decide (n>=32)) (.lf x) (.cn (decide (0<=wrap u64 n)) (.cn (decide (0<=wrap u64 (wrap i64 (n-1)))) (let E1:=bd u32 x (wrap u32 (ek u32 1 (wrap u64 n)-1));.br (bg u32 E1 (wrap u64 (wrap i64 (n-1)))==1) (.cn (decide (0<=wrap u64 n)) (.lf (ij u32 E1 (ek u32 4294967295 (wrap u64 n))))) (.lf E1)))))
def Hc x n:=(RX x n).m
abbrev Qbm x n:=(RX x n).p
def Qy4:bf:=mT 279 [] true [.one (.int .u32),.one (.int .i64)] [] (λa r=>RX (ar a 0) (ar a 1)) (λX=>.int .u32 X) (λX=>[])
theorem Qxh:bj pG Qy4:=oT (.nil) Tryz.func279 Tryz.call279 [] [] 2
def RZ(c:bm)(m:List Int)(i:gw):Tree (bm×(List Int)):=
.cn (bJ 0 1&&decide (0<=i.B/\i.B<(↑16:Int))) (let E4:=wrap u32 (aK (gn.l c.X) i.B.toNat 0+wrap u32 i.bo);let E5:=aK (gn.l c.X) i.A.toNat 0;let E6:=bJ 0 1&&decide (0<=i.A/\i.A<(↑16:Int));let E7:=({X:=c.X,Pc:=wrap u32 (c.Pc+4),B3:=c.B3}:bm);let T1:Tree ((bm×(List Int))):=let T3:Tree ((bm×(List Int))):=.an (SG c m E4 4 3) (.lv (lP c m E4 4 3) λ(x0:Int×Int×List Int)=>.br (x0.2.1 !=0) (.lv (rb c x0.2.1 E4) λ(x1:bm)=>.lf (x1,x0.2.2)) (.cn E6 (.an (TZ x0.2.2 x0.1 4 E5) (.lv (BC x0.2.2 x0.1 4 E5) λ(x2:List Int)=>.lf (E7,x2)))));.br (i.Op==35) T3 (.br (i.Op==36) T3 (.an (SG c m E4 4 2) (.lv (lP c m E4 4 2) λ(x6:Int×Int×List Int)=>.br (x6.2.1 !=0) (.lv (rb c x6.2.1 E4) λ(x7:bm)=>.lf (x7,x6.2.2)) (.an (Wq x6.2.2 x6.1 4) (.lv (kW x6.2.2 x6.1 4) λ(x8:Int×Bool)=>.br (i.Op==33) (.an (Qbm x8.1 8) (.lv (Hc x8.1 8) λ(x9:Int)=>.an (BT c i.A x9) (.lv (lO c i.A x9) λ(jc:bm)=>.lf ({X:=jc.X,Pc:=wrap u32 (jc.Pc+4),B3:=jc.B3},x6.2.2)))) (.an (BT c i.A x8.1) (.lv (lO c i.A x8.1) λ(jM:bm)=>.lf ({X:=jM.X,Pc:=wrap u32 (jM.Pc+4),B3:=jM.B3},x6.2.2))))))));.br (i.Op==32) T1 (.br (i.Op==35) T1 (let T2:Tree ((bm×(List Int))):=.an (SG c m E4 1 3) (.lv (lP c m E4 1 3) λ(EW:Int×Int×List Int)=>.br (EW.2.1 !=0) (.lv (rb c EW.2.1 E4) λ(x25:bm)=>.lf (x25,EW.2.2)) (.cn E6 (.an (TZ EW.2.2 EW.1 1 E5) (.lv (BC EW.2.2 EW.1 1 E5) λ(x26:List Int)=>.lf (E7,x26)))));.br (i.Op==35) T2 (.br (i.Op==36) T2 (.an (SG c m E4 1 2) (.lv (lP c m E4 1 2) λ(Gw:Int×Int×List Int)=>.br (Gw.2.1 !=0) (.lv (rb c Gw.2.1 E4) λ(x31:bm)=>.lf (x31,Gw.2.2)) (.an (Wq Gw.2.2 Gw.1 1) (.lv (kW Gw.2.2 Gw.1 1) λ(Wr:Int×Bool)=>.br (i.Op==33) (.an (Qbm Wr.1 8) (.lv (Hc Wr.1 8) λ(x33:Int)=>.an (BT c i.A x33) (.lv (lO c i.A x33) λ(x34:bm)=>.lf ({X:=x34.X,Pc:=wrap u32 (x34.Pc+4),B3:=x34.B3},Gw.2.2)))) (.an (BT c i.A Wr.1) (.lv (lO c i.A Wr.1) λ(x35:bm)=>.lf ({X:=x35.X,Pc:=wrap u32 (x35.Pc+4),B3:=x35.B3},Gw.2.2)))))))))))
def Hl c m i:=(RZ c m i).m
abbrev Ql7 c m i:=(RZ c m i).p
def Z7d:bf:=mT 213 [false,true,false] true [.agg bm.sig,.one (.row 0),.agg gw.sig] [.arr 23 1 (.ints .u32)] (λa r=>RZ (bm.of (aC a 0)) (gj .u32 r 0) (gw.of (aC a 2))) (λX=>.agg (bm.cells (X.1))) (λX=>[⟨false,23,1,.ints .u32 (X.2)⟩])
theorem Z1r:bj pG Z7d:=oT (.cons Qv0 (.cons Wp (.cons Z6v (.cons Qpm (.cons Qxh (.cons No (.nil))))))) Tryz.func213 Tryz.call213 [] [] 2
def Z0(op:Int):Tree Int:=
.br (op==16) (.lf 1) (.br (op==17) (.lf 3) (.br (op==18) (.lf 4) (.br (op==19) (.lf 5) (.br (op==20) (.lf 6) (.br (op==21) (.lf 7) (.br (op==22) (.lf 8) (.br (op==23) (.lf 12) (.lf op))))))))
def Za6 op:=(Z0 op).m
def Zgl:bf:=mS 280 [] true [.one (.int .i64)] [] (λa r=>Z0 (ar a 0)) (λX=>.int .i64 X) (λX=>[])
theorem Zfb:bj pG Zgl:=oS (.nil) Tryz.func280 Tryz.call280 [] [] 2
def L4(a b:Int):Tree (Int×Int):=
.br (b==0) (.lf (4294967295,a)) (.cn (decide (wrap i64 (wrap i32 b)≠0)) (.cn (decide (wrap i64 (wrap i32 b)≠0)) (.lf (wrap u32 (wrap i64 (eU (wrap i64 (wrap i32 a)) (wrap i64 (wrap i32 b)))),wrap u32 (dE (wrap i64 (wrap i32 a)) (wrap i64 (wrap i32 b)))))))
def L2 a b:=(L4 a b).m
abbrev Qi8 a b:=(L4 a b).p
def Zee:bf:=mT 281 [] true [.one (.int .u32),.one (.int .u32)] [] (λa r=>L4 (ar a 0) (ar a 1)) (λX=>.dt [.int .u32 (X.1),.int .u32 (X.2)]) (λX=>[])
theorem Z7n:bj pG Zee:=oT (.nil) Tryz.func281 Tryz.call281 [] [] 2
def RW(op a b:Int):Tree (Int×Bool):=
.lv (Za6 op) λ(x0:Int)=>.br (x0==1) (.lf (wrap u32 (a+b),true)) (.br (x0==2) (.lf (wrap u32 (a-b),true)) (.br (x0==3) (.lf (bd u32 a b,true)) (.br (x0==4) (.lf (ij u32 a b,true)) (.br (x0==5) (.lf (nu u32 a b,true)) (.br (x0==6) (.lf (ek u32 a (bd u32 b 31),true)) (.br (x0==7) (.lf (bg u32 a (bd u32 b 31),true)) (.br (x0==8) (.lf (wrap u32 (bg i32 (wrap i32 a) (bd u32 b 31)),true)) (.br (x0==9) (.lf (wrap u32 (a*b),true)) (.br (x0==10) (.an (Qi8 a b) (.lv (L2 a b) λ(x1:Int×Int)=>.lf (x1.1,true))) (.br (x0==11) (.an (Qi8 a b) (.lv (L2 a b) λ(x2:Int×Int)=>.lf (x2.2,true))) (.br (x0==12) (.lv (CH (decide (wrap i32 a<wrap i32 b))) λ(x3:Int)=>.lf (x3,true)) (.br (x0==13) (.lv (CH (decide (a<b))) λ(x4:Int)=>.lf (x4,true)) (.lf (0,false))))))))))))))
def Ey op a b:=(RW op a b).m
abbrev Qqt op a b:=(RW op a b).p
def Zsf:bf:=mT 214 [] true [.one (.int .i64),.one (.int .u32),.one (.int .u32)] [] (λa r=>RW (ar a 0) (ar a 1) (ar a 2)) (λX=>.dt [.int .u32 (X.1),.bool (X.2)]) (λX=>[])
theorem Zmf:bj pG Zsf:=oT (.cons Zfb (.cons Z7n (.cons Qum (.nil)))) Tryz.func214 Tryz.call214 [] [] 2
def R3(c:bm)(m:List Int):Tree (bm×kT×(List Int)):=
.an (SG c m c.Pc 4 1) (.lv (lP c m c.Pc 4 1) λ(x0:Int×Int×List Int)=>.br (x0.2.1 !=0) (.lv (rb c x0.2.1 c.Pc) λ(x1:bm)=>.lf (x1,{C0:=0,D1:=0,E0:=0,Value:=0},x0.2.2)) (.an (Wq x0.2.2 x0.1 4) (.lv (kW x0.2.2 x0.1 4) λ(x2:Int×Bool)=>.lv (rI x2.1) λ(x3:gw×Bool)=>.br (!x3.2) (.lv (rb c 1 x2.1) λ(x4:bm)=>.lf (x4,{C0:=0,D1:=0,E0:=0,Value:=0},x0.2.2)) (.lv (Hb x3.1.Op) λ(x5:Bool)=>let T1:Tree ((bm×kT×(List Int))):=.br (decide (x3.1.Op>=56)) (.an (Qpl c x3.1) (.lv (Ug c x3.1) λ(x7:bm×kT)=>.lf (x7.1,x7.2,x0.2.2))) (.br (decide (x3.1.Op>=40)) (.an (Qvo c x3.1) (.lv (Z3r c x3.1) λ(x8:bm)=>.lf (x8,{C0:=0,D1:=0,E0:=0,Value:=0},x0.2.2))) (.br (decide (x3.1.Op>=32)) (.an (Ql7 c x0.2.2 x3.1) (.lv (Hl c x0.2.2 x3.1) λ(x9:bm×List Int)=>.lf (x9.1,{C0:=0,D1:=0,E0:=0,Value:=0},x9.2))) (.br (x3.1.Op==24) (.an (BT c x3.1.A (ek u32 (wrap u32 x3.1.bo) 16)) (.lv (lO c x3.1.A (ek u32 (wrap u32 x3.1.bo) 16)) λ(jc:bm)=>.lf ({X:=jc.X,Pc:=wrap u32 (jc.Pc+4),B3:=jc.B3},{C0:=0,D1:=0,E0:=0,Value:=0},x0.2.2))) (let E2:=aK (gn.l c.X) x3.1.B.toNat 0;let E3:=bJ 0 1&&decide (0<=x3.1.B/\x3.1.B<(↑16:Int));.br (decide (x3.1.Op<=13)) (.cn (bJ 0 1&&decide (0<=x3.1.C/\x3.1.C<(↑16:Int))) (.cn E3 (let E4:=aK (gn.l c.X) x3.1.C.toNat 0;.an (Qqt x3.1.Op E2 E4) (.lv (Ey x3.1.Op E2 E4) λ(jM:Int×Bool)=>.an (BT c x3.1.A jM.1) (.lv (lO c x3.1.A jM.1) λ(jz:bm)=>.lf ({X:=jz.X,Pc:=wrap u32 (jz.Pc+4),B3:=jz.B3},{C0:=0,D1:=0,E0:=0,Value:=0},x0.2.2)))))) (.cn E3 (.an (Qqt x3.1.Op E2 (wrap u32 x3.1.bo)) (.lv (Ey x3.1.Op E2 (wrap u32 x3.1.bo)) λ(jN:Int×Bool)=>.an (BT c x3.1.A jN.1) (.lv (lO c x3.1.A jN.1) λ(mg:bm)=>.lf ({X:=mg.X,Pc:=wrap u32 (mg.Pc+4),B3:=mg.B3},{C0:=0,D1:=0,E0:=0,Value:=0},x0.2.2)))))))));.br x5 (.br (bd u32 c.B3.a0 (1:Int)==(0:Int)) (.lv (rb c 2 x2.1) λ(x6:bm)=>.lf (x6,{C0:=0,D1:=0,E0:=0,Value:=0},x0.2.2)) T1) T1))))
def re c m:=(R3 c m).m
abbrev Qty c m:=(R3 c m).p
def yF:bf:=mT 143 [false,true] true [.agg bm.sig,.one (.row 0)] [.arr 23 1 (.ints .u32)] (λa r=>R3 (bm.of (aC a 0)) (gj .u32 r 0)) (λX=>.dt [.agg (bm.cells (X.1)),.agg (kT.cells (X.2.1))]) (λX=>[⟨false,23,1,.ints .u32 (X.2.2)⟩])
theorem Zbu:bj pG yF:=oT (.cons Qv0 (.cons Wp (.cons Qpm (.cons Qsu (.cons Qvd (.cons Z8c (.cons Zgo (.cons Z1r (.cons No (.cons Zmf (.nil))))))))))) Tryz.func143 Tryz.call143 [] [] 2
end
noncomputable section
def Tw(steps:Int):Tree Int:=
.lf (if 4000<if 0>steps then 0 else steps then 4000 else if 0>steps then 0 else steps)
def ra steps:=(Tw steps).m
def Z6n:bf:=mS 265 [] true [.one (.int .i64)] [] (λa r=>Tw (ar a 0)) (λX=>.int .i64 X) (λX=>[])
theorem Z2d:bj pG Z6n:=oS (.nil) Tryz.func265 Tryz.call265 [] [] 2
def Zak(t:iZ)(now:Int):Tree Bool:=
.br t.D3 (.lf (decide (now>=t.C3))) (.lf false)
def JB t now:=(Zak t now).m
def Zt7:bf:=mS 266 [] true [.agg iZ.sig,.one (.int .u32)] [] (λa r=>Zak (iZ.of (aC a 0)) (ar a 1)) (λX=>.bool X) (λX=>[])
theorem Zlm:bj pG Zt7:=oS (.nil) Tryz.func266 Tryz.call266 [] [] 2
def Qdn(m:av)(z:(Int)):Nat:=(32-z).toNat
def Ml(m:av):Tree bm:=
.an (Qg7 m) (.lv (BE m) λ(x0:Int)=>.br (bd u32 m.B0.B3.a0 (2:Int)==(0:Int)) (.lf m.B0) (.br (x0==0) (.lf m.B0) (.lp inferInstance (Qdn m 0+1) ((rZ/\rZ/\rE (x0:Int)/\rE (0:Int)/\True)/\(mE m (((ak.Nil (ak.ints u32 m.Mem)\/rE (1:Nat))/\rE m.Mem)) True)/\(rE (0:Int)/\rE (0:Int)/\rE (0:Int)/\rE (0:Int)/\rE (0:Int)/\rE (0:Int)/\rE (0:Int)/\rE (0:Int)/\rE (0:Int)/\rE (0:Int)/\rE (0:Int)/\rE (0:Int)/\rE (0:Int)/\rE (0:Int)/\rE (0:Int)/\rE (0:Int)/\rE (0:Int)/\rE (0:Int)/\rE (0:Int)/\rE (0:Int)/\rE (0:Int)/\rE (0:Int)/\rE (0:Int)/\rE (0:Int)/\rE (0:Int)/\True)/\True) 0 λ(v0:Int)=>.cn (decide (0<=wrap u64 v0)) (.br (bd u32 (bg u32 x0 (wrap u64 v0)) (1:Int)==(0:Int)) (.nx ((rZ/\rZ/\rE (x0:Int)/\rE ((wrap i64 (v0+1)):Int)/\True)/\(mE m (((ak.Nil (ak.ints u32 m.Mem)\/rE (1:Nat))/\rE m.Mem)) True)/\(rE (0:Int)/\rE (0:Int)/\rE (0:Int)/\rE (0:Int)/\rE (0:Int)/\rE (0:Int)/\rE (0:Int)/\rE (0:Int)/\rE (0:Int)/\rE (0:Int)/\rE (0:Int)/\rE (0:Int)/\rE (0:Int)/\rE (0:Int)/\rE (0:Int)/\rE (0:Int)/\rE (0:Int)/\rE (0:Int)/\rE (0:Int)/\rE (0:Int)/\rE (0:Int)/\rE (0:Int)/\rE (0:Int)/\rE (0:Int)/\rE (0:Int)/\True)/\True) (Sum.inl (wrap i64 (v0+1)))) (.lv (rb m.B0 (wrap i64 (16+v0)) 0) λ(x1:bm)=>.lf (Sum.inr x1))))))
def mf m:=(Ml m).m
abbrev Q6n m:=(Ml m).p
def Qtt:bn:={
 α:=(Int)
 F:=λst a=>([(1,.ptr 0 0 0),(2,.ptr 1 0 0),(3,(lk st 3)),(4,.int i64 a)],[⟨true,42,49,.gen [mB (cT st 1)]⟩,⟨true,28,25,.gen [[(cT st 2 0),(cT st 2 1),(cT st 2 2),(cT st 2 3),(cT st 2 4),(cT st 2 5),(cT st 2 6),(cT st 2 7),(cT st 2 8),(cT st 2 9),(cT st 2 10),(cT st 2 11),(cT st 2 12),(cT st 2 13),(cT st 2 14),(cT st 2 15),(cT st 2 16),(cT st 2 17),(cT st 2 18),(cT st 2 19),(cT st 2 20),(cT st 2 21),(cT st 2 22),(cT st 2 23),(cT st 2 24)]]⟩])
 a0:=λst=>(lk st 4).toInt
 iL:=λst=>[]++[(rX st 1 0),(rX st 2 1)]}
def Qq8:List (Nat×bn):=[(5,Qtt)]
def Qwo:bf:=mT 142 [] true [.agg av.sig] [] (λa r=>Ml (av.of (aC a 0))) (λX=>.agg (bm.cells X)) (λX=>[])
theorem Qbt:bj pG Qwo:=oT (.cons Qpc (.cons Wp (.nil))) Tryz.func142 Tryz.call142 [] Qq8 3
def R7(m:av):Tree Bool:=
.an (Q6n m) (.lv (mf m) λ(x0:bm)=>.br (bd u32 x0.B3.a0 (1:Int)==(0:Int)) (.lf false) (.an (Wq m.Mem x0.Pc 4) (.lv (kW m.Mem x0.Pc 4) λ(x1:Int×Bool)=>.lv (rI x1.1) λ(x2:gw×Bool)=>.br x1.2 (.br x2.2 (.br (x2.1.Op==60) (.lf (x2.1.bo==2)) (.lf false)) (.lf false)) (.lf false))))
def lU m:=(R7 m).m
abbrev Wb m:=(R7 m).p
def Zhy:bf:=mT 105 [] true [.agg av.sig] [] (λa r=>R7 (av.of (aC a 0))) (λX=>.bool X) (λX=>[])
theorem Qms:bj pG Zhy:=oT (.cons Qbt (.cons Qpm (.cons Qsu (.nil)))) Tryz.func105 Tryz.call105 [] [] 2
def R8(m:av):Tree Bool:=
.an (We m) (.lv (mJ m) λ(x0:Bool)=>.br x0 (.lf false) (.an (Wb m) (.lv (lU m) λ(x1:Bool)=>.lf x1)))
def Hw m:=(R8 m).m
abbrev Qbx m:=(R8 m).p
def Qz2:bf:=mT 267 [] true [.agg av.sig] [] (λa r=>R8 (av.of (aC a 0))) (λX=>.bool X) (λX=>[])
theorem Qw5:bj pG Qz2:=oT (.cons Qwd (.cons Qms (.nil))) Tryz.func267 Tryz.call267 [] [] 2
def Ho(c:iY)(port:Int):Tree (iY×Int):=
let T1:Tree ((iY×Int)):=.br (port==0) (.cn (decide ((0:Int)<=(1:Int)/\1<=(c.C9.length:Int)/\(c.C9.length:Int)<=(c.C9.length:Int))) (.cn (decide ((0:Int)<=(0:Int)/\0<(c.C9.length:Int))) (.lf ({C9:=dB (dF (c.C9.length:Int)-dF 1) (dC (dF 1) c.C9)},wrap u32 (↑(eW (c.C9.getD (dF 0) (0:UInt8))):Int))))) (.br (port==1) (.lf (c,wrap u32 (c.C9.length:Int))) (.lf (c,0)));.br (port==0) (.br ((c.C9.length:Int)==(0:Int)) (.lf (c,4294967295)) T1) T1
def Ju c port:=(Ho c port).m
theorem Qv7(c:iY)(port:Int):(Ho c port).p:=by
 unfold Tree.p Ho
 repeat'(first|exact trivial|refine aa (λ_=>?_) (λ_=>?_)|refine au ?_ ?_|refine cj ?_ ?_|refine aq (λ_ _=>?_)|refine ea ?_|refine dc ?_|refine And.intro ?_ ?_)
 all_goals(exact nY)
def Z25:bf:=mS 215 [] true [.agg iY.sig,.one (.int .i64)] [] (λa r=>Ho (iY.of (aC a 0)) (ar a 1)) (λX=>.dt [.agg (iY.cells (X.1)),.int .u32 (X.2)]) (λX=>[])
theorem Qly:bj pG Z25:=oS (.nil) Tryz.func215 Tryz.call215 [] [] 2 (λ_ _ _=>by kernel_rfl) (λa r=>Qv7 (iY.of (aC a 0)) (ar a 1)) (λ_ X=>by kernel_rfl)
def VO(t:iZ):Tree Int:=
.br t.D2 (.lf 1) (.lf 0)
def Ux t:=(VO t).m
def Z8h:bf:=mS 216 [] true [.agg iZ.sig] [] (λa r=>VO (iZ.of (aC a 0))) (λX=>.int .u32 X) (λX=>[])
theorem Qoy:bj pG Z8h:=oS (.nil) Tryz.func216 Tryz.call216 [] [] 2
def VN(d0:fv)(port:Int):Tree Int:=
.br (port==4) (.lf d0.C2) (.br (port==5) (.lf d0.Frame) (.br (port==6) (.lf (wrap u32 d0.B8)) (.lf 0)))
def Uw d0 port:=(VN d0 port).m
def Zdg:bf:=mS 217 [] true [.agg fv.sig,.one (.int .i64)] [] (λa r=>VN (fv.of (aC a 0)) (ar a 1)) (λX=>.int .u32 X) (λX=>[])
theorem Qt8:bj pG Zdg:=oS (.nil) Tryz.func217 Tryz.call217 [] [] 2
def O0(n:ik)(port:Int):Tree Int:=
.br (port==7) (.lf n.Frame) (.br (port==8) (.lf n.F0) (.br (port==9) (.br n.C5 (.br n.B5 (.lf (wrap u32 ((1:Int)+(2:Int)))) (.lf 1)) (.br n.B5 (.lf (wrap u32 ((0:Int)+(2:Int)))) (.lf 0))) (.lf 0)))
def OZ n port:=(O0 n port).m
def Zh3:bf:=mS 218 [] true [.agg ik.sig,.one (.int .i64)] [] (λa r=>O0 (ik.of (aC a 0)) (ar a 1)) (λX=>.int .u32 X) (λX=>[])
theorem Qve:bj pG Zh3:=oS (.nil) Tryz.func218 Tryz.call218 [] [] 2
def Mf(b:iu)(port:Int):Tree Int:=
.br (port==10) (.lf b.C7) (.br (port==11) (.lv (Ma b) λ(x0:Int)=>.lf (wrap u32 x0)) (.lf 0))
def Q5 b port:=(Mf b port).m
def Z2b:bf:=mS 219 [] true [.agg iu.sig,.one (.int .i64)] [] (λa r=>Mf (iu.of (aC a 0)) (ar a 1)) (λX=>.int .u32 X) (λX=>[])
theorem Qlm:bj pG Z2b:=oS (.cons Qvc (.nil)) Tryz.func219 Tryz.call219 [] [] 2
def Qf(m:av)(port clock:Int):Tree (Int×av):=
.br (decide (port<=1)) (.lv (Ju m.A3 port) λ(x0:iY×Int)=>.lf (x0.2,{B0:=m.B0,Mem:=m.Mem,A3:=x0.1,A9:=m.A9,A7:=m.A7,C1:=m.C1,A2:=m.A2,A1:=m.A1,A4:=m.A4,A6:=m.A6})) (.br (port==2) (.lf (clock,m)) (.br (port==3) (.lv (Ux m.A9) λ(x1:Int)=>.lf (x1,m)) (.br (decide (port<=6)) (.lv (Uw m.A7 port) λ(x2:Int)=>.lf (x2,m)) (.br (decide (port<=9)) (.lv (OZ m.C1 port) λ(x3:Int)=>.lf (x3,m)) (.lv (Q5 m.A2 port) λ(x4:Int)=>.lf (x4,m))))))
def w5 m port clock:=(Qf m port clock).m
def vF:bf:=mS 144 [true,false,false] true [.ptr 0,.one (.int .i64),.one (.int .u32)] [.box 42 49 (av.kZ (.row 1)),.arr 23 1 (.ints .u32)] (λa r=>Qf (av.rA (r.getD 0 default).cs (gj .u32 r 1)) (ar a 1) (ar a 2)) (λX=>.int .u32 (X.1)) (λX=>[⟨true,42,49,.gen [(av.ff (X.2) (.all 1))]⟩,⟨false,23,1,.ints .u32 (X.2).Mem⟩])
theorem Zt6:bj pG vF:=oS (.cons Qly (.cons Qoy (.cons Qt8 (.cons Qve (.cons Qlm (.nil)))))) Tryz.func144 Tryz.call144 [.row 23 1 (.ints .u32)] [] 2
def O2(deadline:Int):Tree iZ:=
.br (deadline==0) (.lf ({D3:=false,C3:=0,D2:=false})) (.lf ({D3:=true,C3:=deadline,D2:=false}))
def O1 deadline:=(O2 deadline).m
def Zs6:bf:=mS 220 [] true [.one (.int .u32)] [] (λa r=>O2 (ar a 0)) (λX=>.agg (iZ.cells X)) (λX=>[])
theorem Z72:bj pG Zs6:=oS (.nil) Tryz.func220 Tryz.call220 [] [] 2
def Qww(x n:Int)(z:(Int)×(List Int)):Prop:=0<=z.1/\(z.2.length:Int)=z.1/\(z.1<=n\/z.1=0)
def VM(x n:Int)(z:(Int)×(List Int)):Nat:=(n-z.1).toNat
def M9(x n:Int):Tree (List UInt8):=
.lp inferInstance (VM x n (0,[])+1) ((rE (x:Int)/\rE (n:Int)/\True/\rE (0:Int)/\True)/\rE ([]:List Int)/\True) (0,[]) λ(v0:Int×List Int)=>.br (decide (v0.1<n)) (.cn (decide (0<=wrap u64 (wrap i64 (8*v0.1)))) (.cn (decide (1*(v0.2.length+1)<=140737488355328)) (.nx ((rE (x:Int)/\rE (n:Int)/\True/\rE ((wrap i64 (v0.1+1)):Int)/\True)/\rE ((v0.2++[wrap u8 (bg u32 x (wrap u64 (wrap i64 (8*v0.1))))]):List Int)/\True) (Sum.inl (wrap i64 (v0.1+1),v0.2++[wrap u8 (bg u32 x (wrap u64 (wrap i64 (8*v0.1))))]))))) (.lf (Sum.inr (bytesOf v0.2)))
def X4 x n:=(M9 x n).m
def Ws(x n:Int):Prop:=
n<=1000000000000
theorem Zip(x n:Int)(hw:Ws x n):(M9 x n).p:=by
 simp only[Ws]at hw
 unfold Tree.p M9
 repeat'(first|refine fi (inv:=Qww x n) (μ:=VM x n) ?_ (cO _) (λ_ _=>?_)|exact trivial|refine aa (λ_=>?_) (λ_=>?_)|refine au ?_ ?_|refine cj ?_ ?_|refine aq (λ_ _=>?_)|refine ea ?_|refine dc ?_|refine And.intro ?_ ?_)
 all_goals((try simp only[Qww,VM]at*);exact nY)
def Zmw:bn:={
 α:=(Int)×(List Int)
 F:=λst a=>([(0,(lk st 0)),(1,(lk st 1)),(5,.all 0),(6,.int i64 a.1)],[⟨false,5,1,.ints u8 a.2⟩])
 a0:=λst=>((lk st 6).toInt,(mG st.rows (rN st 5)))
 iL:=λst=>[]++[(rX st 5 0)]}
def Zel:List (Nat×bn):=[(3,Zmw)]
def Zsa:bf:=mP 304 [] true [.one (.int .u32),.one (.int .i64)] [] (λa r=>Ws (ar a 0) (ar a 1)) (λa r=>X4 (ar a 0) (ar a 1)) (λX=>.str X) (λX=>[])
theorem Zml:bj pG Zsa:=ue drawn mQ (.nil) Tryz.func304 Tryz.call304 (λa r=>M9 (ar a 0) (ar a 1)) [] Zel 3 (hp:=λa r h=>Zip (ar a 0) (ar a 1) h)
def X5(m:List Int)(frame:Int)(z:(Int)×(List Int)):Nat:=(32-z.1).toNat
def Hh(m:List Int)(frame:Int):Tree ((List UInt8)×Bool):=
.br (decide (frame<0)) (.lf ([],false)) (.lv (wX m) λ(x0:Int)=>.br (decide (frame>=x0)) (.lf ([],false)) (.lp inferInstance (X5 m frame (0,[])+1) ((((ak.Nil (ak.ints u32 m)\/rE (1:Nat))/\rE (m:List Int))/\rE (frame:Int)/\True/\rE (0:Int)/\True)/\rE ([]:List Int)/\True) (0,[]) λ(v0:Int×List Int)=>.br (decide (v0.1<32)) (.cn (bT 1 1&&bJ 0 1&&decide (0<=wrap i64 (wrap i64 (frame*32)+v0.1)/\wrap i64 (wrap i64 (frame*32)+v0.1)<(m.length:Int))) (let E1:=m.getD (dF (wrap i64 (wrap i64 (frame*32)+v0.1))) 0;.an (Ws E1 4) (.lv (X4 E1 4) λ(x1:List UInt8)=>.cn (decide (1*(v0.2.length+dK (iW x1))<=140737488355328)) (.nx ((((ak.Nil (ak.ints u32 m)\/rE (1:Nat))/\rE (m:List Int))/\rE (frame:Int)/\True/\rE ((wrap i64 (v0.1+1)):Int)/\True)/\rE ((v0.2++iW x1):List Int)/\True) (Sum.inl (wrap i64 (v0.1+1),v0.2++iW x1)))))) (.lf (Sum.inr (bytesOf v0.2,true)))))
def LQ m frame:=(Hh m frame).m
abbrev Qh2 m frame:=(Hh m frame).p
def Zk1:bn:={
 α:=(Int)×(List Int)
 F:=λst a=>([(0,(lk st 0)),(1,(lk st 1)),(6,.all 0),(7,.int i64 a.1)],[⟨false,5,1,.ints u8 a.2⟩])
 a0:=λst=>((lk st 7).toInt,(mG st.rows (rN st 6)))
 iL:=λst=>[]++[(rX st 6 0)]}
def Z85:List (Nat×bn):=[(5,Zk1)]
def Zl8:bf:=mT 283 [] true [.one (.ints .u32),.one (.int .i64)] [] (λa r=>Hh (eg .u32 a 0) (ar a 1)) (λX=>.dt [.str (X.1),.bool (X.2)]) (λX=>[])
theorem Z14:bj pG Zl8:=oT (.cons SD (.cons Zml (.nil))) Tryz.func283 Tryz.call283 [] Z85 3
def Qsq(d0:fv)(cr:Int):Tree (dk×Bool):=
.br (d0.B8 !=1) (.lf ({C0:=0,At:=0,C2:=0,D0:=[]},false)) (.br (d0.D5==1) (.lf ({C0:=3,At:=cr,C2:=d0.B6,D0:=[]},true)) (.br (d0.D5==2) (.lf ({C0:=4,At:=cr,C2:=d0.B6,D0:=d0.B7},true)) (.lf ({C0:=0,At:=0,C2:=0,D0:=[]},false))))
def Yo d0 cr:=(Qsq d0 cr).m
def Z96:bf:=mS 284 [] true [.agg fv.sig,.one (.int .u64)] [] (λa r=>Qsq (fv.of (aC a 0)) (ar a 1)) (λX=>.dt [.agg (dk.cells (X.1)),.bool (X.2)]) (λX=>[])
theorem Z7i:bj pG Z96:=oS (.nil) Tryz.func284 Tryz.call284 [] [] 2
def Hp(d0:fv)(m:List Int)(port v cr:Int):Tree (fv×(List dk)):=
.br (port==4) (.lf ({ag:=d0.ag,C2:=v,Frame:=d0.Frame,B8:=d0.B8,D5:=d0.D5,B6:=d0.B6,B2:=d0.B2,B7:=d0.B7},[])) (.br (port==5) (.lf ({ag:=d0.ag,C2:=d0.C2,Frame:=v,B8:=d0.B8,D5:=d0.D5,B6:=d0.B6,B2:=d0.B2,B7:=d0.B7},[])) (.br (port !=6) (.lf (d0,[])) (let T1:Tree ((fv×(List dk))):=.br (d0.B8==0) (let T2:Tree ((fv×(List dk))):=.lf ({ag:=d0.ag,C2:=d0.C2,Frame:=d0.Frame,B8:=3,D5:=d0.D5,B6:=d0.B6,B2:=d0.B2,B7:=d0.B7},[]);.br (decide (d0.C2>=d0.ag)) T2 (.lv (ob m d0.Frame) λ(x0:Bool)=>.br (!x0) T2 (.br (v==2) (.an (Qh2 m (wrap i64 d0.Frame)) (.lv (LQ m (wrap i64 d0.Frame)) λ(x1:List UInt8×Bool)=>let E4:=({ag:=d0.ag,C2:=d0.C2,Frame:=d0.Frame,B8:=1,D5:=wrap i64 v,B6:=d0.C2,B2:=d0.Frame,B7:=x1.1}:fv);.lv (Yo E4 cr) λ(x2:dk×Bool)=>.lf (E4,[x2.1]))) (let E5:=({ag:=d0.ag,C2:=d0.C2,Frame:=d0.Frame,B8:=1,D5:=wrap i64 v,B6:=d0.C2,B2:=d0.Frame,B7:=[]}:fv);.lv (Yo E5 cr) λ(x3:dk×Bool)=>.lf (E5,[x3.1]))))) (.lf (d0,[]));.br (v==0) (let T3:Tree ((fv×(List dk))):=.lf ({ag:=d0.ag,C2:=d0.C2,Frame:=d0.Frame,B8:=0,D5:=d0.D5,B6:=d0.B6,B2:=d0.B2,B7:=d0.B7},[]);.br (d0.B8==2) T3 (.br (d0.B8==3) T3 (.br (v==1) T1 (.br (v==2) T1 (.lf (d0,[])))))) (.br (v==1) T1 (.br (v==2) T1 (.lf (d0,[])))))))
def O4 d0 m port v cr:=(Hp d0 m port v cr).m
abbrev Qgb d0 m port v cr:=(Hp d0 m port v cr).p
def Z9l:bf:=mT 221 [] true [.agg fv.sig,.one (.ints .u32),.one (.int .i64),.one (.int .u32),.one (.int .u64)] [] (λa r=>Hp (fv.of (aC a 0)) (eg .u32 a 1) (ar a 2) (ar a 3) (ar a 4)) (λX=>.dt [.agg (fv.cells (X.1)),.sl 4 (.ax .ay (X.2)) true]) (λX=>[])
theorem Qpe:bj pG Z9l:=oT (.cons SE (.cons Z14 (.cons Z7i (.nil)))) Tryz.func221 Tryz.call221 [.sl (.ax .ay) true] [] 2
def Mb(n:ik)(m:List Int)(port v cr:Int):Tree (ik×(List dk)):=
.br (port==7) (.lf ({Frame:=v,D9:=n.D9,C5:=n.C5,B9:=n.B9,B5:=n.B5,F0:=n.F0},[])) (.br (port==8) (.lf ({Frame:=n.Frame,D9:=v,C5:=n.C5,B9:=n.B9,B5:=n.B5,F0:=n.F0},[])) (.br (port !=9) (.lf (n,[])) (.br (v==0) (.lf ({Frame:=n.Frame,D9:=n.D9,C5:=n.C5,B9:=n.B9,B5:=false,F0:=0},[])) (let T1:Tree ((ik×(List dk))):=.br (v==2) (.lv (ob m n.Frame) λ(x2:Bool)=>.br x2 (.br (!n.C5) (.br (!n.B5) (.lf ({Frame:=n.Frame,D9:=n.D9,C5:=true,B9:=n.Frame,B5:=n.B5,F0:=n.F0},[])) (.lf (n,[]))) (.lf (n,[]))) (.lf (n,[]))) (.lf (n,[]));.br (v==1) (.br (decide (n.D9>=1)) (.br (decide (n.D9<=128)) (.lv (ob m n.Frame) λ(x0:Bool)=>.br x0 (.an (Qh2 m (wrap i64 n.Frame)) (.lv (LQ m (wrap i64 n.Frame)) λ(x1:List UInt8×Bool)=>.cn (decide ((0:Int)<=(0:Int)/\0<=n.D9/\n.D9<=(x1.1.length:Int))) (.lf (n,[{C0:=2,At:=cr,C2:=0,D0:=dB (dF n.D9-dF 0) (dC (dF 0) x1.1)}])))) T1) T1) T1) T1))))
def Up n m port v cr:=(Mb n m port v cr).m
abbrev Qia n m port v cr:=(Mb n m port v cr).p
def Zcl:bf:=mT 222 [] true [.agg ik.sig,.one (.ints .u32),.one (.int .i64),.one (.int .u32),.one (.int .u64)] [] (λa r=>Mb (ik.of (aC a 0)) (eg .u32 a 1) (ar a 2) (ar a 3) (ar a 4)) (λX=>.dt [.agg (ik.cells (X.1)),.sl 4 (.ax .ay (X.2)) true]) (λX=>[])
theorem Qsl:bj pG Zcl:=oT (.cons SE (.cons Z14 (.nil))) Tryz.func222 Tryz.call222 [.sl (.ax .ay) true] [] 2
def Yw(b:iu)(m:List Int)(port v:Int)(z:(Int)×(List Int)):Nat:=(32-z.1).toNat
def BD(b:iu)(m:List Int)(port v:Int):Tree (iu×(List Int)):=
let T1:Tree ((iu×(List Int))):=.br (port==11) (.br (decide (v<32)) (.cn (decide (0<=v)) (.lf ({C7:=b.C7,C4:=oa u32 b.C4 (ek u32 1 v)},m))) (.lf (b,m))) (.lf (b,m));.br (port==10) (.lv (ob m v) λ(x0:Bool)=>.br x0 (.cn (decide (0<=v)) (.br (bd u32 (bg u32 b.C4 v) (1:Int)==(0:Int)) (.cn (decide (0<=v)) (.lp inferInstance (Yw b m port v (0,m)+1) ((True/\rE (v:Int)/\rZ/\rZ/\rE (0:Int)/\True)/\rE (m:List Int)/\(rE b.C7/\rE ((ij u32 b.C4 (ek u32 1 v)):Int)/\True)/\(rE (0:Int)/\rE (0:Int)/\True)/\True) (0,m) λ(v0:Int×List Int)=>.br (decide (v0.1<32)) (let E2:=wrap i64 (wrap i64 v*32)+v0.1;.cn (bT 1 1&&bJ 0 1&&decide (0<=wrap i64 E2/\wrap i64 E2<(v0.2.length:Int))) (.nx ((True/\rE (v:Int)/\rZ/\rZ/\rE ((wrap i64 (v0.1+1)):Int)/\True)/\rE ((dG v0.2 (dF (wrap i64 (wrap i64 (wrap i64 v*32)+v0.1))) 0):List Int)/\(rE b.C7/\rE ((ij u32 b.C4 (ek u32 1 v)):Int)/\True)/\(rE (0:Int)/\rE (0:Int)/\True)/\True) (Sum.inl (wrap i64 (v0.1+1),dG v0.2 (dF (wrap i64 E2)) 0)))) (.lf (Sum.inr ({C7:=b.C7,C4:=ij u32 b.C4 (ek u32 1 v)},v0.2))))) T1)) T1) T1
def AZ b m port v:=(BD b m port v).m
abbrev Qmx b m port v:=(BD b m port v).p
def Zix:bn:={
 α:=(Int)×(List Int)
 F:=λst a=>([(1,.all 0),(3,(lk st 3)),(4,.ptr 1 0 0),(8,.ptr 2 0 0),(9,.int i64 a.1)],[⟨false,23,1,.ints u32 a.2⟩,⟨true,39,2,.gen [[(cT st 4 0),(cT st 4 1)]]⟩,⟨true,39,2,.gen [[(cT st 8 0),(cT st 8 1)]]⟩])
 a0:=λst=>((lk st 9).toInt,(mG st.rows 0))
 iL:=λst=>[0]++[(rX st 4 1),(rX st 8 2)]}
def Z98:List (Nat×bn):=[(4,Zix)]
def Zld:bf:=mT 223 [false,true,false,false] true [.agg iu.sig,.one (.row 0),.one (.int .i64),.one (.int .u32)] [.arr 23 1 (.ints .u32)] (λa r=>BD (iu.of (aC a 0)) (gj .u32 r 0) (ar a 2) (ar a 3)) (λX=>.agg (iu.cells (X.1))) (λX=>[⟨false,23,1,.ints .u32 (X.2)⟩])
theorem Z00:bj pG Zld:=oT (.cons SE (.nil)) Tryz.func223 Tryz.call223 [] Z98 3
def Fy(m:av)(port v:Int):Tree ((List dk)×av):=
.br (port==0) (.lf ([{C0:=1,At:=m.A1,C2:=0,D0:=[(λ(n:Int)=>eY n.toNat) (wrap u8 v)]}],m)) (.br (decide (port<=2)) (.lf ([],m)) (.br (port==3) (.lv (O1 v) λ(x0:iZ)=>.lf ([],{B0:=m.B0,Mem:=m.Mem,A3:=m.A3,A9:=x0,A7:=m.A7,C1:=m.C1,A2:=m.A2,A1:=m.A1,A4:=m.A4,A6:=m.A6})) (.br (decide (port<=6)) (.an (Qgb m.A7 m.Mem port v m.A1) (.lv (O4 m.A7 m.Mem port v m.A1) λ(x1:fv×List dk)=>.lf (x1.2,{B0:=m.B0,Mem:=m.Mem,A3:=m.A3,A9:=m.A9,A7:=x1.1,C1:=m.C1,A2:=m.A2,A1:=m.A1,A4:=m.A4,A6:=m.A6}))) (.br (decide (port<=9)) (.an (Qia m.C1 m.Mem port v m.A1) (.lv (Up m.C1 m.Mem port v m.A1) λ(x2:ik×List dk)=>.lf (x2.2,{B0:=m.B0,Mem:=m.Mem,A3:=m.A3,A9:=m.A9,A7:=m.A7,C1:=x2.1,A2:=m.A2,A1:=m.A1,A4:=m.A4,A6:=m.A6}))) (.an (Qmx m.A2 m.Mem port v) (.lv (AZ m.A2 m.Mem port v) λ(x3:iu×List Int)=>.lf ([],{B0:=m.B0,Mem:=x3.2,A3:=m.A3,A9:=m.A9,A7:=m.A7,C1:=m.C1,A2:=x3.1,A1:=m.A1,A4:=m.A4,A6:=m.A6})))))))
def Ba m port v:=(Fy m port v).m
abbrev Z0i m port v:=(Fy m port v).p
def Zrn:bf:=mT 146 [true,false,false] true [.ptr 0,.one (.int .i64),.one (.int .u32)] [.box 42 49 (av.kZ (.row 1)),.arr 23 1 (.ints .u32)] (λa r=>Fy (av.rA (r.getD 0 default).cs (gj .u32 r 1)) (ar a 1) (ar a 2)) (λX=>.sl 4 (.ax .ay (X.1)) true) (λX=>[⟨true,42,49,.gen [(av.ff (X.2) (.all 1))]⟩,⟨false,23,1,.ints .u32 (X.2).Mem⟩])
theorem Znz:bj pG Zrn:=oT (.cons Z72 (.cons Qpe (.cons Qsl (.cons Z00 (.nil))))) Tryz.func146 Tryz.call146 [.sl (.ax .ay) true,.row 23 1 (.ints .u32)] [] 2
def K8(m:av)(clock:Int):Tree ((List dk)×av):=
.an (Q6n m) (.lv (mf m) λ(x0:bm)=>.an (Qty x0 m.Mem) (.lv (re x0 m.Mem) λ(x1:bm×kT×List Int)=>let E1:=({B0:=x1.1,Mem:=x1.2.2,A3:=m.A3,A9:=m.A9,A7:=m.A7,C1:=m.C1,A2:=m.A2,A1:=m.A1,A4:=false,A6:=m.A6}:av);.br (x1.2.1.C0==1) (.lv (w5 E1 x1.2.1.D1 clock) λ(x2:Int×av)=>.an (BT x2.2.B0 x1.2.1.E0 x2.1) (.lv (lO x2.2.B0 x1.2.1.E0 x2.1) λ(x3:bm)=>.lf ([],{B0:=x3,Mem:=x2.2.Mem,A3:=x2.2.A3,A9:=x2.2.A9,A7:=x2.2.A7,C1:=x2.2.C1,A2:=x2.2.A2,A1:=wrap u64 (x2.2.A1+1),A4:=x2.2.A4,A6:=x2.2.A6}))) (.br (x1.2.1.C0==2) (.an (Z0i E1 x1.2.1.D1 x1.2.1.Value) (.lv (Ba E1 x1.2.1.D1 x1.2.1.Value) λ(x4:List dk×av)=>.lf (x4.1,{B0:=x4.2.B0,Mem:=x4.2.Mem,A3:=x4.2.A3,A9:=x4.2.A9,A7:=x4.2.A7,C1:=x4.2.C1,A2:=x4.2.A2,A1:=wrap u64 (x4.2.A1+1),A4:=x4.2.A4,A6:=x4.2.A6}))) (.br (x1.2.1.C0==3) (.lf ([],{B0:=x1.1,Mem:=x1.2.2,A3:=m.A3,A9:=m.A9,A7:=m.A7,C1:=m.C1,A2:=m.A2,A1:=wrap u64 (m.A1+1),A4:=true,A6:=m.A6})) (.br (x1.2.1.C0==4) (.lf ([],{B0:=x1.1,Mem:=x1.2.2,A3:=m.A3,A9:=m.A9,A7:=m.A7,C1:=m.C1,A2:=m.A2,A1:=wrap u64 (m.A1+1),A4:=false,A6:=true})) (.lf ([],{B0:=x1.1,Mem:=x1.2.2,A3:=m.A3,A9:=m.A9,A7:=m.A7,C1:=m.C1,A2:=m.A2,A1:=wrap u64 (m.A1+1),A4:=false,A6:=m.A6})))))))
def fe m clock:=(K8 m clock).m
abbrev PI m clock:=(K8 m clock).p
def Z97:bf:=mT 89 [true,false] true [.ptr 0,.one (.int .u32)] [.box 42 49 (av.kZ (.row 1)),.arr 23 1 (.ints .u32)] (λa r=>K8 (av.rA (r.getD 0 default).cs (gj .u32 r 1)) (ar a 1)) (λX=>.sl 4 (.ax .ay (X.1)) true) (λX=>[⟨true,42,49,.gen [(av.ff (X.2) (.all 1))]⟩,⟨false,23,1,.ints .u32 (X.2).Mem⟩])
theorem Qqy:bj pG Z97:=oT (.cons Qbt (.cons Zbu (.cons Zt6 (.cons No (.cons Znz (.nil)))))) Tryz.func89 Tryz.call89 [.sl (.ax .ay) true,.row 23 1 (.ints .u32)] [] 2
end
noncomputable section
instance SH {α β:Type} [Inhabited β]:Inhabited (α⊕β):=⟨.inr default⟩
def Pf(m:dj)(port clock:Int):Tree (Int×dj):=
.br (decide (port<=1)) (.lv (Ju m.A0.A3 port) λ(x0:iY×Int)=>.lf (x0.2,{A0:={B0:=m.A0.B0,Mem:=m.A0.Mem,A3:=x0.1,A9:=m.A0.A9,A7:=m.A0.A7,C1:=m.A0.C1,A2:=m.A0.A2,A1:=m.A0.A1,A4:=m.A0.A4,A6:=m.A0.A6},B4:=m.B4,C8:=m.C8,B1:=m.B1})) (.br (port==2) (.lf (clock,m)) (.br (port==3) (.lv (Ux m.A0.A9) λ(x1:Int)=>.lf (x1,m)) (.br (decide (port<=6)) (.lv (Uw m.A0.A7 port) λ(x2:Int)=>.lf (x2,m)) (.br (decide (port<=9)) (.lv (OZ m.A0.C1 port) λ(x3:Int)=>.lf (x3,m)) (.lv (Q5 m.A0.A2 port) λ(x4:Int)=>.lf (x4,m))))))
def YN m port clock:=(Pf m port clock).m
def Zm0:bf:=mS 144 [true,false,false] true [.ptr 0,.one (.int .i64),.one (.int .u32)] [.box 154 52 (dj.kZ (.row 1) (.row 2) (.row 3)),.arr 23 1 (.ints .u32),.arr 103 4 (.ax .ab),.arr 72 3 (.ax .bc)] (λa r=>Pf (dj.rA (r.getD 0 default).cs (gj .u32 r 1) (jV .ab r 2) (jV .bc r 3)) (ar a 1) (ar a 2)) (λX=>.int .u32 (X.1)) (λX=>[⟨true,154,52,.gen [(dj.ff (X.2) (.all 1) (.all 2) (.all 3))]⟩,⟨false,23,1,.ints .u32 (X.2).A0.Mem⟩,⟨false,103,4,.ax .ab (X.2).C8⟩,⟨false,72,3,.ax .bc (X.2).B1⟩])
theorem Zhm:bj pG Zm0:=oS (.cons Qly (.cons Qoy (.cons Qt8 (.cons Qve (.cons Qlm (.nil)))))) Tryz.func144 Tryz.call144 [.row 23 1 (.ints .u32),.row 103 4 (.ax .ab),.row 72 3 (.ax .bc)] [] 2
def Mp(m:dj)(port v:Int):Tree ((List dk)×dj):=
.br (port==0) (.lf ([{C0:=1,At:=m.A0.A1,C2:=0,D0:=[(λ(n:Int)=>eY n.toNat) (wrap u8 v)]}],m)) (.br (decide (port<=2)) (.lf ([],m)) (.br (port==3) (.lv (O1 v) λ(x0:iZ)=>.lf ([],{A0:={B0:=m.A0.B0,Mem:=m.A0.Mem,A3:=m.A0.A3,A9:=x0,A7:=m.A0.A7,C1:=m.A0.C1,A2:=m.A0.A2,A1:=m.A0.A1,A4:=m.A0.A4,A6:=m.A0.A6},B4:=m.B4,C8:=m.C8,B1:=m.B1})) (.br (decide (port<=6)) (.an (Qgb m.A0.A7 m.A0.Mem port v m.A0.A1) (.lv (O4 m.A0.A7 m.A0.Mem port v m.A0.A1) λ(x1:fv×List dk)=>.lf (x1.2,{A0:={B0:=m.A0.B0,Mem:=m.A0.Mem,A3:=m.A0.A3,A9:=m.A0.A9,A7:=x1.1,C1:=m.A0.C1,A2:=m.A0.A2,A1:=m.A0.A1,A4:=m.A0.A4,A6:=m.A0.A6},B4:=m.B4,C8:=m.C8,B1:=m.B1}))) (.br (decide (port<=9)) (.an (Qia m.A0.C1 m.A0.Mem port v m.A0.A1) (.lv (Up m.A0.C1 m.A0.Mem port v m.A0.A1) λ(x2:ik×List dk)=>.lf (x2.2,{A0:={B0:=m.A0.B0,Mem:=m.A0.Mem,A3:=m.A0.A3,A9:=m.A0.A9,A7:=m.A0.A7,C1:=x2.1,A2:=m.A0.A2,A1:=m.A0.A1,A4:=m.A0.A4,A6:=m.A0.A6},B4:=m.B4,C8:=m.C8,B1:=m.B1}))) (.an (Qmx m.A0.A2 m.A0.Mem port v) (.lv (AZ m.A0.A2 m.A0.Mem port v) λ(x3:iu×List Int)=>.lf ([],{A0:={B0:=m.A0.B0,Mem:=x3.2,A3:=m.A0.A3,A9:=m.A0.A9,A7:=m.A0.A7,C1:=m.A0.C1,A2:=x3.1,A1:=m.A0.A1,A4:=m.A0.A4,A6:=m.A0.A6},B4:=m.B4,C8:=m.C8,B1:=m.B1})))))))
def YO m port v:=(Mp m port v).m
abbrev Qti m port v:=(Mp m port v).p
def Zjf:bf:=mT 146 [true,false,false] true [.ptr 0,.one (.int .i64),.one (.int .u32)] [.box 154 52 (dj.kZ (.row 1) (.row 2) (.row 3)),.arr 23 1 (.ints .u32),.arr 103 4 (.ax .ab),.arr 72 3 (.ax .bc)] (λa r=>Mp (dj.rA (r.getD 0 default).cs (gj .u32 r 1) (jV .ab r 2) (jV .bc r 3)) (ar a 1) (ar a 2)) (λX=>.sl 4 (.ax .ay (X.1)) true) (λX=>[⟨true,154,52,.gen [(dj.ff (X.2) (.all 1) (.all 2) (.all 3))]⟩,⟨false,23,1,.ints .u32 (X.2).A0.Mem⟩,⟨false,103,4,.ax .ab (X.2).C8⟩,⟨false,72,3,.ax .bc (X.2).B1⟩])
theorem Zd:bj pG Zjf:=oT (.cons Z72 (.cons Qpe (.cons Qsl (.cons Z00 (.nil))))) Tryz.func146 Tryz.call146 [.sl (.ax .ay) true,.row 23 1 (.ints .u32),.row 103 4 (.ax .ab),.row 72 3 (.ax .bc)] [] 2
def Ms(m:dj)(clock:Int):Tree ((List dk)×dj):=
.an (Q6n m.A0) (.lv (mf m.A0) λ(x0:bm)=>.an (Qty x0 m.A0.Mem) (.lv (re x0 m.A0.Mem) λ(x1:bm×kT×List Int)=>let E1:=({B0:=x1.1,Mem:=x1.2.2,A3:=m.A0.A3,A9:=m.A0.A9,A7:=m.A0.A7,C1:=m.A0.C1,A2:=m.A0.A2,A1:=m.A0.A1,A4:=false,A6:=m.A0.A6}:av);.br (x1.2.1.C0==1) (.lv (YN {A0:=E1,B4:=m.B4,C8:=m.C8,B1:=m.B1} x1.2.1.D1 clock) λ(x2:Int×dj)=>.an (BT x2.2.A0.B0 x1.2.1.E0 x2.1) (.lv (lO x2.2.A0.B0 x1.2.1.E0 x2.1) λ(x3:bm)=>.lf ([],{A0:={B0:=x3,Mem:=x2.2.A0.Mem,A3:=x2.2.A0.A3,A9:=x2.2.A0.A9,A7:=x2.2.A0.A7,C1:=x2.2.A0.C1,A2:=x2.2.A0.A2,A1:=wrap u64 (x2.2.A0.A1+1),A4:=x2.2.A0.A4,A6:=x2.2.A0.A6},B4:=x2.2.B4,C8:=x2.2.C8,B1:=x2.2.B1}))) (.br (x1.2.1.C0==2) (.an (Qti {A0:=E1,B4:=m.B4,C8:=m.C8,B1:=m.B1} x1.2.1.D1 x1.2.1.Value) (.lv (YO {A0:=E1,B4:=m.B4,C8:=m.C8,B1:=m.B1} x1.2.1.D1 x1.2.1.Value) λ(x4:List dk×dj)=>.lf (x4.1,{A0:={B0:=x4.2.A0.B0,Mem:=x4.2.A0.Mem,A3:=x4.2.A0.A3,A9:=x4.2.A0.A9,A7:=x4.2.A0.A7,C1:=x4.2.A0.C1,A2:=x4.2.A0.A2,A1:=wrap u64 (x4.2.A0.A1+1),A4:=x4.2.A0.A4,A6:=x4.2.A0.A6},B4:=x4.2.B4,C8:=x4.2.C8,B1:=x4.2.B1}))) (.br (x1.2.1.C0==3) (.lf ([],{A0:={B0:=x1.1,Mem:=x1.2.2,A3:=m.A0.A3,A9:=m.A0.A9,A7:=m.A0.A7,C1:=m.A0.C1,A2:=m.A0.A2,A1:=wrap u64 (m.A0.A1+1),A4:=true,A6:=m.A0.A6},B4:=m.B4,C8:=m.C8,B1:=m.B1})) (.br (x1.2.1.C0==4) (.lf ([],{A0:={B0:=x1.1,Mem:=x1.2.2,A3:=m.A0.A3,A9:=m.A0.A9,A7:=m.A0.A7,C1:=m.A0.C1,A2:=m.A0.A2,A1:=wrap u64 (m.A0.A1+1),A4:=false,A6:=true},B4:=m.B4,C8:=m.C8,B1:=m.B1})) (.lf ([],{A0:={B0:=x1.1,Mem:=x1.2.2,A3:=m.A0.A3,A9:=m.A0.A9,A7:=m.A0.A7,C1:=m.A0.C1,A2:=m.A0.A2,A1:=wrap u64 (m.A0.A1+1),A4:=false,A6:=m.A0.A6},B4:=m.B4,C8:=m.C8,B1:=m.B1})))))))
def Mr m clock:=(Ms m clock).m
abbrev Wt m clock:=(Ms m clock).p
def Z22:bf:=mT 89 [true,false] true [.ptr 0,.one (.int .u32)] [.box 154 52 (dj.kZ (.row 1) (.row 2) (.row 3)),.arr 23 1 (.ints .u32),.arr 103 4 (.ax .ab),.arr 72 3 (.ax .bc)] (λa r=>Ms (dj.rA (r.getD 0 default).cs (gj .u32 r 1) (jV .ab r 2) (jV .bc r 3)) (ar a 1)) (λX=>.sl 4 (.ax .ay (X.1)) true) (λX=>[⟨true,154,52,.gen [(dj.ff (X.2) (.all 1) (.all 2) (.all 3))]⟩,⟨false,23,1,.ints .u32 (X.2).A0.Mem⟩,⟨false,103,4,.ax .ab (X.2).C8⟩,⟨false,72,3,.ax .bc (X.2).B1⟩])
theorem Qy9:bj pG Z22:=oT (.cons Qbt (.cons Zbu (.cons Zhm (.cons No (.cons Zd (.nil)))))) Tryz.func89 Tryz.call89 [.sl (.ax .ay) true,.row 23 1 (.ints .u32),.row 103 4 (.ax .ab),.row 72 3 (.ax .bc)] [] 2
def Xs(r:dj)(steps clock:Int)(z:(Int)×dj):Nat:=(z.2.B1.length-z.1).toNat
def N2(r:dj)(steps clock:Int)(v0:Int×dj)(z:(Int)×dj×(List dk)):Nat:=(4000-z.1).toNat
def I3(r:dj)(steps clock:Int):Tree (dj×(List dk)):=
.an (Qmm r) (.lv (UC r) λ(x0:dj)=>.lv (o9 x0.A0) λ(x1:Bool)=>.br (!x1) (.lf (x0,[])) (.lp inferInstance (Xs r steps clock (0,{A0:=x0.A0,B4:=if clock>x0.B4 then clock else x0.B4,C8:=x0.C8,B1:=x0.B1})+1) ((rE (steps:Int)/\rZ/\rZ/\rE (0:Int)/\True)/\(mE x0.A0 True (rE ((if clock>x0.B4 then clock else x0.B4):Int)/\True/\True/\True))/\rE x0.A0.Mem/\rE x0.C8/\rE x0.B1/\(mE zM True (rE (0:Int)/\True/\True/\True))/\True) (0,{A0:=x0.A0,B4:=if clock>x0.B4 then clock else x0.B4,C8:=x0.C8,B1:=x0.B1}) λ(v0:Int×dj)=>.br (decide (v0.1<(v0.2.B1.length:Int))) (.cn (bT 3 3&&bJ 0 3&&decide (0<=v0.1/\v0.1<(v0.2.B1.length:Int))) (let E1:=v0.2.B1.getD v0.1.toNat (RK.cw RK.bc);.an (Qjb v0.2 E1) (.lv (Pg v0.2 E1) λ(x2:dj)=>.nx ((rE (steps:Int)/\rZ/\rZ/\rE ((wrap i64 (v0.1+1)):Int)/\True)/\(mE x2.A0 True (rE x2.B4/\True/\True/\True))/\rE x2.A0.Mem/\rE x2.C8/\rE x2.B1/\(mE zM True (rE (0:Int)/\True/\True/\True))/\True) (Sum.inl (wrap i64 (v0.1+1),x2))))) (.lp inferInstance (N2 r steps clock v0 (0,{A0:=v0.2.A0,B4:=v0.2.B4,C8:=v0.2.C8,B1:=[]},[])+1) ((rE (steps:Int)/\rZ/\rZ/\True/\rE (0:Int)/\True)/\(mE v0.2.A0 True (rE v0.2.B4/\True/\True/\True))/\rE v0.2.A0.Mem/\rE v0.2.C8/\rE ([]:List (RK.T RK.bc))/\(mE zM True (rE (0:Int)/\True/\True/\True))/\rE ([]:List (RK.T RK.ay))/\True) (0,{A0:=v0.2.A0,B4:=v0.2.B4,C8:=v0.2.C8,B1:=[]},[]) λ(v1:Int×dj×List dk)=>.lv (ra steps) λ(x3:Int)=>.br (decide (v1.1<x3)) (.lv (JB v1.2.1.A0.A9 v1.2.1.B4) λ(x4:Bool)=>.br x4 (.an (Qjb v1.2.1 {C0:=2,N:=0,D0:=[]}) (.lv (Pg v1.2.1 {C0:=2,N:=0,D0:=[]}) λ(x5:dj)=>.an (We x5.A0) (.lv (mJ x5.A0) λ(x6:Bool)=>.br x6 (.lf (Sum.inr (Sum.inr (x5,v1.2.2)))) (.an (Qbx x5.A0) (.lv (Hw x5.A0) λ(x7:Bool)=>.br x7 (.cn (decide (40*(x5.C8.length+1)<=140737488355328)) (.an (Wt {A0:=x5.A0,B4:=x5.B4,C8:=x5.C8++[{At:=x5.A0.A1,C6:={C0:=1,N:=x5.B4,D0:=[]}}],B1:=x5.B1} x5.B4) (.lv (Mr {A0:=x5.A0,B4:=x5.B4,C8:=x5.C8++[{At:=x5.A0.A1,C6:={C0:=1,N:=x5.B4,D0:=[]}}],B1:=x5.B1} x5.B4) λ(x8:List dk×dj)=>.cn (decide (40*(v1.2.2.length+x8.1.length)<=140737488355328)) (.nx ((rE (steps:Int)/\rZ/\rZ/\True/\rE ((wrap i64 (v1.1+1)):Int)/\True)/\(mE x8.2.A0 True (rE ((wrap u32 (x8.2.B4+1)):Int)/\True/\True/\True))/\rE x8.2.A0.Mem/\rE x8.2.C8/\rE x8.2.B1/\(mE zM True (rE (0:Int)/\True/\True/\True))/\rE ((v1.2.2++x8.1):List (RK.T RK.ay))/\True) (Sum.inl (wrap i64 (v1.1+1),{A0:=x8.2.A0,B4:=wrap u32 (x8.2.B4+1),C8:=x8.2.C8,B1:=x8.2.B1},v1.2.2++x8.1)))))) (.an (Wt x5 x5.B4) (.lv (Mr x5 x5.B4) λ(x9:List dk×dj)=>.cn (decide (40*(v1.2.2.length+x9.1.length)<=140737488355328)) (.nx ((rE (steps:Int)/\rZ/\rZ/\True/\rE ((wrap i64 (v1.1+1)):Int)/\True)/\(mE x9.2.A0 True (rE ((wrap u32 (x9.2.B4+1)):Int)/\True/\True/\True))/\rE x9.2.A0.Mem/\rE x9.2.C8/\rE x9.2.B1/\(mE zM True (rE (0:Int)/\True/\True/\True))/\rE ((v1.2.2++x9.1):List (RK.T RK.ay))/\True) (Sum.inl (wrap i64 (v1.1+1),{A0:=x9.2.A0,B4:=wrap u32 (x9.2.B4+1),C8:=x9.2.C8,B1:=x9.2.B1},v1.2.2++x9.1)))))))))) (.an (We v1.2.1.A0) (.lv (mJ v1.2.1.A0) λ(jc:Bool)=>.br jc (.lf (Sum.inr (Sum.inr (v1.2.1,v1.2.2)))) (.an (Qbx v1.2.1.A0) (.lv (Hw v1.2.1.A0) λ(jM:Bool)=>.br jM (.cn (decide (40*(v1.2.1.C8.length+1)<=140737488355328)) (.an (Wt {A0:=v1.2.1.A0,B4:=v1.2.1.B4,C8:=v1.2.1.C8++[{At:=v1.2.1.A0.A1,C6:={C0:=1,N:=v1.2.1.B4,D0:=[]}}],B1:=v1.2.1.B1} v1.2.1.B4) (.lv (Mr {A0:=v1.2.1.A0,B4:=v1.2.1.B4,C8:=v1.2.1.C8++[{At:=v1.2.1.A0.A1,C6:={C0:=1,N:=v1.2.1.B4,D0:=[]}}],B1:=v1.2.1.B1} v1.2.1.B4) λ(jz:List dk×dj)=>.cn (decide (40*(v1.2.2.length+jz.1.length)<=140737488355328)) (.nx ((rE (steps:Int)/\rZ/\rZ/\True/\rE ((wrap i64 (v1.1+1)):Int)/\True)/\(mE jz.2.A0 True (rE ((wrap u32 (jz.2.B4+1)):Int)/\True/\True/\True))/\rE jz.2.A0.Mem/\rE jz.2.C8/\rE jz.2.B1/\(mE zM True (rE (0:Int)/\True/\True/\True))/\rE ((v1.2.2++jz.1):List (RK.T RK.ay))/\True) (Sum.inl (wrap i64 (v1.1+1),{A0:=jz.2.A0,B4:=wrap u32 (jz.2.B4+1),C8:=jz.2.C8,B1:=jz.2.B1},v1.2.2++jz.1)))))) (.an (Wt v1.2.1 v1.2.1.B4) (.lv (Mr v1.2.1 v1.2.1.B4) λ(jN:List dk×dj)=>.cn (decide (40*(v1.2.2.length+jN.1.length)<=140737488355328)) (.nx ((rE (steps:Int)/\rZ/\rZ/\True/\rE ((wrap i64 (v1.1+1)):Int)/\True)/\(mE jN.2.A0 True (rE ((wrap u32 (jN.2.B4+1)):Int)/\True/\True/\True))/\rE jN.2.A0.Mem/\rE jN.2.C8/\rE jN.2.B1/\(mE zM True (rE (0:Int)/\True/\True/\True))/\rE ((v1.2.2++jN.1):List (RK.T RK.ay))/\True) (Sum.inl (wrap i64 (v1.1+1),{A0:=jN.2.A0,B4:=wrap u32 (jN.2.B4+1),C8:=jN.2.C8,B1:=jN.2.B1},v1.2.2++jN.1)))))))))) (.lf (Sum.inr (Sum.inr (v1.2.1,v1.2.2)))))))
def UD r steps clock:=(I3 r steps clock).m
abbrev Qlf r steps clock:=(I3 r steps clock).p
def Z24:bn:={
 α:=(Int)×dj
 F:=λst a=>([(1,(lk st 1)),(3,.ptr 0 0 0),(6,.ptr 4 0 0),(8,.int i64 a.1)],[⟨true,154,52,.gen [[.int u32 a.2.A0.B0.X.a0,.int u32 a.2.A0.B0.X.a1,.int u32 a.2.A0.B0.X.a2,.int u32 a.2.A0.B0.X.a3,.int u32 a.2.A0.B0.X.a4,.int u32 a.2.A0.B0.X.a5,.int u32 a.2.A0.B0.X.a6,.int u32 a.2.A0.B0.X.a7,.int u32 a.2.A0.B0.X.a8,.int u32 a.2.A0.B0.X.a9,.int u32 a.2.A0.B0.X.kv,.int u32 a.2.A0.B0.X.ky,.int u32 a.2.A0.B0.X.a12,.int u32 a.2.A0.B0.X.kz,.int u32 a.2.A0.B0.X.kA,.int u32 a.2.A0.B0.X.kB,.int u32 a.2.A0.B0.Pc,.int u32 a.2.A0.B0.B3.a0,.int u32 a.2.A0.B0.B3.a1,.int u32 a.2.A0.B0.B3.a2,.int u32 a.2.A0.B0.B3.a3,.int u32 a.2.A0.B0.B3.a4,.int u32 a.2.A0.B0.B3.a5,.int u32 a.2.A0.B0.B3.a6,.int u32 a.2.A0.B0.B3.a7,.all 1,.str a.2.A0.A3.C9,.bool a.2.A0.A9.D3,.int u32 a.2.A0.A9.C3,.bool a.2.A0.A9.D2,.int u32 a.2.A0.A7.ag,.int u32 a.2.A0.A7.C2,.int u32 a.2.A0.A7.Frame,.int i64 a.2.A0.A7.B8,.int i64 a.2.A0.A7.D5,.int u32 a.2.A0.A7.B6,.int u32 a.2.A0.A7.B2,.str a.2.A0.A7.B7,.int u32 a.2.A0.C1.Frame,.int u32 a.2.A0.C1.D9,.bool a.2.A0.C1.C5,.int u32 a.2.A0.C1.B9,.bool a.2.A0.C1.B5,.int u32 a.2.A0.C1.F0,.int u32 a.2.A0.A2.C7,.int u32 a.2.A0.A2.C4,.int u64 a.2.A0.A1,.bool a.2.A0.A4,.bool a.2.A0.A6,.int u32 a.2.B4,.all 2,.all 3]]⟩,⟨false,23,1,.ints u32 a.2.A0.Mem⟩,⟨false,103,4,.ax RK.ab a.2.C8⟩,⟨false,72,3,.ax RK.bc a.2.B1⟩,⟨true,154,52,.gen [[(cT st 6 0),(cT st 6 1),(cT st 6 2),(cT st 6 3),(cT st 6 4),(cT st 6 5),(cT st 6 6),(cT st 6 7),(cT st 6 8),(cT st 6 9),(cT st 6 10),(cT st 6 11),(cT st 6 12),(cT st 6 13),(cT st 6 14),(cT st 6 15),(cT st 6 16),(cT st 6 17),(cT st 6 18),(cT st 6 19),(cT st 6 20),(cT st 6 21),(cT st 6 22),(cT st 6 23),(cT st 6 24),(cT st 6 25),(cT st 6 26),(cT st 6 27),(cT st 6 28),(cT st 6 29),(cT st 6 30),(cT st 6 31),(cT st 6 32),(cT st 6 33),(cT st 6 34),(cT st 6 35),(cT st 6 36),(cT st 6 37),(cT st 6 38),(cT st 6 39),(cT st 6 40),(cT st 6 41),(cT st 6 42),(cT st 6 43),(cT st 6 44),(cT st 6 45),(cT st 6 46),(cT st 6 47),(cT st 6 48),(cT st 6 49),(cT st 6 50),(cT st 6 51)]]⟩])
 a0:=λst=>((lk st 8).toInt,(⟨(mR (cT st 3) (mG st.rows (kP (cT st 3 25) 1000000))),(cT st 3 49).toInt,(r9 RK.ab st.rows (kP (cT st 3 50) 1000000)),(r9 RK.bc st.rows (kP (cT st 3 51) 1000000))⟩:dj))
 iL:=λst=>[]++[(rX st 3 0),(kP (cT st 3 25) (st.rows.length+1)),(kP (cT st 3 50) (st.rows.length+2)),(kP (cT st 3 51) (st.rows.length+3)),(rX st 6 4)]}
def Z1i:bn:={
 α:=(Int)×dj×(List dk)
 F:=λst a=>([(1,(lk st 1)),(3,.ptr 0 0 0),(6,.ptr 4 0 0),(9,.all 5),(10,.int i64 a.1)],[⟨true,154,52,.gen [[.int u32 a.2.1.A0.B0.X.a0,.int u32 a.2.1.A0.B0.X.a1,.int u32 a.2.1.A0.B0.X.a2,.int u32 a.2.1.A0.B0.X.a3,.int u32 a.2.1.A0.B0.X.a4,.int u32 a.2.1.A0.B0.X.a5,.int u32 a.2.1.A0.B0.X.a6,.int u32 a.2.1.A0.B0.X.a7,.int u32 a.2.1.A0.B0.X.a8,.int u32 a.2.1.A0.B0.X.a9,.int u32 a.2.1.A0.B0.X.kv,.int u32 a.2.1.A0.B0.X.ky,.int u32 a.2.1.A0.B0.X.a12,.int u32 a.2.1.A0.B0.X.kz,.int u32 a.2.1.A0.B0.X.kA,.int u32 a.2.1.A0.B0.X.kB,.int u32 a.2.1.A0.B0.Pc,.int u32 a.2.1.A0.B0.B3.a0,.int u32 a.2.1.A0.B0.B3.a1,.int u32 a.2.1.A0.B0.B3.a2,.int u32 a.2.1.A0.B0.B3.a3,.int u32 a.2.1.A0.B0.B3.a4,.int u32 a.2.1.A0.B0.B3.a5,.int u32 a.2.1.A0.B0.B3.a6,.int u32 a.2.1.A0.B0.B3.a7,.all 1,.str a.2.1.A0.A3.C9,.bool a.2.1.A0.A9.D3,.int u32 a.2.1.A0.A9.C3,.bool a.2.1.A0.A9.D2,.int u32 a.2.1.A0.A7.ag,.int u32 a.2.1.A0.A7.C2,.int u32 a.2.1.A0.A7.Frame,.int i64 a.2.1.A0.A7.B8,.int i64 a.2.1.A0.A7.D5,.int u32 a.2.1.A0.A7.B6,.int u32 a.2.1.A0.A7.B2,.str a.2.1.A0.A7.B7,.int u32 a.2.1.A0.C1.Frame,.int u32 a.2.1.A0.C1.D9,.bool a.2.1.A0.C1.C5,.int u32 a.2.1.A0.C1.B9,.bool a.2.1.A0.C1.B5,.int u32 a.2.1.A0.C1.F0,.int u32 a.2.1.A0.A2.C7,.int u32 a.2.1.A0.A2.C4,.int u64 a.2.1.A0.A1,.bool a.2.1.A0.A4,.bool a.2.1.A0.A6,.int u32 a.2.1.B4,.all 2,.all 3]]⟩,⟨false,23,1,.ints u32 a.2.1.A0.Mem⟩,⟨false,103,4,.ax RK.ab a.2.1.C8⟩,⟨false,72,3,.ax RK.bc a.2.1.B1⟩,⟨true,154,52,.gen [[(cT st 6 0),(cT st 6 1),(cT st 6 2),(cT st 6 3),(cT st 6 4),(cT st 6 5),(cT st 6 6),(cT st 6 7),(cT st 6 8),(cT st 6 9),(cT st 6 10),(cT st 6 11),(cT st 6 12),(cT st 6 13),(cT st 6 14),(cT st 6 15),(cT st 6 16),(cT st 6 17),(cT st 6 18),(cT st 6 19),(cT st 6 20),(cT st 6 21),(cT st 6 22),(cT st 6 23),(cT st 6 24),(cT st 6 25),(cT st 6 26),(cT st 6 27),(cT st 6 28),(cT st 6 29),(cT st 6 30),(cT st 6 31),(cT st 6 32),(cT st 6 33),(cT st 6 34),(cT st 6 35),(cT st 6 36),(cT st 6 37),(cT st 6 38),(cT st 6 39),(cT st 6 40),(cT st 6 41),(cT st 6 42),(cT st 6 43),(cT st 6 44),(cT st 6 45),(cT st 6 46),(cT st 6 47),(cT st 6 48),(cT st 6 49),(cT st 6 50),(cT st 6 51)]]⟩,⟨false,137,4,.ax RK.ay a.2.2⟩])
 a0:=λst=>((lk st 10).toInt,(⟨(mR (cT st 3) (mG st.rows (kP (cT st 3 25) 1000000))),(cT st 3 49).toInt,(r9 RK.ab st.rows (kP (cT st 3 50) 1000000)),(r9 RK.bc st.rows (kP (cT st 3 51) 1000000))⟩:dj),(r9 RK.ay st.rows (rN st 9)))
 iL:=λst=>[]++[(rX st 3 0),(kP (cT st 3 25) (st.rows.length+1)),(kP (cT st 3 50) (st.rows.length+2)),(kP (cT st 3 51) (st.rows.length+3)),(rX st 6 4),(rX st 9 5)]}
def Qwi:List (Nat×bn):=[(6,Z24),(12,Z1i)]
def Z7k:bf:=mT 201 [] true [.agg dj.sig,.one (.int .i64),.one (.int .u32)] [] (λa r=>I3 (dj.of (aC a 0)) (ar a 1) (ar a 2)) (λX=>.dt [.agg (dj.ff (X.1) (.all 0) (.all 1) (.all 2)),.all 3]) (λX=>[⟨false,23,1,.ints .u32 (X.1).A0.Mem⟩,⟨false,103,4,.ax .ab (X.1).C8⟩,⟨false,72,3,.ax .bc (X.1).B1⟩,⟨false,137,4,.ax .ay (X.2)⟩])
theorem Z2i:bj pG Z7k:=oT (.cons Z13 (.cons Wd (.cons Z99 (.cons Z2d (.cons Zlm (.cons Qwd (.cons Qw5 (.cons Qy9 (.nil))))))))) Tryz.func201 Tryz.call201 [.row 23 1 (.ints .u32),.row 103 4 (.ax .ab),.row 72 3 (.ax .bc),.row 137 4 (.ax .ay)] Qwi 3

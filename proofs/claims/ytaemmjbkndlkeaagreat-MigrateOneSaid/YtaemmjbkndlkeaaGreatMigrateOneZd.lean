import Derived.Test.YtaemmjbkndlkeaaGreatMigrateOneYz
open UInt8 renaming toNat->hY,ofNat->eD
open List renaming take->cU,drop->cV,length->dF,getD->aV
open Int renaming toNat->dA,tdiv->eF
open Nat renaming lt_succ_self->cN,beq->bX,blt->bN
set_option maxRecDepth 100000
set_option linter.all false
namespace Go.Proofs.YtaemmjbkndlkeaaGreat
open Go Go.GD Go.IntKind
noncomputable section
instance Rq {α β:Type} [Inhabited β]:Inhabited (α⊕β):=⟨.inr default⟩
def Z26(src:List UInt8)(z:(Int)×(Int)×(List (List UInt8))):Nat:=(src.length-z.2.1).toNat
def MZ(src:List UInt8):Tree (List (List UInt8)):=
.lp inferInstance (Z26 src (0,0,[])+1) ((rE (src:List UInt8)/\True/\rE (0:Int)/\rE (0:Int)/\True)/\rE ([]:List (RK.T RK.str))/\True) (0,0,[]) λ(v0:Int×Int×List (List UInt8))=>let E1:=decide (16*(v0.2.2.length+1)<=140737488355328);.br (decide (v0.2.1<(src.length:Int))) (.cn (decide (0<=v0.2.1/\v0.2.1<(src.length:Int))) (.br ((↑(hY (src.getD v0.2.1.toNat (0:UInt8))):Int)==(10:Int)) (.cn (decide (0<=v0.1/\v0.1<=v0.2.1/\v0.2.1<=(src.length:Int))) (.cn E1 (.nx ((rE (src:List UInt8)/\True/\rE ((wrap i64 (v0.2.1+1)):Int)/\rE ((wrap i64 (v0.2.1+1)):Int)/\True)/\rE ((v0.2.2++[cU (dA v0.2.1-dA v0.1) (cV v0.1.toNat src)]):List (RK.T RK.str))/\True) (Sum.inl (wrap i64 (v0.2.1+1),wrap i64 (v0.2.1+1),v0.2.2++[cU (dA v0.2.1-dA v0.1) (cV v0.1.toNat src)]))))) (.nx ((rE (src:List UInt8)/\True/\rE v0.1/\rE ((wrap i64 (v0.2.1+1)):Int)/\True)/\rE v0.2.2/\True) (Sum.inl (v0.1,wrap i64 (v0.2.1+1),v0.2.2))))) (.br (decide (v0.1<(src.length:Int))) (.cn (decide (0<=v0.1/\v0.1<=(src.length:Int)/\(src.length:Int)<=(src.length:Int))) (.cn E1 (.lf (Sum.inr (v0.2.2++[cU (dA (src.length:Int)-dA v0.1) (cV v0.1.toNat src)]))))) (.lf (Sum.inr v0.2.2)))
def Qzr src:=(MZ src).m
abbrev Qm0 src:=(MZ src).p
def Zft:cg:={
 α:=(Int)×(Int)×(List (List UInt8))
 F:=λst a=>([(0,(lk st 0)),(3,.all 0),(4,.int i64 a.1),(5,.int i64 a.2.1)],[⟨false,9,1,.ai RK.str a.2.2⟩])
 a0:=λst=>((lk st 4).toInt,(lk st 5).toInt,(rm RK.str st.rows (rN st 3)))
 ji:=λst=>[]++[(rX st 3 0)]}
def Z6c:List (Nat×cg):=[(4,Zft)]
def Zl:ba:=mT 175 [] true [.one (.str)] [] (λa r=>MZ (jy a 0)) (λX=>.all 0) (λX=>[⟨false,9,1,.ai .str X⟩])
theorem Zd1:bm pG Zl:=oT (.nil) Tryz.func175 Tryz.call175 [.row 9 1 (.ai .str)] Z6c 3
def Qvt(c:Int):Tree Bool:=
.br (decide (c>=97)) (.lf (decide (c<=122))) (.lf false)
def U3 c:=(Qvt c).m
def Zef:ba:=mS 261 [] true [.one (.int .u8)] [] (λa r=>Qvt (au a 0)) (λX=>.bool X) (λX=>[])
theorem Que:bm pG Zef:=oS (.nil) Tryz.func261 Tryz.call261 [] [] 2
def Z1z(c:Int):Tree Bool:=
.br (decide (c>=48)) (.lf (decide (c<=57))) (.lf false)
def Ma c:=(Z1z c).m
def Ziu:ba:=mS 262 [] true [.one (.int .u8)] [] (λa r=>Z1z (au a 0)) (λX=>.bool X) (λX=>[])
theorem Qxd:bm pG Ziu:=oS (.nil) Tryz.func262 Tryz.call262 [] [] 2
def Qzd(s:List UInt8)(z:(Bool)×(Int)×(List kP)):Nat:=(s.length-z.2.1).toNat
def Qzm(s:List UInt8)(v0:Bool×Int×List kP)(z:(Int)):Nat:=(s.length-z).toNat
def Z0q(s:List UInt8)(v0:Bool×Int×List kP)(z:(Int)):Nat:=(s.length-z).toNat
def M0(s:List UInt8):Tree ((List kP)×Bool):=
.lp inferInstance (Qzd s (true,0,[])+1) ((rE (s:List UInt8)/\True/\rE (true:Bool)/\rE (0:Int)/\True)/\rE ([]:List (RK.T RK.av))/\True) (true,0,[]) λ(v0:Bool×Int×List kP)=>.br (decide (v0.2.1<(s.length:Int))) (.cn (decide (0<=v0.2.1/\v0.2.1<(s.length:Int))) (let E7:=(↑(hY (s.getD v0.2.1.toNat (0:UInt8))):Int);.br (E7==(32:Int)) (.nx ((rE (s:List UInt8)/\True/\rE (true:Bool)/\rE ((wrap i64 (v0.2.1+1)):Int)/\True)/\rE v0.2.2/\True) (Sum.inl (true,wrap i64 (v0.2.1+1),v0.2.2))) (.lv (U3 E7) λ(x0:Bool)=>let mN:=decide (32*(v0.2.2.length+1)<=140737488355328);let AZ:=cV v0.2.1.toNat s;.br x0 (.lp inferInstance (Qzm s v0 v0.2.1+1) ((rE (s:List UInt8)/\True/\rE v0.1/\rE v0.2.1/\rE v0.2.1/\True)/\rE v0.2.2/\True) v0.2.1 λ(v1:Int)=>let T3:Tree ((Int)⊕((Bool×Int×List kP)⊕(((List kP)×Bool)))):=.cn (decide (0<=v0.2.1/\v0.2.1<=v1/\v1<=(s.length:Int))) (.cn mN (.nx ((rE (s:List UInt8)/\True/\rE (false:Bool)/\rE (v1:Int)/\True)/\rE ((v0.2.2++[{kind:=1,F2:=cU (dA v1-dA v0.2.1) (cV v0.2.1.toNat s),wO:=v0.1}]):List (RK.T RK.av))/\True) (Sum.inr (Sum.inl (false,v1,v0.2.2++[{kind:=1,F2:=cU (dA v1-dA v0.2.1) AZ,wO:=v0.1}])))));.br (decide (v1<(s.length:Int))) (let nK:=decide (0<=v1/\v1<(s.length:Int));.cn nK (let E8:=(↑(hY (s.getD v1.toNat (0:UInt8))):Int);.lv (U3 E8) λ(x1:Bool)=>let T5:Tree ((Int)⊕((Bool×Int×List kP)⊕(((List kP)×Bool)))):=.nx ((rE (s:List UInt8)/\True/\rE v0.1/\rE ((wrap i64 (v1+1)):Int)/\rE v0.2.1/\True)/\rE v0.2.2/\True) (Sum.inl (wrap i64 (v1+1)));.br x1 T5 (.cn nK (.lv (Ma E8) λ(x2:Bool)=>.br x2 T5 (.cn nK (.br (E8==(95:Int)) T5 T3)))))) T3) (.lv (Ma E7) λ(x3:Bool)=>let T2:Tree ((Bool×Int×List kP)⊕(((List kP)×Bool))):=.lp inferInstance (Z0q s v0 (wrap i64 (v0.2.1+1))+1) ((rE (s:List UInt8)/\True/\rE v0.1/\rE ((wrap i64 (v0.2.1+1)):Int)/\rE v0.2.1/\True)/\rE v0.2.2/\True) (wrap i64 (v0.2.1+1)) λ(v1:Int)=>let T4:Tree ((Int)⊕((Bool×Int×List kP)⊕(((List kP)×Bool)))):=.cn (decide (0<=v0.2.1/\v0.2.1<=v1/\v1<=(s.length:Int))) (.cn mN (.nx ((rE (s:List UInt8)/\True/\rE (false:Bool)/\rE (v1:Int)/\True)/\rE ((v0.2.2++[{kind:=2,F2:=cU (dA v1-dA v0.2.1) (cV v0.2.1.toNat s),wO:=v0.1}]):List (RK.T RK.av))/\True) (Sum.inr (Sum.inl (false,v1,v0.2.2++[{kind:=2,F2:=cU (dA v1-dA v0.2.1) AZ,wO:=v0.1}])))));.br (decide (v1<(s.length:Int))) (let oI:=decide (0<=v1/\v1<(s.length:Int));.cn oI (let E9:=(↑(hY (s.getD v1.toNat (0:UInt8))):Int);.lv (U3 E9) λ(x4:Bool)=>let T6:Tree ((Int)⊕((Bool×Int×List kP)⊕(((List kP)×Bool)))):=.nx ((rE (s:List UInt8)/\True/\rE v0.1/\rE ((wrap i64 (v1+1)):Int)/\rE v0.2.1/\True)/\rE v0.2.2/\True) (Sum.inl (wrap i64 (v1+1)));.br x4 T6 (.cn oI (.lv (Ma E9) λ(x5:Bool)=>.br x5 T6 (.cn oI (.br (E9==(95:Int)) T6 T4)))))) T4;.br x3 T2 (.br (E7==(45:Int)) T2 (let T1:Tree ((Bool×Int×List kP)⊕(((List kP)×Bool))):=.cn (decide (0<=v0.2.1/\v0.2.1<=wrap i64 (v0.2.1+1)/\wrap i64 (v0.2.1+1)<=(s.length:Int))) (.cn mN (.nx ((rE (s:List UInt8)/\True/\rE (false:Bool)/\rE ((wrap i64 (v0.2.1+1)):Int)/\True)/\rE ((v0.2.2++[{kind:=3,F2:=cU (dA (wrap i64 (v0.2.1+1))-dA v0.2.1) (cV v0.2.1.toNat s),wO:=v0.1}]):List (RK.T RK.av))/\True) (Sum.inl (false,wrap i64 (v0.2.1+1),v0.2.2++[{kind:=3,F2:=cU (dA (wrap i64 (v0.2.1+1))-dA v0.2.1) AZ,wO:=v0.1}]))));.br (E7==(44:Int)) T1 (.br (E7==(58:Int)) T1 (.br (E7==(40:Int)) T1 (.br (E7==(41:Int)) T1 (.br (E7==(46:Int)) T1 (.lf (Sum.inr ([],false))))))))))))) (.lf (Sum.inr (v0.2.2,true)))
def Z59 s:=(M0 s).m
abbrev Qkh s:=(M0 s).p
def Z9t:cg:={
 α:=(Bool)×(Int)×(List kP)
 F:=λst a=>([(0,(lk st 0)),(4,.all 0),(5,.bool a.1),(6,.int i64 a.2.1)],[⟨false,290,3,.ai RK.av a.2.2⟩])
 a0:=λst=>((lk st 5).toBool,(lk st 6).toInt,(rm RK.av st.rows (rN st 4)))
 ji:=λst=>[]++[(rX st 4 0)]}
def Z8n:cg:={
 α:=(Int)
 F:=λst a=>([(0,(lk st 0)),(4,.all 0),(5,(lk st 5)),(6,.int i64 a),(8,(lk st 8))],[⟨false,290,3,mH st.rows (rN st 4)⟩])
 a0:=λst=>(lk st 6).toInt
 ji:=λst=>[]++[(rX st 4 0)]}
def Za8:cg:={
 α:=(Int)
 F:=λst a=>([(0,(lk st 0)),(4,.all 0),(5,(lk st 5)),(6,.int i64 a),(8,(lk st 8))],[⟨false,290,3,mH st.rows (rN st 4)⟩])
 a0:=λst=>(lk st 6).toInt
 ji:=λst=>[]++[(rX st 4 0)]}
def Z25:List (Nat×cg):=[(4,Z9t),(12,Z8n),(17,Za8)]
def Zf8:ba:=mT 228 [] true [.one (.str)] [] (λa r=>M0 (jy a 0)) (λX=>.dw [.all 0,.bool (X.2)]) (λX=>[⟨false,290,3,.ai .av (X.1)⟩])
theorem Z8r:bm pG Zf8:=oT (.cons Que (.cons Qxd (.nil))) Tryz.func228 Tryz.call228 [.row 290 3 (.ai .av)] Z25 3
 def Rr (p:Int->Prop) (r:Int->List UInt8) (n:Int):Tree (List UInt8):=
 .br (decide (n<(10:Int))) (.lf ([(λ(n:Int)=>eD n.toNat) (wrap u8 (wrap u64 ((48:Int)+n)))])) (.an (p (wrap u64 (eF n (10:Int)))) (.lv (r (wrap u64 (eF n (10:Int)))) λ(x0:List UInt8)=>.cn (decide (x0.length+dF [(λ(n:Int)=>eD n.toNat) (wrap u8 (wrap u64 ((48:Int)+Int.tmod n (10:Int))))]<=maxLen)) (.lf (x0++[(λ(n:Int)=>eD n.toNat) (wrap u8 (wrap u64 ((48:Int)+Int.tmod n (10:Int))))]))))
 def Aw:Nat->Int->List UInt8
  |0,_=>[]
  |k+1,n=>(Rr (λ_=>True) (Aw k) n).m
 def JF (k:Nat) (n:Int):Prop:=0<=n/\n<10^k/\n<18446744073709551616/\0<k/\k<=30
 def Jab (k:Nat):ba:=kY 301 [] true [.one (.int .u64)] [] (λargs rows=>JF k (au args 0)) (λargs rows=>Aw k (au args 0)) (λX=>.str X) (λX=>[])
 theorem ov:∀k n,(Aw k n).length<=k
  |0,_=>Nat.le_refl _
  |k+1,n=>by
   show(bif decide (n<10)then _ else eh (Aw k _) λx0=>x0++_).length<=k+1
   have:=ov k (wrap u64 (eF n 10))
   cases decide (n<10)
   ·simp[eh,Tree.m];omega
   ·simp[Tree.m]
 theorem wH:∀k,bm pG (Jab k)
  |0=>Fp Tryz.call301 (λargs rows h=>absurd h.2.2.2.1 (Nat.lt_irrefl 0)) (λ_ X=>by kernel_rfl)
  |k + 1=>by
   refine uL drawn jt (.cons (wH k) .nil) Tryz.func301 Tryz.call301 (λargs rows=>Rr (JF k) (Aw k) (au args 0)) [] [] 2 (λ_ _ _=>by kernel_rfl) (λ_ _=>rfl) (λargs rows h=>?_) (λ_ X=>by kernel_rfl)
   obtain⟨h0,h1,h2,h3,h4⟩:=h
   generalize au args 0=n at*
   refine ae (λ_=>trivial) (λhn=>?_)
   have hn:=oN hn
   have e:wrap u64 (eF n 10)=n/10:=by rw[wrap_u64,Int.tdiv_eq_ediv_of_nonneg h0];omega
   refine c9 (show JF k _ from ?_) (aq λx hx=>ax (dY ?_) trivial)
   ·rw[e]
    rw[Int.pow_succ]at h1
    have hk:0<k:=by
     rcases Nat.eq_zero_or_pos k with rfl|h
     ·simp at h1;omega
     ·exact h
    exact⟨by omega,by omega,by omega,hk,by omega⟩
   ·have:=ov k (wrap u64 (eF n 10))
    rw[<-hx]at this
    simp[maxLen];omega
def Mb(n:Int):(List UInt8):=
Aw 20 n
def Ef(n:Int):Prop:=
0<=n/\n<18446744073709551616
def Qpm(n:Int):List D:=[.int .u64 n]
def Qph(n:Int):List Row:=[]
def Qj6(X:List UInt8):D:=.str X
def Qkd(X:List UInt8):List Row:=[]
def Qs4:List PT:=[.one (.int .u64)]
def Qpe:List RT:=[]
def Z8a(args:List D)(rows:List Row):(List UInt8):=Mb (au args 0)
def Z57(args:List D)(rows:List Row):Prop:=Ef (au args 0)
def Zf4:ba:=kY 301 [] true Qs4 Qpe Z57 Z8a Qj6 Qkd
theorem Qyh(n:Int)(hw:Ef n):kg pG 301 (Qpm n) (Qph n) (Qj6 (Mb n)) (Qkd (Mb n)):=by
 have h20:(18446744073709551616:Int)<=10^20:=by decide
 exact vB (args:=[.int .u64 n]) (rows:=[]) (wH 20) (by kernel_rfl) ⟨hw.1,Int.lt_of_lt_of_le hw.2 h20,hw.2,by decide,by decide⟩
set_option maxRecDepth 100000 in
theorem Z2p(args:List D)(rows:List Row):kM Qs4 args 0=Qpm (au args 0):=by kernel_rfl
set_option maxRecDepth 100000 in
theorem Z0d(args:List D)(rows:List Row):kh Qpe rows 0=Qph (au args 0):=by kernel_rfl
set_option maxRecDepth 100000 in
theorem Zaa(X:List UInt8):(sU (Qj6 X)&&jo (Qkd X))=true:=by kernel_rfl
theorem Z9p:bm pG Zf4:=Fp Tryz.call301 (λargs rows hp=>by rw[Z2p args rows,Z0d args rows];exact Qyh (au args 0) hp) (λ_ X=>Zaa X)
def H0(n:Int):Tree (List UInt8):=
.br (decide (n<0)) (let E1:=wrap u64 (wrap u64 (wrap i64 (0-wrap i64 (n+1)))+1);.an (Ef E1) (.lv (Mb E1) λ(x0:List UInt8)=>.cn (decide (1+x0.length<=maxLen)) (.lf ((45:UInt8)::x0)))) (.an (Ef (wrap u64 n)) (.lv (Mb (wrap u64 n)) λ(x1:List UInt8)=>.lf x1))
def Qrc n:=(H0 n).m
abbrev Qh5 n:=(H0 n).p
def Z9u:ba:=mT 298 [] true [.one (.int .i64)] [] (λa r=>H0 (au a 0)) (λX=>.str X) (λX=>[])
theorem Z5n:bm pG Z9u:=oT (.cons Z9p (.nil)) Tryz.func298 Tryz.call298 [] [] 2
def H2(r:Int):Tree (List UInt8):=
.an (Qh5 r) (.lv (Qrc r) λ(x0:List UInt8)=>.cn (decide (1+x0.length<=maxLen)) (.lf ((114:UInt8)::x0)))
def Zok r:=(H2 r).m
abbrev Qs r:=(H2 r).p
def Zqd:ba:=mT 288 [] true [.one (.int .i64)] [] (λa r=>H2 (au a 0)) (λX=>.str X) (λX=>[])
theorem Zlh:bm pG Zqd:=oT (.cons Z5n (.nil)) Tryz.func288 Tryz.call288 [] [] 2
def Qts(s:List UInt8)(z:(Int)):Prop:=0<=z/\z<=16
def Qg7(s:List UInt8)(z:(Int)):Nat:=(16-z).toNat
def U4(s:List UInt8):Tree (Int×Bool):=
.lp inferInstance (Qg7 s 0+1) ((rE (s:List UInt8)/\rE (0:Int)/\True)/\True) 0 λ(v0:Int)=>.br (decide (v0<16)) (.an (Qs v0) (.lv (Zok v0) λ(x0:List UInt8)=>.br (decide (s=x0)) (.lf (Sum.inr (v0,true))) (.nx ((rE (s:List UInt8)/\rE ((wrap i64 (v0+1)):Int)/\True)/\True) (Sum.inl (wrap i64 (v0+1)))))) (.lf (Sum.inr (0,false)))
def Qk1 s:=(U4 s).m
theorem Qvq(s:List UInt8):(U4 s).p:=by
 unfold Tree.p U4
 have dp:∀x,Ef (wrap .u64 x):=λx=>by unfold Ef;rw[wrap_u64];omega
 have dl:∀x,(Mb x).length<=20:=λx=>ov 20 x
 have hd:∀x,(H0 x).w (λr=>r.length<=21):=λx=>by
  unfold H0
  refine ae (λ_=>c9 (dp _) (aq λx0 h0=>ax (dY ?_) ?_)) (λ_=>c9 (dp _) (aq λx1 h1=>?_))
  ·have:=dl (wrap .u64 (wrap .u64 (wrap .i64 (0-wrap .i64 (x+1)))+1));rw[<-h0]at this;simp[maxLen];omega
  ·have:=dl (wrap .u64 (wrap .u64 (wrap .i64 (0-wrap .i64 (x+1)))+1));rw[<-h0]at this;show(_::x0).length<=21;simp;omega
  ·rw[h1];exact Nat.le_trans (dl _) (by decide)
 have hr:∀x,(H2 x).p:=λx=>by
  unfold Tree.p H2
  refine c9 (Tree.pp (hd x)).1 (aq λx0 h0=>ax (dY ?_) trivial)
  have:(Qrc x).length<=21:=(Tree.pp (hd x)).2
  rw[<-h0]at this;simp[maxLen];omega
 refine fp (inv:=Qts s) (μ:=Qg7 s) ⟨by decide,by decide⟩ (cN _) (λz hz=>?_)
 obtain⟨z1,z2⟩:=hz
 refine ae (λhb=>c9 (hr _) (aq λx0 _=>ae (λ_=>trivial) (λ_=>e6 ?_))) (λ_=>trivial)
 have hb:=oY hb
 show(0<=i64.wrap (z+1)/\i64.wrap (z+1)<=16)/\(16-i64.wrap (z+1)).toNat<(16-z).toNat
 rw[wrap_i64];omega
def Qyb:cg:={
 α:=(Int)
 F:=λst a=>([(0,(lk st 0)),(4,.int i64 a)],[])
 a0:=λst=>(lk st 4).toInt
 ji:=λst=>[]++[]}
def Qte:List (Nat×cg):=[(2,Qyb)]
def Z0n:ba:=mS 263 [] true [.one (.str)] [] (λa r=>U4 (jy a 0)) (λX=>.dw [.int .i64 (X.1),.bool (X.2)]) (λX=>[])
theorem Qly:bm pG Z0n:=oS (.cons Zlh (.nil)) Tryz.func263 Tryz.call263 [] Qte 3 (λ_ _ _=>by kernel_rfl) (λa r=>Qvq (jy a 0)) (λ_ X=>by kernel_rfl)
def M1(s:List UInt8):Tree Bool:=
.lv (Qk1 s) λ(x0:Int×Bool)=>.br (decide ((s.length:Int)>=(1:Int))) (.br (decide ((s.length:Int)<=(12:Int))) (.cn (decide ((0:Int)<=(0:Int)/\0<(s.length:Int))) (.lv (U3 (↑(hY (s.getD (dA 0) (0:UInt8))):Int)) λ(x1:Bool)=>.br x1 (.lf (!x0.2)) (.lf false))) (.lf false)) (.lf false)
def Z81 s:=(M1 s).m
abbrev Wh s:=(M1 s).p
def Zms:ba:=mT 229 [] true [.one (.str)] [] (λa r=>M1 (jy a 0)) (λX=>.bool X) (λX=>[])
theorem Z1l:bm pG Zms:=oT (.cons Qly (.cons Que (.nil))) Tryz.func229 Tryz.call229 [] [] 2
def M3(op:Int):Tree (List UInt8):=
let T1:Tree ((List UInt8)):=let T3:Tree ((List UInt8)):=.br (op==48) (.lf ([(106:UInt8),97,108])) (.br (op==49) (.lf ([(106:UInt8),97,108,114])) (.br (decide (op>=56)) (.br (decide (op<=64)) (.cn (bX 1 1&&bN 0 1&&decide (0<=wrap i64 (op-56)/\wrap i64 (op-56)<(↑9:Int))) (.lf (aV [[(101:UInt8),99,97,108,108],[(101:UInt8),114,101,116],[(99:UInt8),115,114,114],[(99:UInt8),115,114,119],[(105:UInt8),110],[(111:UInt8),117,116],[(119:UInt8),102,105],[(102:UInt8),108,117,115,104],[(104:UInt8),97,108,116]] (dA (wrap i64 (op-56))) (RK.ei RK.str)))) (.lf ([]))) (.lf ([]))));.br (decide (op>=40)) (.br (decide (op<=45)) (.cn (bX 1 1&&bN 0 1&&decide (0<=wrap i64 (op-40)/\wrap i64 (op-40)<(↑6:Int))) (.lf (aV [[(98:UInt8),101,113],[(98:UInt8),110,101],[(98:UInt8),108,116],[(98:UInt8),103,101],[(98:UInt8),108,116,117],[(98:UInt8),103,101,117]] (dA (wrap i64 (op-40))) (RK.ei RK.str)))) T3) T3;let T2:Tree ((List UInt8)):=let T4:Tree ((List UInt8)):=.br (decide (op>=32)) (.br (decide (op<=36)) (.cn (bX 1 1&&bN 0 1&&decide (0<=wrap i64 (op-32)/\wrap i64 (op-32)<(↑5:Int))) (.lf (aV [[(108:UInt8),119],[(108:UInt8),98],[(108:UInt8),98,117],[(115:UInt8),119],[(115:UInt8),98]] (dA (wrap i64 (op-32))) (RK.ei RK.str)))) T1) T1;.br (decide (op>=16)) (.br (decide (op<=24)) (.cn (bX 1 1&&bN 0 1&&decide (0<=wrap i64 (op-16)/\wrap i64 (op-16)<(↑9:Int))) (.lf (aV [[(97:UInt8),100,100,105],[(97:UInt8),110,100,105],[(111:UInt8),114,105],[(120:UInt8),111,114,105],[(115:UInt8),104,108,105],[(115:UInt8),104,114,105],[(115:UInt8),97,114,105],[(115:UInt8),108,116,105],[(108:UInt8),117,105]] (dA (wrap i64 (op-16))) (RK.ei RK.str)))) T4) T4;.br (decide (op>=1)) (.br (decide (op<=13)) (.cn (bX 1 1&&bN 0 1&&decide (0<=wrap i64 (op-1)/\wrap i64 (op-1)<(↑13:Int))) (.lf (aV [[(97:UInt8),100,100],[(115:UInt8),117,98],[(97:UInt8),110,100],[(111:UInt8),114],[(120:UInt8),111,114],[(115:UInt8),104,108],[(115:UInt8),104,114],[(115:UInt8),97,114],[(109:UInt8),117,108],[(100:UInt8),105,118],[(114:UInt8),101,109],[(115:UInt8),108,116],[(115:UInt8),108,116,117]] (dA (wrap i64 (op-1))) (RK.ei RK.str)))) T2) T2
def Qx0 op:=(M3 op).m
abbrev Qfl op:=(M3 op).p
def Z6r:ba:=mT 265 [] true [.one (.int .i64)] [] (λa r=>M3 (au a 0)) (λX=>.str X) (λX=>[])
theorem Z36:bm pG Z6r:=oT (.nil) Tryz.func265 Tryz.call265 [] [] 2
def Qtv(s:List UInt8)(z:(Int)):Nat:=(65-z).toNat
def M4(s:List UInt8):Tree Int:=
.lp inferInstance (Qtv s 1+1) ((rE (s:List UInt8)/\rE (1:Int)/\True)/\True) 1 λ(v0:Int)=>.br (decide (v0<=64)) (.lv (oE v0) λ(x0:Int)=>.br (decide (x0>0)) (.an (Qfl v0) (.lv (Qx0 v0) λ(x1:List UInt8)=>.br (decide (x1=s)) (.lf (Sum.inr v0)) (.nx ((rE (s:List UInt8)/\rE ((wrap i64 (v0+1)):Int)/\True)/\True) (Sum.inl (wrap i64 (v0+1)))))) (.nx ((rE (s:List UInt8)/\rE ((wrap i64 (v0+1)):Int)/\True)/\True) (Sum.inl (wrap i64 (v0+1))))) (.lf (Sum.inr 0))
def Rs s:=(M4 s).m
abbrev J9 s:=(M4 s).p
def Qyy:cg:={
 α:=(Int)
 F:=λst a=>([(0,(lk st 0)),(3,.int i64 a)],[])
 a0:=λst=>(lk st 3).toInt
 ji:=λst=>[]++[]}
def Qva:List (Nat×cg):=[(2,Qyy)]
def Z2e:ba:=mT 232 [] true [.one (.str)] [] (λa r=>M4 (jy a 0)) (λX=>.int .i64 X) (λX=>[])
theorem Qmh:bm pG Z2e:=oT (.cons Rp (.cons Z36 (.nil))) Tryz.func232 Tryz.call232 [] Qva 3
def M6(ed:List UInt8):Tree ((List UInt8)×Bool):=
.an (J9 ed) (.lv (Rs ed) λ(x0:Int)=>.br (decide (ed=[(46:UInt8),119,111,114,100])) (.lf ([(120:UInt8)],true)) (.br (decide (ed=[(46:UInt8),115,112,97,99,101])) (.lf ([(110:UInt8)],true)) (.br (decide (ed=[(108:UInt8),105])) (.lf ([(114:UInt8),44,120],true)) (.br (decide (ed=[(109:UInt8),118])) (.lf ([(114:UInt8),44,114],true)) (.br (decide (ed=[(110:UInt8),111,112])) (.lf ([],true)) (.br (x0==0) (.lf ([],false)) (let T1:Tree (((List UInt8)×Bool)):=.br (x0==48) (.lf ([(114:UInt8),44,120],true)) (.lv (oE x0) λ(x1:Int)=>.br (x1==1) (.lf ([],true)) (.br (x1==2) (.lf ([(114:UInt8),44,114,44,114],true)) (.br (decide (x1>=6)) (.lf ([(114:UInt8),44,110],true)) (.lf ([(114:UInt8),44,114,44,110],true)))));let T2:Tree (((List UInt8)×Bool)):=.br (decide (x0>=40)) (.br (decide (x0<=45)) (.lf ([(114:UInt8),44,114,44,120],true)) T1) T1;.br (decide (x0>=32)) (.br (decide (x0<=36)) (.lf ([(114:UInt8),44,110,40,114,41],true)) T2) T2)))))))
def U5 ed:=(M6 ed).m
abbrev M5 ed:=(M6 ed).p
def Za3:ba:=mT 230 [] true [.one (.str)] [] (λa r=>M6 (jy a 0)) (λX=>.dw [.str (X.1),.bool (X.2)]) (λX=>[])
theorem Z89:bm pG Za3:=oT (.cons Qmh (.cons Rp (.nil))) Tryz.func230 Tryz.call230 [] [] 2
def Z0j(s:List UInt8)(z:(Int)×(Int)):Nat:=(s.length-z.2).toNat
def Qn6(s:List UInt8)(z:(Int)×(Int)):Nat:=(s.length-z.2).toNat
def M7(s:List UInt8):Tree (Int×Bool):=
let E7:=decide ((0:Int)<=(0:Int)/\0<(s.length:Int));let E8:=(↑(hY (s.getD (dA 0) (0:UInt8))):Int);let T1:Tree ((Int×Bool)):=let T2:Tree ((Int×Bool)):=.br (decide (wrap i64 ((s.length:Int)-(0:Int))<1)) (.lf (0,false)) (.br (decide (wrap i64 ((s.length:Int)-(0:Int))>10)) (.lf (0,false)) (.lp inferInstance (Qn6 s (0,0)+1) ((rE (s:List UInt8)/\rE (0:Int)/\rE (0:Int)/\rE (0:Int)/\True)/\True) (0,0) λ(v0:Int×Int)=>.br (decide (v0.2<(s.length:Int))) (let E9:=decide (0<=v0.2/\v0.2<(s.length:Int));.cn E9 (let E5:=(↑(hY (s.getD v0.2.toNat (0:UInt8))):Int);.lv (Ma E5) λ(x2:Bool)=>.br (!x2) (.lf (Sum.inr (0,false))) (.cn E9 (.nx ((rE (s:List UInt8)/\rE (0:Int)/\rE ((wrap i64 (wrap i64 (10*v0.1)+wrap i64 (wrap u8 ((↑(hY (s.getD v0.2.toNat (0:UInt8))):Int)-(48:Int))))):Int)/\rE ((wrap i64 (v0.2+1)):Int)/\True)/\True) (Sum.inl (wrap i64 (wrap i64 (10*v0.1)+wrap i64 (wrap u8 (E5-(48:Int)))),wrap i64 (v0.2+1))))))) (.br (decide (v0.1>=(-2147483648))) (.lf (Sum.inr (v0.1,decide (v0.1<=4294967295)))) (.lf (Sum.inr (v0.1,false))))));.br (decide ((s.length:Int)>(0:Int))) (.cn E7 (.br (E8==(45:Int)) (.br (decide (wrap i64 ((s.length:Int)-(1:Int))<1)) (.lf (0,false)) (.br (decide (wrap i64 ((s.length:Int)-(1:Int))>10)) (.lf (0,false)) (.lp inferInstance (Qn6 s (0,1)+1) ((rE (s:List UInt8)/\rE (1:Int)/\rE (0:Int)/\rE (1:Int)/\True)/\True) (0,1) λ(v0:Int×Int)=>.br (decide (v0.2<(s.length:Int))) (let mN:=decide (0<=v0.2/\v0.2<(s.length:Int));.cn mN (let E6:=(↑(hY (s.getD v0.2.toNat (0:UInt8))):Int);.lv (Ma E6) λ(x1:Bool)=>.br (!x1) (.lf (Sum.inr (0,false))) (.cn mN (.nx ((rE (s:List UInt8)/\rE (1:Int)/\rE ((wrap i64 (wrap i64 (10*v0.1)+wrap i64 (wrap u8 ((↑(hY (s.getD v0.2.toNat (0:UInt8))):Int)-(48:Int))))):Int)/\rE ((wrap i64 (v0.2+1)):Int)/\True)/\True) (Sum.inl (wrap i64 (wrap i64 (10*v0.1)+wrap i64 (wrap u8 (E6-(48:Int)))),wrap i64 (v0.2+1))))))) (.br (decide (wrap i64 (0-v0.1)>=(-2147483648))) (.lf (Sum.inr (wrap i64 (0-v0.1),decide (wrap i64 (0-v0.1)<=4294967295)))) (.lf (Sum.inr (wrap i64 (0-v0.1),false))))))) T2)) T2;.br (decide ((s.length:Int)>(2:Int))) (.cn E7 (.br (E8==(48:Int)) (.cn (decide ((0:Int)<=(1:Int)/\1<(s.length:Int))) (.br ((↑(hY (s.getD (dA 1) (0:UInt8))):Int)==(120:Int)) (.br (decide ((s.length:Int)>(10:Int))) (.lf (0,false)) (.lp inferInstance (Z0j s (0,2)+1) ((rE (s:List UInt8)/\rE (0:Int)/\rE (2:Int)/\True)/\True) (0,2) λ(v0:Int×Int)=>.br (decide (v0.2<(s.length:Int))) (let E4:=decide (0<=v0.2/\v0.2<(s.length:Int));.cn E4 (let E3:=(↑(hY (s.getD v0.2.toNat (0:UInt8))):Int);.lv (Ma E3) λ(x0:Bool)=>.br x0 (.cn E4 (.nx ((rE (s:List UInt8)/\rE ((wrap i64 (wrap i64 (16*v0.1)+wrap i64 (wrap u8 ((↑(hY (s.getD v0.2.toNat (0:UInt8))):Int)-(48:Int))))):Int)/\rE ((wrap i64 (v0.2+1)):Int)/\True)/\True) (Sum.inl (wrap i64 (wrap i64 (16*v0.1)+wrap i64 (wrap u8 (E3-(48:Int)))),wrap i64 (v0.2+1))))) (.cn E4 (.br (decide (E3>=(97:Int))) (.cn E4 (.br (decide (E3<=(102:Int))) (.cn E4 (.nx ((rE (s:List UInt8)/\rE ((wrap i64 (wrap i64 (wrap i64 (16*v0.1)+wrap i64 (wrap u8 ((↑(hY (s.getD v0.2.toNat (0:UInt8))):Int)-(97:Int))))+10)):Int)/\rE ((wrap i64 (v0.2+1)):Int)/\True)/\True) (Sum.inl (wrap i64 (wrap i64 (wrap i64 (16*v0.1)+wrap i64 (wrap u8 (E3-(97:Int))))+10),wrap i64 (v0.2+1))))) (.lf (Sum.inr (0,false))))) (.lf (Sum.inr (0,false))))))) (.lf (Sum.inr (v0.1,true))))) T1)) T1)) T1
def Z4n s:=(M7 s).m
abbrev Qjl s:=(M7 s).p
def Z9y:cg:={
 α:=(Int)×(Int)
 F:=λst a=>([(0,(lk st 0)),(4,.int i64 a.1),(5,.int i64 a.2)],[])
 a0:=λst=>((lk st 4).toInt,(lk st 5).toInt)
 ji:=λst=>[]++[]}
def Z95:cg:={
 α:=(Int)×(Int)
 F:=λst a=>([(0,(lk st 0)),(6,(lk st 6)),(7,.int i64 a.1),(8,.int i64 a.2)],[])
 a0:=λst=>((lk st 7).toInt,(lk st 8).toInt)
 ji:=λst=>[]++[]}
def Z28:List (Nat×cg):=[(6,Z9y),(21,Z95)]
def Zd:ba:=mT 264 [] true [.one (.str)] [] (λa r=>M7 (jy a 0)) (λX=>.dw [.int .i64 (X.1),.bool (X.2)]) (λX=>[])
theorem Z8q:bm pG Zd:=oT (.cons Qxd (.nil)) Tryz.func264 Tryz.call264 [] Z28 3
def Qvx(l:List kP)(p:List UInt8)(z:(Int)×(List nm)):Nat:=(l.length-z.1).toNat
def M9(l:List kP)(p:List UInt8):Tree ((List nm)×Bool):=
.br ((l.length:Int) !=(p.length:Int)) (.lf ([],false)) (.lp inferInstance (Qvx l p (0,[])+1) ((nR RK.av 3 l/\rE (p:List UInt8)/\True/\rE (0:Int)/\True)/\rE ([]:List (RK.T RK.aw))/\True) (0,[]) λ(v0:Int×List nm)=>.br (decide (v0.1<(l.length:Int))) (.cn (bX 3 3&&bN 0 3&&decide (0<=v0.1/\v0.1<(l.length:Int))) (let E6:=decide (0<=v0.1/\v0.1<(p.length:Int));.cn E6 (let E3:=l.getD v0.1.toNat (RK.ei RK.av);let E4:=(↑(hY (p.getD v0.1.toNat (0:UInt8))):Int);let E5:=decide (32*(v0.2.length+1)<=140737488355328);.br (E4==(114:Int)) (.lv (Qk1 E3.F2) λ(x0:Int×Bool)=>.br (E3.kind !=1) (.lf (Sum.inr ([],false))) (.br (!x0.2) (.lf (Sum.inr ([],false))) (.cn E5 (.nx ((nR RK.av 3 l/\rE (p:List UInt8)/\True/\rE ((wrap i64 (v0.1+1)):Int)/\True)/\rE ((v0.2++[{kj:=x0.1,num:=0,label:=[]}]):List (RK.T RK.aw))/\True) (Sum.inl (wrap i64 (v0.1+1),v0.2++[{kj:=x0.1,num:=0,label:=[]}])))))) (let T1:Tree ((Int×List nm)⊕(((List nm)×Bool))):=.an (Qjl E3.F2) (.lv (Z4n E3.F2) λ(x2:Int×Bool)=>.br (E3.kind !=2) (.lf (Sum.inr ([],false))) (.br (!x2.2) (.lf (Sum.inr ([],false))) (.cn E5 (.nx ((nR RK.av 3 l/\rE (p:List UInt8)/\True/\rE ((wrap i64 (v0.1+1)):Int)/\True)/\rE ((v0.2++[{kj:=0,num:=x2.1,label:=[]}]):List (RK.T RK.aw))/\True) (Sum.inl (wrap i64 (v0.1+1),v0.2++[{kj:=0,num:=x2.1,label:=[]}]))))));let T2:Tree ((Int×List nm)⊕(((List nm)×Bool))):=.cn E6 (.br (E4==(120:Int)) (.br (E3.kind==1) (.an (Wh E3.F2) (.lv (Z81 E3.F2) λ(x1:Bool)=>.br x1 (.cn E5 (.nx ((nR RK.av 3 l/\rE (p:List UInt8)/\True/\rE ((wrap i64 (v0.1+1)):Int)/\True)/\rE ((v0.2++[{kj:=0,num:=0,label:=(l.getD v0.1.toNat (RK.ei RK.av)).F2}]):List (RK.T RK.aw))/\True) (Sum.inl (wrap i64 (v0.1+1),v0.2++[{kj:=0,num:=0,label:=E3.F2}])))) T1)) T1) T1);.br (E4==(110:Int)) T2 (.br (E4==(120:Int)) T2 (.br (E3.kind !=3) (.lf (Sum.inr ([],false))) (.cn (decide (0<=v0.1/\v0.1<=wrap i64 (v0.1+1)/\wrap i64 (v0.1+1)<=(p.length:Int))) (.br (!decide (E3.F2=cU (dA (wrap i64 (v0.1+1))-dA v0.1) (cV v0.1.toNat p))) (.lf (Sum.inr ([],false))) (.nx ((nR RK.av 3 l/\rE (p:List UInt8)/\True/\rE ((wrap i64 (v0.1+1)):Int)/\True)/\rE v0.2/\True) (Sum.inl (wrap i64 (v0.1+1),v0.2))))))))))) (.lf (Sum.inr (v0.2,true))))
def U6 l p:=(M9 l p).m
abbrev M8 l p:=(M9 l p).p
def Z83:cg:={
 α:=(Int)×(List nm)
 F:=λst a=>([(0,(lk st 0)),(1,(lk st 1)),(6,.all 0),(7,.int i64 a.1)],[⟨false,179,3,.ai RK.aw a.2⟩])
 a0:=λst=>((lk st 7).toInt,(rm RK.aw st.rows (rN st 6)))
 ji:=λst=>[]++[(rX st 6 0)]}
def Qyo:List (Nat×cg):=[(5,Z83)]
def Z90:ba:=mT 231 [] true [.one (.ai .av),.one (.str)] [] (λa r=>M9 (kr .av a 0) (jy a 1)) (λX=>.dw [.all 0,.bool (X.2)]) (λX=>[⟨false,179,3,.ai .aw (X.1)⟩])
theorem Z7n:bm pG Z90:=oT (.cons Qly (.cons Z1l (.cons Z8q (.nil)))) Tryz.func231 Tryz.call231 [.row 179 3 (.ai .aw)] Qyo 3
def Qyf(s:List UInt8)(z:(List UInt8)×(Int)):Nat:=(s.length-z.2).toNat
def Na(s:List UInt8):Tree ((List UInt8)×kd×Bool):=
.lp inferInstance (Qyf s (s,0)+1) ((rE (s:List UInt8)/\rE ([]:List UInt8)/\rZ/\rE (false:Bool)/\rE (0:Int)/\True)/\(rE ([]:List UInt8)/\rE (0:Int)/\True/\rE (0:Int)/\rE (0:Int)/\rE (0:Int)/\True)/\True) (s,0) λ(v0:List UInt8×Int)=>.br (decide (v0.2<(v0.1.length:Int))) (.cn (decide (0<=v0.2/\v0.2<(v0.1.length:Int))) (.br ((↑(hY (v0.1.getD v0.2.toNat (0:UInt8))):Int)==(59:Int)) (.cn (decide ((0:Int)<=(0:Int)/\0<=v0.2/\v0.2<=(v0.1.length:Int))) (.nx ((rE ((cU (dA v0.2-dA 0) (cV (dA 0) v0.1)):List UInt8)/\rE ([]:List UInt8)/\rZ/\rE (false:Bool)/\rE ((wrap i64 (v0.2+1)):Int)/\True)/\(rE ([]:List UInt8)/\rE (0:Int)/\True/\rE (0:Int)/\rE (0:Int)/\rE (0:Int)/\True)/\True) (Sum.inl (cU (dA v0.2-dA 0) (cV (dA 0) v0.1),wrap i64 (v0.2+1))))) (.nx ((rE v0.1/\rE ([]:List UInt8)/\rZ/\rE (false:Bool)/\rE ((wrap i64 (v0.2+1)):Int)/\True)/\(rE ([]:List UInt8)/\rE (0:Int)/\True/\rE (0:Int)/\rE (0:Int)/\rE (0:Int)/\True)/\True) (Sum.inl (v0.1,wrap i64 (v0.2+1)))))) (.an (Qkh v0.1) (.lv (Z59 v0.1) λ(x0:List kP×Bool)=>.br (!x0.2) (.lf (Sum.inr ([],{ed:=[],op:=0,l:=[],F3:=0,at_:=0,size:=0},false))) (let E9:=x0.1.getD (dA 0) (RK.ei RK.av);let T1:Tree ((List UInt8×Int)⊕(((List UInt8)×kd×Bool))):=.an (M5 E9.F2) (.lv (U5 E9.F2) λ(x27:List UInt8×Bool)=>.br (!x27.2) (.lf (Sum.inr ([],{ed:=[],op:=0,l:=[],F3:=0,at_:=0,size:=0},false))) (let E20:=dA (x0.1.length:Int)-dA 1;let T6:Tree ((List UInt8×Int)⊕(((List UInt8)×kd×Bool))):=let E31:=cU E20 (cV (dA 1) x0.1);.an (M8 E31 x27.1) (.lv (U6 E31 x27.1) λ(Mc:List nm×Bool)=>.br (!Mc.2) (.lf (Sum.inr ([],{ed:=[],op:=0,l:=[],F3:=0,at_:=0,size:=0},false))) (.an (J9 E9.F2) (.lv (Rs E9.F2) λ(x29:Int)=>.br (decide (E9.F2=[(108:UInt8),105])) (.lf (Sum.inr ([],{ed:=E9.F2,op:=x29,l:=Mc.1,F3:=0,at_:=0,size:=2},true))) (.br (decide (E9.F2=[(46:UInt8),115,112,97,99,101])) (let AZ:=bX 3 3&&bN 0 3&&decide ((0:Int)<=(0:Int)/\0<(Mc.1.length:Int));.cn AZ (let E21:=Mc.1.getD (dA 0) (RK.ei RK.aw);.br (decide (E21.num<0)) (.lf (Sum.inr ([],{ed:=[],op:=0,l:=[],F3:=0,at_:=0,size:=0},false))) (.cn AZ (.br (decide (E21.num>1024)) (.lf (Sum.inr ([],{ed:=[],op:=0,l:=[],F3:=0,at_:=0,size:=0},false))) (.cn AZ (.lf (Sum.inr ([],{ed:=E9.F2,op:=x29,l:=Mc.1,F3:=0,at_:=0,size:=E21.num},true)))))))) (.lf (Sum.inr ([],{ed:=E9.F2,op:=x29,l:=Mc.1,F3:=0,at_:=0,size:=1},true)))))));.br (decide ((↑E20:Int)>(0:Int))) (.cn (bX 3 3&&bN 0 3&&decide ((0:Int)<=(0:Int)/\0<(↑E20:Int))) (.br (!(x0.1.getD (dA 1+dA 0) (RK.ei RK.av)).wO) (.lf (Sum.inr ([],{ed:=[],op:=0,l:=[],F3:=0,at_:=0,size:=0},false))) T6)) T6));let E25:=dA (x0.1.length:Int)-dA 2;let E8:=(↑E25:Int);let mN:=x0.1.getD (dA 2+dA 0) (RK.ei RK.av);let oI:=x0.1.getD (dA 1) (RK.ei RK.av);let E16:=bX 3 3&&bN 0 3&&decide ((0:Int)<=(0:Int)/\0<(x0.1.length:Int));let E17:=bX 3 3&&bN 0 3&&decide ((0:Int)<=(1:Int)/\1<(x0.1.length:Int));let E19:=bX 3 3&&bN 0 3&&decide ((0:Int)<=(2:Int)/\2<=(x0.1.length:Int)/\(x0.1.length:Int)<=(x0.1.length:Int));let E28:=bX 3 3&&bN 0 3&&decide ((0:Int)<=(0:Int)/\0<E8);let E30:=decide ((x0.1.length:Int)>=(2:Int));let T3:Tree ((List UInt8×Int)⊕(((List UInt8)×kd×Bool))):=.br ((x0.1.length:Int)==(0:Int)) (.lf (Sum.inr ([],{ed:=[],op:=0,l:=[],F3:=0,at_:=0,size:=0},true))) (.cn E16 (.cn (bX 3 3&&bN 0 3&&decide ((0:Int)<=(1:Int)/\1<=(x0.1.length:Int)/\(x0.1.length:Int)<=(x0.1.length:Int))) (.br (decide (E9.F2=[(46:UInt8)])) (.br E30 (.cn E17 (.br (!oI.wO) (.cn E17 (.cn (decide (1+dF oI.F2<=maxLen)) (.cn E19 (.an (M5 ((46:UInt8)::oI.F2)) (.lv (U5 ([(46:UInt8)]++oI.F2)) λ(x22:List UInt8×Bool)=>.br (!x22.2) (.lf (Sum.inr ([],{ed:=[],op:=0,l:=[],F3:=0,at_:=0,size:=0},false))) (let T7:Tree ((List UInt8×Int)⊕(((List UInt8)×kd×Bool))):=let E32:=cU E25 (cV (dA 2) x0.1);.an (M8 E32 x22.1) (.lv (U6 E32 x22.1) λ(Rt:List nm×Bool)=>.br (!Rt.2) (.lf (Sum.inr ([],{ed:=[],op:=0,l:=[],F3:=0,at_:=0,size:=0},false))) (.an (J9 ((46:UInt8)::oI.F2)) (.lv (Rs ([(46:UInt8)]++oI.F2)) λ(DO:Int)=>.br (decide ([(46:UInt8)]++oI.F2=[(46:UInt8),115,112,97,99,101])) (let Hn:=bX 3 3&&bN 0 3&&decide ((0:Int)<=(0:Int)/\0<(Rt.1.length:Int));.cn Hn (let E22:=Rt.1.getD (dA 0) (RK.ei RK.aw);.br (decide (E22.num<0)) (.lf (Sum.inr ([],{ed:=[],op:=0,l:=[],F3:=0,at_:=0,size:=0},false))) (.cn Hn (.br (decide (E22.num>1024)) (.lf (Sum.inr ([],{ed:=[],op:=0,l:=[],F3:=0,at_:=0,size:=0},false))) (.cn Hn (.lf (Sum.inr ([],{ed:=(46:UInt8)::oI.F2,op:=DO,l:=Rt.1,F3:=0,at_:=0,size:=E22.num},true)))))))) (.lf (Sum.inr ([],{ed:=(46:UInt8)::oI.F2,op:=DO,l:=Rt.1,F3:=0,at_:=0,size:=1},true))))));.br (decide (E8>(0:Int))) (.cn E28 (.br (!mN.wO) (.lf (Sum.inr ([],{ed:=[],op:=0,l:=[],F3:=0,at_:=0,size:=0},false))) T7)) T7)))))) T1)) T1) T1)));.br E30 (.cn E17 (.br (decide (oI.F2=[(58:UInt8)])) (.cn E16 (.cn E16 (.br (E9.kind !=1) (.lf (Sum.inr ([],{ed:=[],op:=0,l:=[],F3:=0,at_:=0,size:=0},false))) (.an (Wh E9.F2) (.lv (Z81 E9.F2) λ(x1:Bool)=>.br (!x1) (.lf (Sum.inr ([],{ed:=[],op:=0,l:=[],F3:=0,at_:=0,size:=0},false))) (.cn E19 (.br (E8==(0:Int)) (.lf (Sum.inr (E9.F2,{ed:=[],op:=0,l:=[],F3:=0,at_:=0,size:=0},true))) (.cn E28 (.cn (bX 3 3&&bN 0 3&&decide ((0:Int)<=(1:Int)/\1<=E8/\E8<=E8)) (let T2:Tree ((List UInt8×Int)⊕(((List UInt8)×kd×Bool))):=.an (M5 mN.F2) (.lv (U5 mN.F2) λ(x7:List UInt8×Bool)=>.br (!x7.2) (.lf (Sum.inr ([],{ed:=[],op:=0,l:=[],F3:=0,at_:=0,size:=0},false))) (let T4:Tree ((List UInt8×Int)⊕(((List UInt8)×kd×Bool))):=let E26:=cU (dA E8-dA 1) (cV (dA 2+dA 1) x0.1);.an (M8 E26 x7.1) (.lv (U6 E26 x7.1) λ(x8:List nm×Bool)=>.br (!x8.2) (.lf (Sum.inr ([],{ed:=[],op:=0,l:=[],F3:=0,at_:=0,size:=0},false))) (.an (J9 mN.F2) (.lv (Rs mN.F2) λ(x9:Int)=>.br (decide (mN.F2=[(108:UInt8),105])) (.lf (Sum.inr (E9.F2,{ed:=mN.F2,op:=x9,l:=x8.1,F3:=0,at_:=0,size:=2},true))) (.br (decide (mN.F2=[(46:UInt8),115,112,97,99,101])) (let Ho:=bX 3 3&&bN 0 3&&decide ((0:Int)<=(0:Int)/\0<(x8.1.length:Int));.cn Ho (let E23:=x8.1.getD (dA 0) (RK.ei RK.aw);.br (decide (E23.num<0)) (.lf (Sum.inr ([],{ed:=[],op:=0,l:=[],F3:=0,at_:=0,size:=0},false))) (.cn Ho (.br (decide (E23.num>1024)) (.lf (Sum.inr ([],{ed:=[],op:=0,l:=[],F3:=0,at_:=0,size:=0},false))) (.cn Ho (.lf (Sum.inr (E9.F2,{ed:=mN.F2,op:=x9,l:=x8.1,F3:=0,at_:=0,size:=E23.num},true)))))))) (.lf (Sum.inr (E9.F2,{ed:=mN.F2,op:=x9,l:=x8.1,F3:=0,at_:=0,size:=1},true)))))));.br (decide ((↑(dA E8-dA 1):Int)>(0:Int))) (.cn (bX 3 3&&bN 0 3&&decide ((0:Int)<=(0:Int)/\0<(↑(dA E8-dA 1):Int))) (.br (!(x0.1.getD (dA 2+dA 1+dA 0) (RK.ei RK.av)).wO) (.lf (Sum.inr ([],{ed:=[],op:=0,l:=[],F3:=0,at_:=0,size:=0},false))) T4)) T4));.br (decide (mN.F2=[(46:UInt8)])) (.br (decide (E8>=(2:Int))) (let E29:=bX 3 3&&bN 0 3&&decide ((0:Int)<=(1:Int)/\1<E8);.cn E29 (let nK:=x0.1.getD (dA 2+dA 1) (RK.ei RK.av);.br (!nK.wO) (.cn E29 (.cn (decide (1+dF nK.F2<=maxLen)) (.cn (bX 3 3&&bN 0 3&&decide ((0:Int)<=(2:Int)/\2<=E8/\E8<=E8)) (.an (M5 ((46:UInt8)::nK.F2)) (.lv (U5 ([(46:UInt8)]++nK.F2)) λ(x2:List UInt8×Bool)=>.br (!x2.2) (.lf (Sum.inr ([],{ed:=[],op:=0,l:=[],F3:=0,at_:=0,size:=0},false))) (let T5:Tree ((List UInt8×Int)⊕(((List UInt8)×kd×Bool))):=let E27:=cU (dA E8-dA 2) (cV (dA 2+dA 2) x0.1);.an (M8 E27 x2.1) (.lv (U6 E27 x2.1) λ(x3:List nm×Bool)=>.br (!x3.2) (.lf (Sum.inr ([],{ed:=[],op:=0,l:=[],F3:=0,at_:=0,size:=0},false))) (.an (J9 ((46:UInt8)::nK.F2)) (.lv (Rs ([(46:UInt8)]++nK.F2)) λ(x4:Int)=>.br (decide ([(46:UInt8)]++nK.F2=[(46:UInt8),115,112,97,99,101])) (let E18:=bX 3 3&&bN 0 3&&decide ((0:Int)<=(0:Int)/\0<(x3.1.length:Int));.cn E18 (let E24:=x3.1.getD (dA 0) (RK.ei RK.aw);.br (decide (E24.num<0)) (.lf (Sum.inr ([],{ed:=[],op:=0,l:=[],F3:=0,at_:=0,size:=0},false))) (.cn E18 (.br (decide (E24.num>1024)) (.lf (Sum.inr ([],{ed:=[],op:=0,l:=[],F3:=0,at_:=0,size:=0},false))) (.cn E18 (.lf (Sum.inr (E9.F2,{ed:=(46:UInt8)::nK.F2,op:=x4,l:=x3.1,F3:=0,at_:=0,size:=E24.num},true)))))))) (.lf (Sum.inr (E9.F2,{ed:=(46:UInt8)::nK.F2,op:=x4,l:=x3.1,F3:=0,at_:=0,size:=1},true))))));.br (decide ((↑(dA E8-dA 2):Int)>(0:Int))) (.cn (bX 3 3&&bN 0 3&&decide ((0:Int)<=(0:Int)/\0<(↑(dA E8-dA 2):Int))) (.br (!(x0.1.getD (dA 2+dA 2+dA 0) (RK.ei RK.av)).wO) (.lf (Sum.inr ([],{ed:=[],op:=0,l:=[],F3:=0,at_:=0,size:=0},false))) T5)) T5)))))) T2)) T2) T2)))))))))) T3)) T3)))
def Z7i s:=(Na s).m
abbrev Qju s:=(Na s).p
def Z97:cg:={
 α:=(List UInt8)×(Int)
 F:=λst a=>([(0,.str a.1),(2,(lk st 2)),(3,.ptr 0 0 0),(4,(lk st 4)),(5,.int i64 a.2)],[⟨true,177,6,.gen [[(cT st 3 0),(cT st 3 1),(cT st 3 2),(cT st 3 3),(cT st 3 4),(cT st 3 5)]]⟩])
 a0:=λst=>((lk st 0).toStr,(lk st 5).toInt)
 ji:=λst=>[]++[(rX st 3 0)]}
def Z24:List (Nat×cg):=[(2,Z97)]
def Zf6:ba:=mT 176 [] false [.one (.str)] [] (λa r=>Na (jy a 0)) (λX=>.dw [.str (X.1),.agg (kd.cells (X.2.1)),.bool (X.2.2)]) (λX=>[])
theorem Z8d:bm pG Zf6:=oT (.cons Z8r (.cons Z1l (.cons Z89 (.cons Z7n (.cons Qmh (.nil)))))) Tryz.func176 Tryz.call176 [.sl (.ai .aw) false] Z24 3 (jn:=nofun)
def Qmw(l:List nS)(label:List UInt8)(z:(Int)):Prop:=0<=z/\z<=l.length
def Qe4(l:List nS)(label:List UInt8)(z:(Int)):Nat:=(l.length-z).toNat
def U7(l:List nS)(label:List UInt8):Tree (Int×Bool):=
.lp inferInstance (Qe4 l label 0+1) ((nR RK.dq 2 l/\rE (label:List UInt8)/\rE (0:Int)/\True)/\True) 0 λ(v0:Int)=>.br (decide (v0<(l.length:Int))) (let E1:=bX 2 2&&bN 0 2&&decide (0<=v0/\v0<(l.length:Int));.cn E1 (let E2:=l.getD v0.toNat (RK.ei RK.dq);.br (decide (E2.Name=label)) (.cn E1 (.lf (Sum.inr (E2.Addr,true)))) (.nx ((nR RK.dq 2 l/\rE (label:List UInt8)/\rE ((wrap i64 (v0+1)):Int)/\True)/\True) (Sum.inl (wrap i64 (v0+1)))))) (.lf (Sum.inr (0,false)))
def Qrj l label:=(U7 l label).m
def Ge(l:List nS)(label:List UInt8):Prop:=
l.length<=1000000000000
theorem Z2h(l:List nS)(label:List UInt8)(hw:Ge l label):(U7 l label).p:=by
 simp only[Ge]at hw
 unfold Tree.p U7
 repeat'(first|refine fp (inv:=Qmw l label) (μ:=Qe4 l label) ?_ (cN _) (λ_ _=>?_)|exact trivial|refine ae (λ_=>?_) (λ_=>?_)|refine ax ?_ ?_|refine c9 ?_ ?_|refine aq (λ_ _=>?_)|refine e6 ?_|refine bh ?_|refine And.intro ?_ ?_)
 all_goals((try simp only[Qmw,Qe4]at*);exact nE)
def Z53:cg:={
 α:=(Int)
 F:=λst a=>([(0,(lk st 0)),(1,(lk st 1)),(6,.int i64 a)],[])
 a0:=λst=>(lk st 6).toInt
 ji:=λst=>[]++[]}
def Qyi:List (Nat×cg):=[(2,Z53)]
def Z8z:ba:=kY 124 [] true [.one (.ai .dq),.one (.str)] [] (λa r=>Ge (kr .dq a 0) (jy a 1)) (λa r=>Qrj (kr .dq a 0) (jy a 1)) (λX=>.dw [.int .u32 (X.1),.bool (X.2)]) (λX=>[])
theorem Qqj:bm pG Z8z:=uL drawn jt (.nil) Tryz.func124 Tryz.call124 (λa r=>U7 (kr .dq a 0) (jy a 1)) [] Qyi 3 (hp:=λa r h=>Z2h (kr .dq a 0) (jy a 1) h)
def Z65(src:List UInt8)(z:(Int)×(Int)×(List nS)×(List kd)):Nat:=((Qzr src).length-z.2.1).toNat
def Nb(src:List UInt8):Tree ((List nS)×(List kd)×sX):=
.br (decide ((src.length:Int)>(8192:Int))) (.lf ([],[],{wN:=300,nk:=0})) (.an (Qm0 src) (.lv (Qzr src) λ(x0:List (List UInt8))=>.lp inferInstance (Z65 src (0,0,[],[])+1) ((rZ/\True/\True/\rE (0:Int)/\True/\rE (0:Int)/\True)/\(rE (0:Int)/\rE (0:Int)/\True)/\rE (x0:List (RK.T RK.str))/\rE ([]:List (RK.T RK.dq))/\rE ([]:List (RK.T RK.ak))/\True) (0,0,[],[]) λ(v0:Int×Int×List nS×List kd)=>.br (decide (v0.2.1<(x0.length:Int))) (.cn (bX 1 1&&bN 0 1&&decide (0<=v0.2.1/\v0.2.1<(x0.length:Int))) (let E3:=x0.getD v0.2.1.toNat (RK.ei RK.str);.an (Qju E3) (.lv (Z7i E3) λ(x1:List UInt8×kd×Bool)=>.br (!x1.2.2) (.lf (Sum.inr ([],[],{wN:=301,nk:=wrap i64 (v0.2.1+1)}))) (let E1:=({wN:=305,nk:=wrap i64 (v0.2.1+1)}:sX);let E2:=decide (72*(v0.2.2.2.length+1)<=140737488355328);let E4:=decide (wrap i64 (v0.1+x1.2.1.size)>1024);.br (!decide (x1.1=[])) (.an (Ge v0.2.2.1 x1.1) (.lv (Qrj v0.2.2.1 x1.1) λ(x2:Int×Bool)=>.br x2.2 (.lf (Sum.inr ([],[],{wN:=303,nk:=wrap i64 (v0.2.1+1)}))) (.cn (decide (24*(v0.2.2.1.length+1)<=140737488355328)) (let E5:=({Name:=x1.1,Addr:=wrap u32 (wrap i64 (4*v0.1))}:nS);.br (!decide (x1.2.1.ed=[])) (.cn E2 (.br E4 (.lf (Sum.inr ([],[],E1))) (.nx ((rZ/\True/\True/\rE ((wrap i64 (v0.1+x1.2.1.size)):Int)/\True/\rE ((wrap i64 (v0.2.1+1)):Int)/\True)/\(rE (0:Int)/\rE (0:Int)/\True)/\rE (x0:List (RK.T RK.str))/\rE ((v0.2.2.1++[{Name:=x1.1,Addr:=wrap u32 (wrap i64 (4*v0.1))}]):List (RK.T RK.dq))/\rE ((v0.2.2.2++[{ed:=x1.2.1.ed,op:=x1.2.1.op,l:=x1.2.1.l,F3:=wrap i64 (v0.2.1+1),at_:=v0.1,size:=x1.2.1.size}]):List (RK.T RK.ak))/\True) (Sum.inl (wrap i64 (v0.1+x1.2.1.size),wrap i64 (v0.2.1+1),v0.2.2.1++[E5],v0.2.2.2++[{ed:=x1.2.1.ed,op:=x1.2.1.op,l:=x1.2.1.l,F3:=wrap i64 (v0.2.1+1),at_:=v0.1,size:=x1.2.1.size}]))))) (.br (decide (v0.1>1024)) (.lf (Sum.inr ([],[],E1))) (.nx ((rZ/\True/\True/\rE v0.1/\True/\rE ((wrap i64 (v0.2.1+1)):Int)/\True)/\(rE (0:Int)/\rE (0:Int)/\True)/\rE (x0:List (RK.T RK.str))/\rE ((v0.2.2.1++[{Name:=x1.1,Addr:=wrap u32 (wrap i64 (4*v0.1))}]):List (RK.T RK.dq))/\rE v0.2.2.2/\True) (Sum.inl (v0.1,wrap i64 (v0.2.1+1),v0.2.2.1++[E5],v0.2.2.2)))))))) (.br (!decide (x1.2.1.ed=[])) (.cn E2 (.br E4 (.lf (Sum.inr ([],[],E1))) (.nx ((rZ/\True/\True/\rE ((wrap i64 (v0.1+x1.2.1.size)):Int)/\True/\rE ((wrap i64 (v0.2.1+1)):Int)/\True)/\(rE (0:Int)/\rE (0:Int)/\True)/\rE (x0:List (RK.T RK.str))/\rE v0.2.2.1/\rE ((v0.2.2.2++[{ed:=x1.2.1.ed,op:=x1.2.1.op,l:=x1.2.1.l,F3:=wrap i64 (v0.2.1+1),at_:=v0.1,size:=x1.2.1.size}]):List (RK.T RK.ak))/\True) (Sum.inl (wrap i64 (v0.1+x1.2.1.size),wrap i64 (v0.2.1+1),v0.2.2.1,v0.2.2.2++[{ed:=x1.2.1.ed,op:=x1.2.1.op,l:=x1.2.1.l,F3:=wrap i64 (v0.2.1+1),at_:=v0.1,size:=x1.2.1.size}]))))) (.br (decide (v0.1>1024)) (.lf (Sum.inr ([],[],E1))) (.nx ((rZ/\True/\True/\rE v0.1/\True/\rE ((wrap i64 (v0.2.1+1)):Int)/\True)/\(rE (0:Int)/\rE (0:Int)/\True)/\rE (x0:List (RK.T RK.str))/\rE v0.2.2.1/\rE v0.2.2.2/\True) (Sum.inl (v0.1,wrap i64 (v0.2.1+1),v0.2.2.1,v0.2.2.2))))))))) (.lf (Sum.inr (v0.2.2.1,v0.2.2.2,{wN:=0,nk:=0})))))
def Z6m src:=(Nb src).m
abbrev Qo src:=(Nb src).p
def Zi5:cg:={
 α:=(Int)×(Int)×(List nS)×(List kd)
 F:=λst a=>([(4,.ptr 0 0 0),(5,.all 2),(6,.all 3),(7,.int i64 a.1),(8,.all 1),(9,.int i64 a.2.1)],[⟨true,120,2,.gen [[(cT st 4 0),(cT st 4 1)]]⟩,⟨false,9,1,mH st.rows (rN st 8)⟩,⟨false,243,2,.ai RK.dq a.2.2.1⟩,⟨false,177,6,.ai RK.ak a.2.2.2⟩])
 a0:=λst=>((lk st 7).toInt,(lk st 9).toInt,(rm RK.dq st.rows (rN st 5)),(rm RK.ak st.rows (rN st 6)))
 ji:=λst=>[]++[(rX st 4 0),(rX st 8 1),(rX st 5 2),(rX st 6 3)]}
def Z9e:List (Nat×cg):=[(8,Zi5)]
def Zlg:ba:=mT 123 [] false [.one (.str)] [] (λa r=>Nb (jy a 0)) (λX=>.dw [.all 0,.all 1,.agg (sX.cells (X.2.2))]) (λX=>[⟨false,243,2,.ai .dq (X.1)⟩,⟨false,177,6,.ai .ak (X.2.1)⟩])
theorem Zks:bm pG Zlg:=oT (.cons Zd1 (.cons Z8d (.cons Qqj (.nil)))) Tryz.func123 Tryz.call123 [.row 243 2 (.ai .dq),.row 177 6 (.ai .ak)] Z9e 3 (jn:=nofun)
def Nd(st:kd)(v:Int):Tree (Int×Bool):=
.lv (oE st.op) λ(x0:Int)=>.lv (WC x0) λ(x1:Int×Int)=>let E7:=st.l.getD (dA 0) (RK.ei RK.aw);let E8:=st.l.getD (dA 1) (RK.ei RK.aw);let E9:=bX 3 3&&bN 0 3&&decide ((0:Int)<=(0:Int)/\0<(st.l.length:Int));let mN:=bX 3 3&&bN 0 3&&decide ((0:Int)<=(1:Int)/\1<(st.l.length:Int));let nK:=st.l.getD (dA 2) (RK.ei RK.aw);let oI:=bX 3 3&&bN 0 3&&decide ((0:Int)<=(2:Int)/\2<(st.l.length:Int));.br (x0==2) (.cn E9 (.cn mN (.cn oI (let T2:Tree ((Int×Bool)):=.br (decide (0<x1.1)) (.lf (0,false)) (.br (decide (0>x1.2)) (.lf (0,false)) (.lv (oC {Op:=st.op,A:=E7.kj,B:=E8.kj,C:=nK.kj,bw:=wrap i32 0}) λ(x2:Int×Bool)=>.lf (x2.1,x2.2)));.br (x0==2) T2 (.br (x0==1) T2 (.br (decide (v<x1.1)) (.lf (0,false)) (.br (decide (v>x1.2)) (.lf (0,false)) (.lv (oC {Op:=st.op,A:=E7.kj,B:=E8.kj,C:=nK.kj,bw:=wrap i32 v}) λ(x4:Int×Bool)=>.lf (x4.1,x4.2))))))))) (let T1:Tree ((Int×Bool)):=.br (decide (x0>=6)) (.cn E9 (let T5:Tree ((Int×Bool)):=.br (decide (0<x1.1)) (.lf (0,false)) (.br (decide (0>x1.2)) (.lf (0,false)) (.lv (oC {Op:=st.op,A:=E7.kj,B:=0,C:=0,bw:=wrap i32 0}) λ(x8:Int×Bool)=>.lf (x8.1,x8.2)));.br (x0==2) T5 (.br (x0==1) T5 (.br (decide (v<x1.1)) (.lf (0,false)) (.br (decide (v>x1.2)) (.lf (0,false)) (.lv (oC {Op:=st.op,A:=E7.kj,B:=0,C:=0,bw:=wrap i32 v}) λ(mi:Int×Bool)=>.lf (mi.1,mi.2))))))) (.br (x0 !=1) (.cn E9 (.cn mN (let T3:Tree ((Int×Bool)):=.br (decide (0<x1.1)) (.lf (0,false)) (.br (decide (0>x1.2)) (.lf (0,false)) (.lv (oC {Op:=st.op,A:=E7.kj,B:=E8.kj,C:=0,bw:=wrap i32 0}) λ(na:Int×Bool)=>.lf (na.1,na.2)));.br (x0==2) T3 (.br (x0==1) T3 (.br (decide (v<x1.1)) (.lf (0,false)) (.br (decide (v>x1.2)) (.lf (0,false)) (.lv (oC {Op:=st.op,A:=E7.kj,B:=E8.kj,C:=0,bw:=wrap i32 v}) λ(Ar:Int×Bool)=>.lf (Ar.1,Ar.2)))))))) (let T6:Tree ((Int×Bool)):=.br (decide (0<x1.1)) (.lf (0,false)) (.br (decide (0>x1.2)) (.lf (0,false)) (.lv (oC {Op:=st.op,A:=0,B:=0,C:=0,bw:=wrap i32 0}) λ(Fv:Int×Bool)=>.lf (Fv.1,Fv.2)));.br (x0==2) T6 (.br (x0==1) T6 (.br (decide (v<x1.1)) (.lf (0,false)) (.br (decide (v>x1.2)) (.lf (0,false)) (.lv (oC {Op:=st.op,A:=0,B:=0,C:=0,bw:=wrap i32 v}) λ(Fw:Int×Bool)=>.lf (Fw.1,Fw.2)))))));.br (decide (st.op>=32)) (.br (decide (st.op<=36)) (.cn E9 (.cn oI (.cn mN (let T4:Tree ((Int×Bool)):=.br (decide (0<x1.1)) (.lf (0,false)) (.br (decide (0>x1.2)) (.lf (0,false)) (.lv (oC {Op:=st.op,A:=E7.kj,B:=nK.kj,C:=0,bw:=wrap i32 0}) λ(x5:Int×Bool)=>.lf (x5.1,x5.2)));.br (x0==2) T4 (.br (x0==1) T4 (.br (decide (E8.num<x1.1)) (.lf (0,false)) (.br (decide (E8.num>x1.2)) (.lf (0,false)) (.lv (oC {Op:=st.op,A:=E7.kj,B:=nK.kj,C:=0,bw:=wrap i32 E8.num}) λ(x7:Int×Bool)=>.lf (x7.1,x7.2))))))))) T1) T1)
def U8 st v:=(Nd st v).m
abbrev Nc st v:=(Nd st v).p
def Znf:ba:=mT 126 [] true [.agg kd.sig,.one (.int .i64)] [] (λa r=>Nd (kd.of (aC a 0)) (au a 1)) (λX=>.dw [.int .u32 (X.1),.bool (X.2)]) (λX=>[])
theorem Zgx:bm pG Znf:=oT (.cons Rp (.cons Quh (.cons Qm8 (.nil)))) Tryz.func126 Tryz.call126 [] [] 2

import Derived.Test.YtaemmjbkndlkeaaGreatMigrateOrdersYz
open UInt8 renaming toNat->hZ,ofNat->eD
open List renaming take->cU,drop->cV,length->dF,getD->aV
open Int renaming toNat->dA,tdiv->eF
open Nat renaming lt_succ_self->cN,beq->bX,blt->bN
set_option maxRecDepth 100000
set_option linter.all false
namespace Go.Proofs.YtaemmjbkndlkeaaGreat
open Go Go.GD Go.IntKind
noncomputable section
instance R7 {α β:Type} [Inhabited β]:Inhabited (α⊕β):=⟨.inr default⟩
def Z2z(src:List UInt8)(z:(Int)×(Int)×(List (List UInt8))):Nat:=(src.length-z.2.1).toNat
def ND(src:List UInt8):Tree (List (List UInt8)):=
.lp inferInstance (Z2z src (0,0,[])+1) ((rE (src:List UInt8)/\True/\rE (0:Int)/\rE (0:Int)/\True)/\rE ([]:List (RK.T RK.str))/\True) (0,0,[]) λ(v0:Int×Int×List (List UInt8))=>let E1:=decide (16*(v0.2.2.length+1)<=140737488355328);.br (decide (v0.2.1<(src.length:Int))) (.cn (decide (0<=v0.2.1/\v0.2.1<(src.length:Int))) (.br ((↑(hZ (src.getD v0.2.1.toNat (0:UInt8))):Int)==(10:Int)) (.cn (decide (0<=v0.1/\v0.1<=v0.2.1/\v0.2.1<=(src.length:Int))) (.cn E1 (.nx ((rE (src:List UInt8)/\True/\rE ((wrap i64 (v0.2.1+1)):Int)/\rE ((wrap i64 (v0.2.1+1)):Int)/\True)/\rE ((v0.2.2++[cU (dA v0.2.1-dA v0.1) (cV v0.1.toNat src)]):List (RK.T RK.str))/\True) (Sum.inl (wrap i64 (v0.2.1+1),wrap i64 (v0.2.1+1),v0.2.2++[cU (dA v0.2.1-dA v0.1) (cV v0.1.toNat src)]))))) (.nx ((rE (src:List UInt8)/\True/\rE v0.1/\rE ((wrap i64 (v0.2.1+1)):Int)/\True)/\rE v0.2.2/\True) (Sum.inl (v0.1,wrap i64 (v0.2.1+1),v0.2.2))))) (.br (decide (v0.1<(src.length:Int))) (.cn (decide (0<=v0.1/\v0.1<=(src.length:Int)/\(src.length:Int)<=(src.length:Int))) (.cn E1 (.lf (Sum.inr (v0.2.2++[cU (dA (src.length:Int)-dA v0.1) (cV v0.1.toNat src)]))))) (.lf (Sum.inr v0.2.2)))
def Qzn src:=(ND src).m
abbrev Qme src:=(ND src).p
def Zf6:cg:={
 α:=(Int)×(Int)×(List (List UInt8))
 F:=λst a=>([(0,(lk st 0)),(3,.all 0),(4,.int i64 a.1),(5,.int i64 a.2.1)],[⟨false,9,1,.ah RK.str a.2.2⟩])
 a0:=λst=>((lk st 4).toInt,(lk st 5).toInt,(rK RK.str st.rows (rN st 3)))
 jl:=λst=>[]++[(rX st 3 0)]}
def Z87:List (Nat×cg):=[(4,Zf6)]
def Zkp:ba:=mT 175 [] true [.one (.str)] [] (λa r=>ND (jF a 0)) (λX=>.all 0) (λX=>[⟨false,9,1,.ah .str X⟩])
theorem Zf4:bm pG Zkp:=oT (.nil) Tryz.func175 Tryz.call175 [.row 9 1 (.ah .str)] Z87 3
def Qx7(c:Int):Tree Bool:=
.br (decide (c>=97)) (.lf (decide (c<=122))) (.lf false)
def VG c:=(Qx7 c).m
def Zes:ba:=mS 261 [] true [.one (.int .u8)] [] (λa r=>Qx7 (au a 0)) (λX=>.bool X) (λX=>[])
theorem Qun:bm pG Zes:=oS (.nil) Tryz.func261 Tryz.call261 [] [] 2
def Z15(c:Int):Tree Bool:=
.br (decide (c>=48)) (.lf (decide (c<=57))) (.lf false)
def MK c:=(Z15 c).m
def Zh7:ba:=mS 262 [] true [.one (.int .u8)] [] (λa r=>Z15 (au a 0)) (λX=>.bool X) (λX=>[])
theorem Qxn:bm pG Zh7:=oS (.nil) Tryz.func262 Tryz.call262 [] [] 2
def Qyw(s:List UInt8)(z:(Bool)×(Int)×(List ll)):Nat:=(s.length-z.2.1).toNat
def Z03(s:List UInt8)(v0:Bool×Int×List ll)(z:(Int)):Nat:=(s.length-z).toNat
def Qz9(s:List UInt8)(v0:Bool×Int×List ll)(z:(Int)):Nat:=(s.length-z).toNat
def NF(s:List UInt8):Tree ((List ll)×Bool):=
.lp inferInstance (Qyw s (true,0,[])+1) ((rE (s:List UInt8)/\True/\rE (true:Bool)/\rE (0:Int)/\True)/\rE ([]:List (RK.T RK.av))/\True) (true,0,[]) λ(v0:Bool×Int×List ll)=>.br (decide (v0.2.1<(s.length:Int))) (.cn (decide (0<=v0.2.1/\v0.2.1<(s.length:Int))) (let E7:=(↑(hZ (s.getD v0.2.1.toNat (0:UInt8))):Int);.br (E7==(32:Int)) (.nx ((rE (s:List UInt8)/\True/\rE (true:Bool)/\rE ((wrap i64 (v0.2.1+1)):Int)/\True)/\rE v0.2.2/\True) (Sum.inl (true,wrap i64 (v0.2.1+1),v0.2.2))) (.lv (VG E7) λ(x0:Bool)=>let mj:=decide (32*(v0.2.2.length+1)<=140737488355328);let rV:=cV v0.2.1.toNat s;.br x0 (.lp inferInstance (Z03 s v0 v0.2.1+1) ((rE (s:List UInt8)/\True/\rE v0.1/\rE v0.2.1/\rE v0.2.1/\True)/\rE v0.2.2/\True) v0.2.1 λ(v1:Int)=>let T3:Tree ((Int)⊕((Bool×Int×List ll)⊕(((List ll)×Bool)))):=.cn (decide (0<=v0.2.1/\v0.2.1<=v1/\v1<=(s.length:Int))) (.cn mj (.nx ((rE (s:List UInt8)/\True/\rE (false:Bool)/\rE (v1:Int)/\True)/\rE ((v0.2.2++[{kind:=1,F3:=cU (dA v1-dA v0.2.1) (cV v0.2.1.toNat s),Ae:=v0.1}]):List (RK.T RK.av))/\True) (Sum.inr (Sum.inl (false,v1,v0.2.2++[{kind:=1,F3:=cU (dA v1-dA v0.2.1) rV,Ae:=v0.1}])))));.br (decide (v1<(s.length:Int))) (let nf:=decide (0<=v1/\v1<(s.length:Int));.cn nf (let E8:=(↑(hZ (s.getD v1.toNat (0:UInt8))):Int);.lv (VG E8) λ(x1:Bool)=>let T5:Tree ((Int)⊕((Bool×Int×List ll)⊕(((List ll)×Bool)))):=.nx ((rE (s:List UInt8)/\True/\rE v0.1/\rE ((wrap i64 (v1+1)):Int)/\rE v0.2.1/\True)/\rE v0.2.2/\True) (Sum.inl (wrap i64 (v1+1)));.br x1 T5 (.cn nf (.lv (MK E8) λ(x2:Bool)=>.br x2 T5 (.cn nf (.br (E8==(95:Int)) T5 T3)))))) T3) (.lv (MK E7) λ(x3:Bool)=>let T2:Tree ((Bool×Int×List ll)⊕(((List ll)×Bool))):=.lp inferInstance (Qz9 s v0 (wrap i64 (v0.2.1+1))+1) ((rE (s:List UInt8)/\True/\rE v0.1/\rE ((wrap i64 (v0.2.1+1)):Int)/\rE v0.2.1/\True)/\rE v0.2.2/\True) (wrap i64 (v0.2.1+1)) λ(v1:Int)=>let T4:Tree ((Int)⊕((Bool×Int×List ll)⊕(((List ll)×Bool)))):=.cn (decide (0<=v0.2.1/\v0.2.1<=v1/\v1<=(s.length:Int))) (.cn mj (.nx ((rE (s:List UInt8)/\True/\rE (false:Bool)/\rE (v1:Int)/\True)/\rE ((v0.2.2++[{kind:=2,F3:=cU (dA v1-dA v0.2.1) (cV v0.2.1.toNat s),Ae:=v0.1}]):List (RK.T RK.av))/\True) (Sum.inr (Sum.inl (false,v1,v0.2.2++[{kind:=2,F3:=cU (dA v1-dA v0.2.1) rV,Ae:=v0.1}])))));.br (decide (v1<(s.length:Int))) (let nS:=decide (0<=v1/\v1<(s.length:Int));.cn nS (let E9:=(↑(hZ (s.getD v1.toNat (0:UInt8))):Int);.lv (VG E9) λ(x4:Bool)=>let T6:Tree ((Int)⊕((Bool×Int×List ll)⊕(((List ll)×Bool)))):=.nx ((rE (s:List UInt8)/\True/\rE v0.1/\rE ((wrap i64 (v1+1)):Int)/\rE v0.2.1/\True)/\rE v0.2.2/\True) (Sum.inl (wrap i64 (v1+1)));.br x4 T6 (.cn nS (.lv (MK E9) λ(x5:Bool)=>.br x5 T6 (.cn nS (.br (E9==(95:Int)) T6 T4)))))) T4;.br x3 T2 (.br (E7==(45:Int)) T2 (let T1:Tree ((Bool×Int×List ll)⊕(((List ll)×Bool))):=.cn (decide (0<=v0.2.1/\v0.2.1<=wrap i64 (v0.2.1+1)/\wrap i64 (v0.2.1+1)<=(s.length:Int))) (.cn mj (.nx ((rE (s:List UInt8)/\True/\rE (false:Bool)/\rE ((wrap i64 (v0.2.1+1)):Int)/\True)/\rE ((v0.2.2++[{kind:=3,F3:=cU (dA (wrap i64 (v0.2.1+1))-dA v0.2.1) (cV v0.2.1.toNat s),Ae:=v0.1}]):List (RK.T RK.av))/\True) (Sum.inl (false,wrap i64 (v0.2.1+1),v0.2.2++[{kind:=3,F3:=cU (dA (wrap i64 (v0.2.1+1))-dA v0.2.1) rV,Ae:=v0.1}]))));.br (E7==(44:Int)) T1 (.br (E7==(58:Int)) T1 (.br (E7==(40:Int)) T1 (.br (E7==(41:Int)) T1 (.br (E7==(46:Int)) T1 (.lf (Sum.inr ([],false))))))))))))) (.lf (Sum.inr (v0.2.2,true)))
def Z7u s:=(NF s).m
abbrev Qkw s:=(NF s).p
def Za7:cg:={
 α:=(Bool)×(Int)×(List ll)
 F:=λst a=>([(0,(lk st 0)),(4,.all 0),(5,.bool a.1),(6,.int i64 a.2.1)],[⟨false,290,3,.ah RK.av a.2.2⟩])
 a0:=λst=>((lk st 5).toBool,(lk st 6).toInt,(rK RK.av st.rows (rN st 4)))
 jl:=λst=>[]++[(rX st 4 0)]}
def Z9i:cg:={
 α:=(Int)
 F:=λst a=>([(0,(lk st 0)),(4,.all 0),(5,(lk st 5)),(6,.int i64 a),(8,(lk st 8))],[⟨false,290,3,j7 st.rows (rN st 4)⟩])
 a0:=λst=>(lk st 6).toInt
 jl:=λst=>[]++[(rX st 4 0)]}
def Zaa:cg:={
 α:=(Int)
 F:=λst a=>([(0,(lk st 0)),(4,.all 0),(5,(lk st 5)),(6,.int i64 a),(8,(lk st 8))],[⟨false,290,3,j7 st.rows (rN st 4)⟩])
 a0:=λst=>(lk st 6).toInt
 jl:=λst=>[]++[(rX st 4 0)]}
def Z37:List (Nat×cg):=[(4,Za7),(12,Z9i),(17,Zaa)]
def Zf9:ba:=mT 228 [] true [.one (.str)] [] (λa r=>NF (jF a 0)) (λX=>.dw [.all 0,.bool (X.2)]) (λX=>[⟨false,290,3,.ah .av (X.1)⟩])
theorem Z91:bm pG Zf9:=oT (.cons Qun (.cons Qxn (.nil))) Tryz.func228 Tryz.call228 [.row 290 3 (.ah .av)] Z37 3
 def R8 (p:Int->Prop) (r:Int->List UInt8) (n:Int):Tree (List UInt8):=
 .br (decide (n<(10:Int))) (.lf ([(λ(n:Int)=>eD n.toNat) (wrap u8 (wrap u64 ((48:Int)+n)))])) (.an (p (wrap u64 (eF n (10:Int)))) (.lv (r (wrap u64 (eF n (10:Int)))) λ(x0:List UInt8)=>.cn (decide (x0.length+dF [(λ(n:Int)=>eD n.toNat) (wrap u8 (wrap u64 ((48:Int)+Int.tmod n (10:Int))))]<=maxLen)) (.lf (x0++[(λ(n:Int)=>eD n.toNat) (wrap u8 (wrap u64 ((48:Int)+Int.tmod n (10:Int))))]))))
 def AR:Nat->Int->List UInt8
  |0,_=>[]
  |k+1,n=>(R8 (λ_=>True) (AR k) n).m
 def Ke (k:Nat) (n:Int):Prop:=0<=n/\n<10^k/\n<18446744073709551616/\0<k/\k<=30
 def Jai (k:Nat):ba:=lJ 301 [] true [.one (.int .u64)] [] (λargs rows=>Ke k (au args 0)) (λargs rows=>AR k (au args 0)) (λX=>.str X) (λX=>[])
 theorem oJ:∀k n,(AR k n).length<=k
  |0,_=>Nat.le_refl _
  |k+1,n=>by
   show(bif decide (n<10)then _ else ee (AR k _) λx0=>x0++_).length<=k+1
   have:=oJ k (wrap u64 (eF n 10))
   cases decide (n<10)
   ·simp[ee,Tree.m];omega
   ·simp[Tree.m]
 theorem w7:∀k,bm pG (Jai k)
  |0=>Ga Tryz.call301 (λargs rows h=>absurd h.2.2.2.1 (Nat.lt_irrefl 0)) (λ_ X=>by kernel_rfl)
  |k + 1=>by
   refine wc drawn jB (.cons (w7 k) .nil) Tryz.func301 Tryz.call301 (λargs rows=>R8 (Ke k) (AR k) (au args 0)) [] [] 2 (λ_ _ _=>by kernel_rfl) (λ_ _=>rfl) (λargs rows h=>?_) (λ_ X=>by kernel_rfl)
   obtain⟨h0,h1,h2,h3,h4⟩:=h
   generalize au args 0=n at*
   refine ab (λ_=>trivial) (λhn=>?_)
   have hn:=oN hn
   have e:wrap u64 (eF n 10)=n/10:=by rw[wrap_u64,Int.tdiv_eq_ediv_of_nonneg h0];omega
   refine c8 (show Ke k _ from ?_) (aq λx hx=>aw (dY ?_) trivial)
   ·rw[e]
    rw[Int.pow_succ]at h1
    have hk:0<k:=by
     rcases Nat.eq_zero_or_pos k with rfl|h
     ·simp at h1;omega
     ·exact h
    exact⟨by omega,by omega,by omega,hk,by omega⟩
   ·have:=oJ k (wrap u64 (eF n 10))
    rw[<-hx]at this
    simp[maxLen];omega
def ML(n:Int):(List UInt8):=
AR 20 n
def EL(n:Int):Prop:=
0<=n/\n<18446744073709551616
def Qq4(n:Int):List D:=[.int .u64 n]
def Qpw(n:Int):List Row:=[]
def Qjo(X:List UInt8):D:=.str X
def Qkt(X:List UInt8):List Row:=[]
def Qs1:List PT:=[.one (.int .u64)]
def Qpn:List RT:=[]
def Z6d(args:List D)(rows:List Row):(List UInt8):=ML (au args 0)
def Z67(args:List D)(rows:List Row):Prop:=EL (au args 0)
def Zf1:ba:=lJ 301 [] true Qs1 Qpn Z67 Z6d Qjo Qkt
theorem Qzx(n:Int)(hw:EL n):kq pG 301 (Qq4 n) (Qpw n) (Qjo (ML n)) (Qkt (ML n)):=by
 have h20:(18446744073709551616:Int)<=10^20:=by decide
 exact vB (args:=[.int .u64 n]) (rows:=[]) (w7 20) (by kernel_rfl) ⟨hw.1,Int.lt_of_lt_of_le hw.2 h20,hw.2,by decide,by decide⟩
set_option maxRecDepth 100000 in
theorem Z2j(args:List D)(rows:List Row):lg Qs1 args 0=Qq4 (au args 0):=by kernel_rfl
set_option maxRecDepth 100000 in
theorem Qyu(args:List D)(rows:List Row):ku Qpn rows 0=Qpw (au args 0):=by kernel_rfl
set_option maxRecDepth 100000 in
theorem Zad(X:List UInt8):(tw (Qjo X)&&jv (Qkt X))=true:=by kernel_rfl
theorem Z9n:bm pG Zf1:=Ga Tryz.call301 (λargs rows hp=>by rw[Z2j args rows,Qyu args rows];exact Qzx (au args 0) hp) (λ_ X=>Zad X)
def IF(n:Int):Tree (List UInt8):=
.br (decide (n<0)) (let E1:=wrap u64 (wrap u64 (wrap i64 (0-wrap i64 (n+1)))+1);.an (EL E1) (.lv (ML E1) λ(x0:List UInt8)=>.cn (decide (1+x0.length<=maxLen)) (.lf ((45:UInt8)::x0)))) (.an (EL (wrap u64 n)) (.lv (ML (wrap u64 n)) λ(x1:List UInt8)=>.lf x1))
def Qru n:=(IF n).m
abbrev Qhu n:=(IF n).p
def Z97:ba:=mT 298 [] true [.one (.int .i64)] [] (λa r=>IF (au a 0)) (λX=>.str X) (λX=>[])
theorem Z4k:bm pG Z97:=oT (.cons Z9n (.nil)) Tryz.func298 Tryz.call298 [] [] 2
def IG(r:Int):Tree (List UInt8):=
.an (Qhu r) (.lv (Qru r) λ(x0:List UInt8)=>.cn (decide (1+x0.length<=maxLen)) (.lf ((114:UInt8)::x0)))
def Zpp r:=(IG r).m
abbrev Qsj r:=(IG r).p
def Zqw:ba:=mT 288 [] true [.one (.int .i64)] [] (λa r=>IG (au a 0)) (λX=>.str X) (λX=>[])
theorem Znh:bm pG Zqw:=oT (.cons Z4k (.nil)) Tryz.func288 Tryz.call288 [] [] 2
def Qts(s:List UInt8)(z:(Int)):Prop:=0<=z/\z<=16
def Qgq(s:List UInt8)(z:(Int)):Nat:=(16-z).toNat
def VH(s:List UInt8):Tree (Int×Bool):=
.lp inferInstance (Qgq s 0+1) ((rE (s:List UInt8)/\rE (0:Int)/\True)/\True) 0 λ(v0:Int)=>.br (decide (v0<16)) (.an (Qsj v0) (.lv (Zpp v0) λ(x0:List UInt8)=>.br (decide (s=x0)) (.lf (Sum.inr (v0,true))) (.nx ((rE (s:List UInt8)/\rE ((wrap i64 (v0+1)):Int)/\True)/\True) (Sum.inl (wrap i64 (v0+1)))))) (.lf (Sum.inr (0,false)))
def Qjt s:=(VH s).m
theorem Qv4(s:List UInt8):(VH s).p:=by
 unfold Tree.p VH
 have dp:∀x,EL (wrap .u64 x):=λx=>by unfold EL;rw[wrap_u64];omega
 have dl:∀x,(ML x).length<=20:=λx=>oJ 20 x
 have hd:∀x,(IF x).w (λr=>r.length<=21):=λx=>by
  unfold IF
  refine ab (λ_=>c8 (dp _) (aq λx0 h0=>aw (dY ?_) ?_)) (λ_=>c8 (dp _) (aq λx1 h1=>?_))
  ·have:=dl (wrap .u64 (wrap .u64 (wrap .i64 (0-wrap .i64 (x+1)))+1));rw[<-h0]at this;simp[maxLen];omega
  ·have:=dl (wrap .u64 (wrap .u64 (wrap .i64 (0-wrap .i64 (x+1)))+1));rw[<-h0]at this;show(_::x0).length<=21;simp;omega
  ·rw[h1];exact Nat.le_trans (dl _) (by decide)
 have hr:∀x,(IG x).p:=λx=>by
  unfold Tree.p IG
  refine c8 (Tree.pp (hd x)).1 (aq λx0 h0=>aw (dY ?_) trivial)
  have:(Qru x).length<=21:=(Tree.pp (hd x)).2
  rw[<-h0]at this;simp[maxLen];omega
 refine fj (inv:=Qts s) (μ:=Qgq s) ⟨by decide,by decide⟩ (cN _) (λz hz=>?_)
 obtain⟨z1,z2⟩:=hz
 refine ab (λhb=>c8 (hr _) (aq λx0 _=>ab (λ_=>trivial) (λ_=>ep ?_))) (λ_=>trivial)
 have hb:=oY hb
 show(0<=i64.wrap (z+1)/\i64.wrap (z+1)<=16)/\(16-i64.wrap (z+1)).toNat<(16-z).toNat
 rw[wrap_i64];omega
def Qxx:cg:={
 α:=(Int)
 F:=λst a=>([(0,(lk st 0)),(4,.int i64 a)],[])
 a0:=λst=>(lk st 4).toInt
 jl:=λst=>[]++[]}
def Qu:List (Nat×cg):=[(2,Qxx)]
def Z0s:ba:=mS 263 [] true [.one (.str)] [] (λa r=>VH (jF a 0)) (λX=>.dw [.int .i64 (X.1),.bool (X.2)]) (λX=>[])
theorem Qm2:bm pG Z0s:=oS (.cons Znh (.nil)) Tryz.func263 Tryz.call263 [] Qu 3 (λ_ _ _=>by kernel_rfl) (λa r=>Qv4 (jF a 0)) (λ_ X=>by kernel_rfl)
def NG(s:List UInt8):Tree Bool:=
.lv (Qjt s) λ(x0:Int×Bool)=>.br (decide ((s.length:Int)>=(1:Int))) (.br (decide ((s.length:Int)<=(12:Int))) (.cn (decide ((0:Int)<=(0:Int)/\0<(s.length:Int))) (.lv (VG (↑(hZ (s.getD (dA 0) (0:UInt8))):Int)) λ(x1:Bool)=>.br x1 (.lf (!x0.2)) (.lf false))) (.lf false)) (.lf false)
def Z6g s:=(NG s).m
abbrev WU s:=(NG s).p
def Zo7:ba:=mT 229 [] true [.one (.str)] [] (λa r=>NG (jF a 0)) (λX=>.bool X) (λX=>[])
theorem Z14:bm pG Zo7:=oT (.cons Qm2 (.cons Qun (.nil))) Tryz.func229 Tryz.call229 [] [] 2
def NH(op:Int):Tree (List UInt8):=
let T1:Tree ((List UInt8)):=let T3:Tree ((List UInt8)):=.br (op==48) (.lf ([(106:UInt8),97,108])) (.br (op==49) (.lf ([(106:UInt8),97,108,114])) (.br (decide (op>=56)) (.br (decide (op<=64)) (.cn (bX 1 1&&bN 0 1&&decide (0<=wrap i64 (op-56)/\wrap i64 (op-56)<(↑9:Int))) (.lf (aV [[(101:UInt8),99,97,108,108],[(101:UInt8),114,101,116],[(99:UInt8),115,114,114],[(99:UInt8),115,114,119],[(105:UInt8),110],[(111:UInt8),117,116],[(119:UInt8),102,105],[(102:UInt8),108,117,115,104],[(104:UInt8),97,108,116]] (dA (wrap i64 (op-56))) (RK.ed RK.str)))) (.lf ([]))) (.lf ([]))));.br (decide (op>=40)) (.br (decide (op<=45)) (.cn (bX 1 1&&bN 0 1&&decide (0<=wrap i64 (op-40)/\wrap i64 (op-40)<(↑6:Int))) (.lf (aV [[(98:UInt8),101,113],[(98:UInt8),110,101],[(98:UInt8),108,116],[(98:UInt8),103,101],[(98:UInt8),108,116,117],[(98:UInt8),103,101,117]] (dA (wrap i64 (op-40))) (RK.ed RK.str)))) T3) T3;let T2:Tree ((List UInt8)):=let T4:Tree ((List UInt8)):=.br (decide (op>=32)) (.br (decide (op<=36)) (.cn (bX 1 1&&bN 0 1&&decide (0<=wrap i64 (op-32)/\wrap i64 (op-32)<(↑5:Int))) (.lf (aV [[(108:UInt8),119],[(108:UInt8),98],[(108:UInt8),98,117],[(115:UInt8),119],[(115:UInt8),98]] (dA (wrap i64 (op-32))) (RK.ed RK.str)))) T1) T1;.br (decide (op>=16)) (.br (decide (op<=24)) (.cn (bX 1 1&&bN 0 1&&decide (0<=wrap i64 (op-16)/\wrap i64 (op-16)<(↑9:Int))) (.lf (aV [[(97:UInt8),100,100,105],[(97:UInt8),110,100,105],[(111:UInt8),114,105],[(120:UInt8),111,114,105],[(115:UInt8),104,108,105],[(115:UInt8),104,114,105],[(115:UInt8),97,114,105],[(115:UInt8),108,116,105],[(108:UInt8),117,105]] (dA (wrap i64 (op-16))) (RK.ed RK.str)))) T4) T4;.br (decide (op>=1)) (.br (decide (op<=13)) (.cn (bX 1 1&&bN 0 1&&decide (0<=wrap i64 (op-1)/\wrap i64 (op-1)<(↑13:Int))) (.lf (aV [[(97:UInt8),100,100],[(115:UInt8),117,98],[(97:UInt8),110,100],[(111:UInt8),114],[(120:UInt8),111,114],[(115:UInt8),104,108],[(115:UInt8),104,114],[(115:UInt8),97,114],[(109:UInt8),117,108],[(100:UInt8),105,118],[(114:UInt8),101,109],[(115:UInt8),108,116],[(115:UInt8),108,116,117]] (dA (wrap i64 (op-1))) (RK.ed RK.str)))) T2) T2
def Qwf op:=(NH op).m
abbrev Qfh op:=(NH op).p
def Z7y:ba:=mT 265 [] true [.one (.int .i64)] [] (λa r=>NH (au a 0)) (λX=>.str X) (λX=>[])
theorem Z38:bm pG Z7y:=oT (.nil) Tryz.func265 Tryz.call265 [] [] 2
def Qu1(s:List UInt8)(z:(Int)):Nat:=(65-z).toNat
def NI(s:List UInt8):Tree Int:=
.lp inferInstance (Qu1 s 1+1) ((rE (s:List UInt8)/\rE (1:Int)/\True)/\True) 1 λ(v0:Int)=>.br (decide (v0<=64)) (.lv (oU v0) λ(x0:Int)=>.br (decide (x0>0)) (.an (Qfh v0) (.lv (Qwf v0) λ(x1:List UInt8)=>.br (decide (x1=s)) (.lf (Sum.inr v0)) (.nx ((rE (s:List UInt8)/\rE ((wrap i64 (v0+1)):Int)/\True)/\True) (Sum.inl (wrap i64 (v0+1)))))) (.nx ((rE (s:List UInt8)/\rE ((wrap i64 (v0+1)):Int)/\True)/\True) (Sum.inl (wrap i64 (v0+1))))) (.lf (Sum.inr 0))
def R9 s:=(NI s).m
abbrev KG s:=(NI s).p
def Qzr:cg:={
 α:=(Int)
 F:=λst a=>([(0,(lk st 0)),(3,.int i64 a)],[])
 a0:=λst=>(lk st 3).toInt
 jl:=λst=>[]++[]}
def Qvb:List (Nat×cg):=[(2,Qzr)]
def Z35:ba:=mT 232 [] true [.one (.str)] [] (λa r=>NI (jF a 0)) (λX=>.int .i64 X) (λX=>[])
theorem Qns:bm pG Z35:=oT (.cons R6 (.cons Z38 (.nil))) Tryz.func232 Tryz.call232 [] Qvb 3
def NK(ea:List UInt8):Tree ((List UInt8)×Bool):=
.an (KG ea) (.lv (R9 ea) λ(x0:Int)=>.br (decide (ea=[(46:UInt8),119,111,114,100])) (.lf ([(120:UInt8)],true)) (.br (decide (ea=[(46:UInt8),115,112,97,99,101])) (.lf ([(110:UInt8)],true)) (.br (decide (ea=[(108:UInt8),105])) (.lf ([(114:UInt8),44,120],true)) (.br (decide (ea=[(109:UInt8),118])) (.lf ([(114:UInt8),44,114],true)) (.br (decide (ea=[(110:UInt8),111,112])) (.lf ([],true)) (.br (x0==0) (.lf ([],false)) (let T1:Tree (((List UInt8)×Bool)):=.br (x0==48) (.lf ([(114:UInt8),44,120],true)) (.lv (oU x0) λ(x1:Int)=>.br (x1==1) (.lf ([],true)) (.br (x1==2) (.lf ([(114:UInt8),44,114,44,114],true)) (.br (decide (x1>=6)) (.lf ([(114:UInt8),44,110],true)) (.lf ([(114:UInt8),44,114,44,110],true)))));let T2:Tree (((List UInt8)×Bool)):=.br (decide (x0>=40)) (.br (decide (x0<=45)) (.lf ([(114:UInt8),44,114,44,120],true)) T1) T1;.br (decide (x0>=32)) (.br (decide (x0<=36)) (.lf ([(114:UInt8),44,110,40,114,41],true)) T2) T2)))))))
def VI ea:=(NK ea).m
abbrev NJ ea:=(NK ea).p
def Z9k:ba:=mT 230 [] true [.one (.str)] [] (λa r=>NK (jF a 0)) (λX=>.dw [.str (X.1),.bool (X.2)]) (λX=>[])
theorem Z59:bm pG Z9k:=oT (.cons Qns (.cons R6 (.nil))) Tryz.func230 Tryz.call230 [] [] 2
def Qyp(s:List UInt8)(z:(Int)×(Int)):Nat:=(s.length-z.2).toNat
def Qnd(s:List UInt8)(z:(Int)×(Int)):Nat:=(s.length-z.2).toNat
def NL(s:List UInt8):Tree (Int×Bool):=
let E7:=decide ((0:Int)<=(0:Int)/\0<(s.length:Int));let E8:=(↑(hZ (s.getD (dA 0) (0:UInt8))):Int);let T1:Tree ((Int×Bool)):=let T2:Tree ((Int×Bool)):=.br (decide (wrap i64 ((s.length:Int)-(0:Int))<1)) (.lf (0,false)) (.br (decide (wrap i64 ((s.length:Int)-(0:Int))>10)) (.lf (0,false)) (.lp inferInstance (Qnd s (0,0)+1) ((rE (s:List UInt8)/\rE (0:Int)/\rE (0:Int)/\rE (0:Int)/\True)/\True) (0,0) λ(v0:Int×Int)=>.br (decide (v0.2<(s.length:Int))) (let E9:=decide (0<=v0.2/\v0.2<(s.length:Int));.cn E9 (let E5:=(↑(hZ (s.getD v0.2.toNat (0:UInt8))):Int);.lv (MK E5) λ(x2:Bool)=>.br (!x2) (.lf (Sum.inr (0,false))) (.cn E9 (.nx ((rE (s:List UInt8)/\rE (0:Int)/\rE ((wrap i64 (wrap i64 (10*v0.1)+wrap i64 (wrap u8 ((↑(hZ (s.getD v0.2.toNat (0:UInt8))):Int)-(48:Int))))):Int)/\rE ((wrap i64 (v0.2+1)):Int)/\True)/\True) (Sum.inl (wrap i64 (wrap i64 (10*v0.1)+wrap i64 (wrap u8 (E5-(48:Int)))),wrap i64 (v0.2+1))))))) (.br (decide (v0.1>=(-2147483648))) (.lf (Sum.inr (v0.1,decide (v0.1<=4294967295)))) (.lf (Sum.inr (v0.1,false))))));.br (decide ((s.length:Int)>(0:Int))) (.cn E7 (.br (E8==(45:Int)) (.br (decide (wrap i64 ((s.length:Int)-(1:Int))<1)) (.lf (0,false)) (.br (decide (wrap i64 ((s.length:Int)-(1:Int))>10)) (.lf (0,false)) (.lp inferInstance (Qnd s (0,1)+1) ((rE (s:List UInt8)/\rE (1:Int)/\rE (0:Int)/\rE (1:Int)/\True)/\True) (0,1) λ(v0:Int×Int)=>.br (decide (v0.2<(s.length:Int))) (let mj:=decide (0<=v0.2/\v0.2<(s.length:Int));.cn mj (let E6:=(↑(hZ (s.getD v0.2.toNat (0:UInt8))):Int);.lv (MK E6) λ(x1:Bool)=>.br (!x1) (.lf (Sum.inr (0,false))) (.cn mj (.nx ((rE (s:List UInt8)/\rE (1:Int)/\rE ((wrap i64 (wrap i64 (10*v0.1)+wrap i64 (wrap u8 ((↑(hZ (s.getD v0.2.toNat (0:UInt8))):Int)-(48:Int))))):Int)/\rE ((wrap i64 (v0.2+1)):Int)/\True)/\True) (Sum.inl (wrap i64 (wrap i64 (10*v0.1)+wrap i64 (wrap u8 (E6-(48:Int)))),wrap i64 (v0.2+1))))))) (.br (decide (wrap i64 (0-v0.1)>=(-2147483648))) (.lf (Sum.inr (wrap i64 (0-v0.1),decide (wrap i64 (0-v0.1)<=4294967295)))) (.lf (Sum.inr (wrap i64 (0-v0.1),false))))))) T2)) T2;.br (decide ((s.length:Int)>(2:Int))) (.cn E7 (.br (E8==(48:Int)) (.cn (decide ((0:Int)<=(1:Int)/\1<(s.length:Int))) (.br ((↑(hZ (s.getD (dA 1) (0:UInt8))):Int)==(120:Int)) (.br (decide ((s.length:Int)>(10:Int))) (.lf (0,false)) (.lp inferInstance (Qyp s (0,2)+1) ((rE (s:List UInt8)/\rE (0:Int)/\rE (2:Int)/\True)/\True) (0,2) λ(v0:Int×Int)=>.br (decide (v0.2<(s.length:Int))) (let E4:=decide (0<=v0.2/\v0.2<(s.length:Int));.cn E4 (let E3:=(↑(hZ (s.getD v0.2.toNat (0:UInt8))):Int);.lv (MK E3) λ(x0:Bool)=>.br x0 (.cn E4 (.nx ((rE (s:List UInt8)/\rE ((wrap i64 (wrap i64 (16*v0.1)+wrap i64 (wrap u8 ((↑(hZ (s.getD v0.2.toNat (0:UInt8))):Int)-(48:Int))))):Int)/\rE ((wrap i64 (v0.2+1)):Int)/\True)/\True) (Sum.inl (wrap i64 (wrap i64 (16*v0.1)+wrap i64 (wrap u8 (E3-(48:Int)))),wrap i64 (v0.2+1))))) (.cn E4 (.br (decide (E3>=(97:Int))) (.cn E4 (.br (decide (E3<=(102:Int))) (.cn E4 (.nx ((rE (s:List UInt8)/\rE ((wrap i64 (wrap i64 (wrap i64 (16*v0.1)+wrap i64 (wrap u8 ((↑(hZ (s.getD v0.2.toNat (0:UInt8))):Int)-(97:Int))))+10)):Int)/\rE ((wrap i64 (v0.2+1)):Int)/\True)/\True) (Sum.inl (wrap i64 (wrap i64 (wrap i64 (16*v0.1)+wrap i64 (wrap u8 (E3-(97:Int))))+10),wrap i64 (v0.2+1))))) (.lf (Sum.inr (0,false))))) (.lf (Sum.inr (0,false))))))) (.lf (Sum.inr (v0.1,true))))) T1)) T1)) T1
def Z45 s:=(NL s).m
abbrev Qk7 s:=(NL s).p
def Z9l:cg:={
 α:=(Int)×(Int)
 F:=λst a=>([(0,(lk st 0)),(4,.int i64 a.1),(5,.int i64 a.2)],[])
 a0:=λst=>((lk st 4).toInt,(lk st 5).toInt)
 jl:=λst=>[]++[]}
def Zam:cg:={
 α:=(Int)×(Int)
 F:=λst a=>([(0,(lk st 0)),(6,(lk st 6)),(7,.int i64 a.1),(8,.int i64 a.2)],[])
 a0:=λst=>((lk st 7).toInt,(lk st 8).toInt)
 jl:=λst=>[]++[]}
def Z3b:List (Nat×cg):=[(6,Z9l),(21,Zam)]
def Zfu:ba:=mT 264 [] true [.one (.str)] [] (λa r=>NL (jF a 0)) (λX=>.dw [.int .i64 (X.1),.bool (X.2)]) (λX=>[])
theorem Zae:bm pG Zfu:=oT (.cons Qxn (.nil)) Tryz.func264 Tryz.call264 [] Z3b 3
def Qwp(l:List ll)(p:List UInt8)(z:(Int)×(List nF)):Nat:=(l.length-z.1).toNat
def NN(l:List ll)(p:List UInt8):Tree ((List nF)×Bool):=
.br ((l.length:Int) !=(p.length:Int)) (.lf ([],false)) (.lp inferInstance (Qwp l p (0,[])+1) ((nR RK.av 3 l/\rE (p:List UInt8)/\True/\rE (0:Int)/\True)/\rE ([]:List (RK.T RK.ax))/\True) (0,[]) λ(v0:Int×List nF)=>.br (decide (v0.1<(l.length:Int))) (.cn (bX 3 3&&bN 0 3&&decide (0<=v0.1/\v0.1<(l.length:Int))) (let E6:=decide (0<=v0.1/\v0.1<(p.length:Int));.cn E6 (let E3:=l.getD v0.1.toNat (RK.ed RK.av);let E4:=(↑(hZ (p.getD v0.1.toNat (0:UInt8))):Int);let E5:=decide (32*(v0.2.length+1)<=140737488355328);.br (E4==(114:Int)) (.lv (Qjt E3.F3) λ(x0:Int×Bool)=>.br (E3.kind !=1) (.lf (Sum.inr ([],false))) (.br (!x0.2) (.lf (Sum.inr ([],false))) (.cn E5 (.nx ((nR RK.av 3 l/\rE (p:List UInt8)/\True/\rE ((wrap i64 (v0.1+1)):Int)/\True)/\rE ((v0.2++[{kz:=x0.1,num:=0,label:=[]}]):List (RK.T RK.ax))/\True) (Sum.inl (wrap i64 (v0.1+1),v0.2++[{kz:=x0.1,num:=0,label:=[]}])))))) (let T1:Tree ((Int×List nF)⊕(((List nF)×Bool))):=.an (Qk7 E3.F3) (.lv (Z45 E3.F3) λ(x2:Int×Bool)=>.br (E3.kind !=2) (.lf (Sum.inr ([],false))) (.br (!x2.2) (.lf (Sum.inr ([],false))) (.cn E5 (.nx ((nR RK.av 3 l/\rE (p:List UInt8)/\True/\rE ((wrap i64 (v0.1+1)):Int)/\True)/\rE ((v0.2++[{kz:=0,num:=x2.1,label:=[]}]):List (RK.T RK.ax))/\True) (Sum.inl (wrap i64 (v0.1+1),v0.2++[{kz:=0,num:=x2.1,label:=[]}]))))));let T2:Tree ((Int×List nF)⊕(((List nF)×Bool))):=.cn E6 (.br (E4==(120:Int)) (.br (E3.kind==1) (.an (WU E3.F3) (.lv (Z6g E3.F3) λ(x1:Bool)=>.br x1 (.cn E5 (.nx ((nR RK.av 3 l/\rE (p:List UInt8)/\True/\rE ((wrap i64 (v0.1+1)):Int)/\True)/\rE ((v0.2++[{kz:=0,num:=0,label:=(l.getD v0.1.toNat (RK.ed RK.av)).F3}]):List (RK.T RK.ax))/\True) (Sum.inl (wrap i64 (v0.1+1),v0.2++[{kz:=0,num:=0,label:=E3.F3}])))) T1)) T1) T1);.br (E4==(110:Int)) T2 (.br (E4==(120:Int)) T2 (.br (E3.kind !=3) (.lf (Sum.inr ([],false))) (.cn (decide (0<=v0.1/\v0.1<=wrap i64 (v0.1+1)/\wrap i64 (v0.1+1)<=(p.length:Int))) (.br (!decide (E3.F3=cU (dA (wrap i64 (v0.1+1))-dA v0.1) (cV v0.1.toNat p))) (.lf (Sum.inr ([],false))) (.nx ((nR RK.av 3 l/\rE (p:List UInt8)/\True/\rE ((wrap i64 (v0.1+1)):Int)/\True)/\rE v0.2/\True) (Sum.inl (wrap i64 (v0.1+1),v0.2))))))))))) (.lf (Sum.inr (v0.2,true))))
def VJ l p:=(NN l p).m
abbrev NM l p:=(NN l p).p
def Z4l:cg:={
 α:=(Int)×(List nF)
 F:=λst a=>([(0,(lk st 0)),(1,(lk st 1)),(6,.all 0),(7,.int i64 a.1)],[⟨false,179,3,.ah RK.ax a.2⟩])
 a0:=λst=>((lk st 7).toInt,(rK RK.ax st.rows (rN st 6)))
 jl:=λst=>[]++[(rX st 6 0)]}
def Qz0:List (Nat×cg):=[(5,Z4l)]
def Z8y:ba:=mT 231 [] true [.one (.ah .av),.one (.str)] [] (λa r=>NN (kD .av a 0) (jF a 1)) (λX=>.dw [.all 0,.bool (X.2)]) (λX=>[⟨false,179,3,.ah .ax (X.1)⟩])
theorem Z4a:bm pG Z8y:=oT (.cons Qm2 (.cons Z14 (.cons Zae (.nil)))) Tryz.func231 Tryz.call231 [.row 179 3 (.ah .ax)] Qz0 3
def Qym(s:List UInt8)(z:(List UInt8)×(Int)):Nat:=(s.length-z.2).toNat
def NO(s:List UInt8):Tree ((List UInt8)×kp×Bool):=
.lp inferInstance (Qym s (s,0)+1) ((rE (s:List UInt8)/\rE ([]:List UInt8)/\rZ/\rE (false:Bool)/\rE (0:Int)/\True)/\(rE ([]:List UInt8)/\rE (0:Int)/\True/\rE (0:Int)/\rE (0:Int)/\rE (0:Int)/\True)/\True) (s,0) λ(v0:List UInt8×Int)=>.br (decide (v0.2<(v0.1.length:Int))) (.cn (decide (0<=v0.2/\v0.2<(v0.1.length:Int))) (.br ((↑(hZ (v0.1.getD v0.2.toNat (0:UInt8))):Int)==(59:Int)) (.cn (decide ((0:Int)<=(0:Int)/\0<=v0.2/\v0.2<=(v0.1.length:Int))) (.nx ((rE ((cU (dA v0.2-dA 0) (cV (dA 0) v0.1)):List UInt8)/\rE ([]:List UInt8)/\rZ/\rE (false:Bool)/\rE ((wrap i64 (v0.2+1)):Int)/\True)/\(rE ([]:List UInt8)/\rE (0:Int)/\True/\rE (0:Int)/\rE (0:Int)/\rE (0:Int)/\True)/\True) (Sum.inl (cU (dA v0.2-dA 0) (cV (dA 0) v0.1),wrap i64 (v0.2+1))))) (.nx ((rE v0.1/\rE ([]:List UInt8)/\rZ/\rE (false:Bool)/\rE ((wrap i64 (v0.2+1)):Int)/\True)/\(rE ([]:List UInt8)/\rE (0:Int)/\True/\rE (0:Int)/\rE (0:Int)/\rE (0:Int)/\True)/\True) (Sum.inl (v0.1,wrap i64 (v0.2+1)))))) (.an (Qkw v0.1) (.lv (Z7u v0.1) λ(x0:List ll×Bool)=>.br (!x0.2) (.lf (Sum.inr ([],{ea:=[],op:=0,l:=[],F4:=0,at_:=0,size:=0},false))) (let E9:=x0.1.getD (dA 0) (RK.ed RK.av);let T1:Tree ((List UInt8×Int)⊕(((List UInt8)×kp×Bool))):=.an (NJ E9.F3) (.lv (VI E9.F3) λ(x27:List UInt8×Bool)=>.br (!x27.2) (.lf (Sum.inr ([],{ea:=[],op:=0,l:=[],F4:=0,at_:=0,size:=0},false))) (let E20:=dA (x0.1.length:Int)-dA 1;let T6:Tree ((List UInt8×Int)⊕(((List UInt8)×kp×Bool))):=let E31:=cU E20 (cV (dA 1) x0.1);.an (NM E31 x27.1) (.lv (VJ E31 x27.1) λ(MM:List nF×Bool)=>.br (!MM.2) (.lf (Sum.inr ([],{ea:=[],op:=0,l:=[],F4:=0,at_:=0,size:=0},false))) (.an (KG E9.F3) (.lv (R9 E9.F3) λ(x29:Int)=>.br (decide (E9.F3=[(108:UInt8),105])) (.lf (Sum.inr ([],{ea:=E9.F3,op:=x29,l:=MM.1,F4:=0,at_:=0,size:=2},true))) (.br (decide (E9.F3=[(46:UInt8),115,112,97,99,101])) (let rV:=bX 3 3&&bN 0 3&&decide ((0:Int)<=(0:Int)/\0<(MM.1.length:Int));.cn rV (let E21:=MM.1.getD (dA 0) (RK.ed RK.ax);.br (decide (E21.num<0)) (.lf (Sum.inr ([],{ea:=[],op:=0,l:=[],F4:=0,at_:=0,size:=0},false))) (.cn rV (.br (decide (E21.num>1024)) (.lf (Sum.inr ([],{ea:=[],op:=0,l:=[],F4:=0,at_:=0,size:=0},false))) (.cn rV (.lf (Sum.inr ([],{ea:=E9.F3,op:=x29,l:=MM.1,F4:=0,at_:=0,size:=E21.num},true)))))))) (.lf (Sum.inr ([],{ea:=E9.F3,op:=x29,l:=MM.1,F4:=0,at_:=0,size:=1},true)))))));.br (decide ((↑E20:Int)>(0:Int))) (.cn (bX 3 3&&bN 0 3&&decide ((0:Int)<=(0:Int)/\0<(↑E20:Int))) (.br (!(x0.1.getD (dA 1+dA 0) (RK.ed RK.av)).Ae) (.lf (Sum.inr ([],{ea:=[],op:=0,l:=[],F4:=0,at_:=0,size:=0},false))) T6)) T6));let E25:=dA (x0.1.length:Int)-dA 2;let E8:=(↑E25:Int);let mj:=x0.1.getD (dA 2+dA 0) (RK.ed RK.av);let nS:=x0.1.getD (dA 1) (RK.ed RK.av);let E16:=bX 3 3&&bN 0 3&&decide ((0:Int)<=(0:Int)/\0<(x0.1.length:Int));let E17:=bX 3 3&&bN 0 3&&decide ((0:Int)<=(1:Int)/\1<(x0.1.length:Int));let E19:=bX 3 3&&bN 0 3&&decide ((0:Int)<=(2:Int)/\2<=(x0.1.length:Int)/\(x0.1.length:Int)<=(x0.1.length:Int));let E28:=bX 3 3&&bN 0 3&&decide ((0:Int)<=(0:Int)/\0<E8);let E30:=decide ((x0.1.length:Int)>=(2:Int));let T3:Tree ((List UInt8×Int)⊕(((List UInt8)×kp×Bool))):=.br ((x0.1.length:Int)==(0:Int)) (.lf (Sum.inr ([],{ea:=[],op:=0,l:=[],F4:=0,at_:=0,size:=0},true))) (.cn E16 (.cn (bX 3 3&&bN 0 3&&decide ((0:Int)<=(1:Int)/\1<=(x0.1.length:Int)/\(x0.1.length:Int)<=(x0.1.length:Int))) (.br (decide (E9.F3=[(46:UInt8)])) (.br E30 (.cn E17 (.br (!nS.Ae) (.cn E17 (.cn (decide (1+dF nS.F3<=maxLen)) (.cn E19 (.an (NJ ((46:UInt8)::nS.F3)) (.lv (VI ([(46:UInt8)]++nS.F3)) λ(x22:List UInt8×Bool)=>.br (!x22.2) (.lf (Sum.inr ([],{ea:=[],op:=0,l:=[],F4:=0,at_:=0,size:=0},false))) (let T7:Tree ((List UInt8×Int)⊕(((List UInt8)×kp×Bool))):=let E32:=cU E25 (cV (dA 2) x0.1);.an (NM E32 x22.1) (.lv (VJ E32 x22.1) λ(Sa:List nF×Bool)=>.br (!Sa.2) (.lf (Sum.inr ([],{ea:=[],op:=0,l:=[],F4:=0,at_:=0,size:=0},false))) (.an (KG ((46:UInt8)::nS.F3)) (.lv (R9 ([(46:UInt8)]++nS.F3)) λ(Er:Int)=>.br (decide ([(46:UInt8)]++nS.F3=[(46:UInt8),115,112,97,99,101])) (let DF:=bX 3 3&&bN 0 3&&decide ((0:Int)<=(0:Int)/\0<(Sa.1.length:Int));.cn DF (let E22:=Sa.1.getD (dA 0) (RK.ed RK.ax);.br (decide (E22.num<0)) (.lf (Sum.inr ([],{ea:=[],op:=0,l:=[],F4:=0,at_:=0,size:=0},false))) (.cn DF (.br (decide (E22.num>1024)) (.lf (Sum.inr ([],{ea:=[],op:=0,l:=[],F4:=0,at_:=0,size:=0},false))) (.cn DF (.lf (Sum.inr ([],{ea:=(46:UInt8)::nS.F3,op:=Er,l:=Sa.1,F4:=0,at_:=0,size:=E22.num},true)))))))) (.lf (Sum.inr ([],{ea:=(46:UInt8)::nS.F3,op:=Er,l:=Sa.1,F4:=0,at_:=0,size:=1},true))))));.br (decide (E8>(0:Int))) (.cn E28 (.br (!mj.Ae) (.lf (Sum.inr ([],{ea:=[],op:=0,l:=[],F4:=0,at_:=0,size:=0},false))) T7)) T7)))))) T1)) T1) T1)));.br E30 (.cn E17 (.br (decide (nS.F3=[(58:UInt8)])) (.cn E16 (.cn E16 (.br (E9.kind !=1) (.lf (Sum.inr ([],{ea:=[],op:=0,l:=[],F4:=0,at_:=0,size:=0},false))) (.an (WU E9.F3) (.lv (Z6g E9.F3) λ(x1:Bool)=>.br (!x1) (.lf (Sum.inr ([],{ea:=[],op:=0,l:=[],F4:=0,at_:=0,size:=0},false))) (.cn E19 (.br (E8==(0:Int)) (.lf (Sum.inr (E9.F3,{ea:=[],op:=0,l:=[],F4:=0,at_:=0,size:=0},true))) (.cn E28 (.cn (bX 3 3&&bN 0 3&&decide ((0:Int)<=(1:Int)/\1<=E8/\E8<=E8)) (let T2:Tree ((List UInt8×Int)⊕(((List UInt8)×kp×Bool))):=.an (NJ mj.F3) (.lv (VI mj.F3) λ(x7:List UInt8×Bool)=>.br (!x7.2) (.lf (Sum.inr ([],{ea:=[],op:=0,l:=[],F4:=0,at_:=0,size:=0},false))) (let T4:Tree ((List UInt8×Int)⊕(((List UInt8)×kp×Bool))):=let E26:=cU (dA E8-dA 1) (cV (dA 2+dA 1) x0.1);.an (NM E26 x7.1) (.lv (VJ E26 x7.1) λ(x8:List nF×Bool)=>.br (!x8.2) (.lf (Sum.inr ([],{ea:=[],op:=0,l:=[],F4:=0,at_:=0,size:=0},false))) (.an (KG mj.F3) (.lv (R9 mj.F3) λ(x9:Int)=>.br (decide (mj.F3=[(108:UInt8),105])) (.lf (Sum.inr (E9.F3,{ea:=mj.F3,op:=x9,l:=x8.1,F4:=0,at_:=0,size:=2},true))) (.br (decide (mj.F3=[(46:UInt8),115,112,97,99,101])) (let Bv:=bX 3 3&&bN 0 3&&decide ((0:Int)<=(0:Int)/\0<(x8.1.length:Int));.cn Bv (let E23:=x8.1.getD (dA 0) (RK.ed RK.ax);.br (decide (E23.num<0)) (.lf (Sum.inr ([],{ea:=[],op:=0,l:=[],F4:=0,at_:=0,size:=0},false))) (.cn Bv (.br (decide (E23.num>1024)) (.lf (Sum.inr ([],{ea:=[],op:=0,l:=[],F4:=0,at_:=0,size:=0},false))) (.cn Bv (.lf (Sum.inr (E9.F3,{ea:=mj.F3,op:=x9,l:=x8.1,F4:=0,at_:=0,size:=E23.num},true)))))))) (.lf (Sum.inr (E9.F3,{ea:=mj.F3,op:=x9,l:=x8.1,F4:=0,at_:=0,size:=1},true)))))));.br (decide ((↑(dA E8-dA 1):Int)>(0:Int))) (.cn (bX 3 3&&bN 0 3&&decide ((0:Int)<=(0:Int)/\0<(↑(dA E8-dA 1):Int))) (.br (!(x0.1.getD (dA 2+dA 1+dA 0) (RK.ed RK.av)).Ae) (.lf (Sum.inr ([],{ea:=[],op:=0,l:=[],F4:=0,at_:=0,size:=0},false))) T4)) T4));.br (decide (mj.F3=[(46:UInt8)])) (.br (decide (E8>=(2:Int))) (let E29:=bX 3 3&&bN 0 3&&decide ((0:Int)<=(1:Int)/\1<E8);.cn E29 (let nf:=x0.1.getD (dA 2+dA 1) (RK.ed RK.av);.br (!nf.Ae) (.cn E29 (.cn (decide (1+dF nf.F3<=maxLen)) (.cn (bX 3 3&&bN 0 3&&decide ((0:Int)<=(2:Int)/\2<=E8/\E8<=E8)) (.an (NJ ((46:UInt8)::nf.F3)) (.lv (VI ([(46:UInt8)]++nf.F3)) λ(x2:List UInt8×Bool)=>.br (!x2.2) (.lf (Sum.inr ([],{ea:=[],op:=0,l:=[],F4:=0,at_:=0,size:=0},false))) (let T5:Tree ((List UInt8×Int)⊕(((List UInt8)×kp×Bool))):=let E27:=cU (dA E8-dA 2) (cV (dA 2+dA 2) x0.1);.an (NM E27 x2.1) (.lv (VJ E27 x2.1) λ(x3:List nF×Bool)=>.br (!x3.2) (.lf (Sum.inr ([],{ea:=[],op:=0,l:=[],F4:=0,at_:=0,size:=0},false))) (.an (KG ((46:UInt8)::nf.F3)) (.lv (R9 ([(46:UInt8)]++nf.F3)) λ(x4:Int)=>.br (decide ([(46:UInt8)]++nf.F3=[(46:UInt8),115,112,97,99,101])) (let E18:=bX 3 3&&bN 0 3&&decide ((0:Int)<=(0:Int)/\0<(x3.1.length:Int));.cn E18 (let E24:=x3.1.getD (dA 0) (RK.ed RK.ax);.br (decide (E24.num<0)) (.lf (Sum.inr ([],{ea:=[],op:=0,l:=[],F4:=0,at_:=0,size:=0},false))) (.cn E18 (.br (decide (E24.num>1024)) (.lf (Sum.inr ([],{ea:=[],op:=0,l:=[],F4:=0,at_:=0,size:=0},false))) (.cn E18 (.lf (Sum.inr (E9.F3,{ea:=(46:UInt8)::nf.F3,op:=x4,l:=x3.1,F4:=0,at_:=0,size:=E24.num},true)))))))) (.lf (Sum.inr (E9.F3,{ea:=(46:UInt8)::nf.F3,op:=x4,l:=x3.1,F4:=0,at_:=0,size:=1},true))))));.br (decide ((↑(dA E8-dA 2):Int)>(0:Int))) (.cn (bX 3 3&&bN 0 3&&decide ((0:Int)<=(0:Int)/\0<(↑(dA E8-dA 2):Int))) (.br (!(x0.1.getD (dA 2+dA 2+dA 0) (RK.ed RK.av)).Ae) (.lf (Sum.inr ([],{ea:=[],op:=0,l:=[],F4:=0,at_:=0,size:=0},false))) T5)) T5)))))) T2)) T2) T2)))))))))) T3)) T3)))
def Z5r s:=(NO s).m
abbrev Qk9 s:=(NO s).p
def Z9h:cg:={
 α:=(List UInt8)×(Int)
 F:=λst a=>([(0,.str a.1),(2,(lk st 2)),(3,.ptr 0 0 0),(4,(lk st 4)),(5,.int i64 a.2)],[⟨true,177,6,.gen [[(cT st 3 0),(cT st 3 1),(cT st 3 2),(cT st 3 3),(cT st 3 4),(cT st 3 5)]]⟩])
 a0:=λst=>((lk st 0).toStr,(lk st 5).toInt)
 jl:=λst=>[]++[(rX st 3 0)]}
def Z3:List (Nat×cg):=[(2,Z9h)]
def Zdl:ba:=mT 176 [] false [.one (.str)] [] (λa r=>NO (jF a 0)) (λX=>.dw [.str (X.1),.agg (kp.cells (X.2.1)),.bool (X.2.2)]) (λX=>[])
theorem Z9t:bm pG Zdl:=oT (.cons Z91 (.cons Z14 (.cons Z59 (.cons Z4a (.cons Qns (.nil)))))) Tryz.func176 Tryz.call176 [.sl (.ah .ax) false] Z3 3 (ju:=nofun)
def Qnl(l:List oi)(label:List UInt8)(z:(Int)):Prop:=0<=z/\z<=l.length
def Qdx(l:List oi)(label:List UInt8)(z:(Int)):Nat:=(l.length-z).toNat
def Qg(l:List oi)(label:List UInt8):Tree (Int×Bool):=
.lp inferInstance (Qdx l label 0+1) ((nR RK.dm 2 l/\rE (label:List UInt8)/\rE (0:Int)/\True)/\True) 0 λ(v0:Int)=>.br (decide (v0<(l.length:Int))) (let E1:=bX 2 2&&bN 0 2&&decide (0<=v0/\v0<(l.length:Int));.cn E1 (let E2:=l.getD v0.toNat (RK.ed RK.dm);.br (decide (E2.Name=label)) (.cn E1 (.lf (Sum.inr (E2.Addr,true)))) (.nx ((nR RK.dm 2 l/\rE (label:List UInt8)/\rE ((wrap i64 (v0+1)):Int)/\True)/\True) (Sum.inl (wrap i64 (v0+1)))))) (.lf (Sum.inr (0,false)))
def Qra l label:=(Qg l label).m
def GO(l:List oi)(label:List UInt8):Prop:=
l.length<=1000000000000
theorem Z2r(l:List oi)(label:List UInt8)(hw:GO l label):(Qg l label).p:=by
 simp only[GO]at hw
 unfold Tree.p Qg
 repeat'(first|refine fj (inv:=Qnl l label) (μ:=Qdx l label) ?_ (cN _) (λ_ _=>?_)|exact trivial|refine ab (λ_=>?_) (λ_=>?_)|refine aw ?_ ?_|refine c8 ?_ ?_|refine aq (λ_ _=>?_)|refine ep ?_|refine bg ?_|refine And.intro ?_ ?_)
 all_goals((try simp only[Qnl,Qdx]at*);exact nQ)
def Z7o:cg:={
 α:=(Int)
 F:=λst a=>([(0,(lk st 0)),(1,(lk st 1)),(6,.int i64 a)],[])
 a0:=λst=>(lk st 6).toInt
 jl:=λst=>[]++[]}
def Qys:List (Nat×cg):=[(2,Z7o)]
def Z95:ba:=lJ 124 [] true [.one (.ah .dm),.one (.str)] [] (λa r=>GO (kD .dm a 0) (jF a 1)) (λa r=>Qra (kD .dm a 0) (jF a 1)) (λX=>.dw [.int .u32 (X.1),.bool (X.2)]) (λX=>[])
theorem Qrz:bm pG Z95:=wc drawn jB (.nil) Tryz.func124 Tryz.call124 (λa r=>Qg (kD .dm a 0) (jF a 1)) [] Qys 3 (hp:=λa r h=>Z2r (kD .dm a 0) (jF a 1) h)
def Z6a(src:List UInt8)(z:(Int)×(Int)×(List oi)×(List kp)):Nat:=((Qzn src).length-z.2.1).toNat
def NP(src:List UInt8):Tree ((List oi)×(List kp)×tB):=
.br (decide ((src.length:Int)>(8192:Int))) (.lf ([],[],{Ad:=300,nE:=0})) (.an (Qme src) (.lv (Qzn src) λ(x0:List (List UInt8))=>.lp inferInstance (Z6a src (0,0,[],[])+1) ((rZ/\True/\True/\rE (0:Int)/\True/\rE (0:Int)/\True)/\(rE (0:Int)/\rE (0:Int)/\True)/\rE (x0:List (RK.T RK.str))/\rE ([]:List (RK.T RK.dm))/\rE ([]:List (RK.T RK.ak))/\True) (0,0,[],[]) λ(v0:Int×Int×List oi×List kp)=>.br (decide (v0.2.1<(x0.length:Int))) (.cn (bX 1 1&&bN 0 1&&decide (0<=v0.2.1/\v0.2.1<(x0.length:Int))) (let E3:=x0.getD v0.2.1.toNat (RK.ed RK.str);.an (Qk9 E3) (.lv (Z5r E3) λ(x1:List UInt8×kp×Bool)=>.br (!x1.2.2) (.lf (Sum.inr ([],[],{Ad:=301,nE:=wrap i64 (v0.2.1+1)}))) (let E1:=({Ad:=305,nE:=wrap i64 (v0.2.1+1)}:tB);let E2:=decide (72*(v0.2.2.2.length+1)<=140737488355328);let E4:=decide (wrap i64 (v0.1+x1.2.1.size)>1024);.br (!decide (x1.1=[])) (.an (GO v0.2.2.1 x1.1) (.lv (Qra v0.2.2.1 x1.1) λ(x2:Int×Bool)=>.br x2.2 (.lf (Sum.inr ([],[],{Ad:=303,nE:=wrap i64 (v0.2.1+1)}))) (.cn (decide (24*(v0.2.2.1.length+1)<=140737488355328)) (let E5:=({Name:=x1.1,Addr:=wrap u32 (wrap i64 (4*v0.1))}:oi);.br (!decide (x1.2.1.ea=[])) (.cn E2 (.br E4 (.lf (Sum.inr ([],[],E1))) (.nx ((rZ/\True/\True/\rE ((wrap i64 (v0.1+x1.2.1.size)):Int)/\True/\rE ((wrap i64 (v0.2.1+1)):Int)/\True)/\(rE (0:Int)/\rE (0:Int)/\True)/\rE (x0:List (RK.T RK.str))/\rE ((v0.2.2.1++[{Name:=x1.1,Addr:=wrap u32 (wrap i64 (4*v0.1))}]):List (RK.T RK.dm))/\rE ((v0.2.2.2++[{ea:=x1.2.1.ea,op:=x1.2.1.op,l:=x1.2.1.l,F4:=wrap i64 (v0.2.1+1),at_:=v0.1,size:=x1.2.1.size}]):List (RK.T RK.ak))/\True) (Sum.inl (wrap i64 (v0.1+x1.2.1.size),wrap i64 (v0.2.1+1),v0.2.2.1++[E5],v0.2.2.2++[{ea:=x1.2.1.ea,op:=x1.2.1.op,l:=x1.2.1.l,F4:=wrap i64 (v0.2.1+1),at_:=v0.1,size:=x1.2.1.size}]))))) (.br (decide (v0.1>1024)) (.lf (Sum.inr ([],[],E1))) (.nx ((rZ/\True/\True/\rE v0.1/\True/\rE ((wrap i64 (v0.2.1+1)):Int)/\True)/\(rE (0:Int)/\rE (0:Int)/\True)/\rE (x0:List (RK.T RK.str))/\rE ((v0.2.2.1++[{Name:=x1.1,Addr:=wrap u32 (wrap i64 (4*v0.1))}]):List (RK.T RK.dm))/\rE v0.2.2.2/\True) (Sum.inl (v0.1,wrap i64 (v0.2.1+1),v0.2.2.1++[E5],v0.2.2.2)))))))) (.br (!decide (x1.2.1.ea=[])) (.cn E2 (.br E4 (.lf (Sum.inr ([],[],E1))) (.nx ((rZ/\True/\True/\rE ((wrap i64 (v0.1+x1.2.1.size)):Int)/\True/\rE ((wrap i64 (v0.2.1+1)):Int)/\True)/\(rE (0:Int)/\rE (0:Int)/\True)/\rE (x0:List (RK.T RK.str))/\rE v0.2.2.1/\rE ((v0.2.2.2++[{ea:=x1.2.1.ea,op:=x1.2.1.op,l:=x1.2.1.l,F4:=wrap i64 (v0.2.1+1),at_:=v0.1,size:=x1.2.1.size}]):List (RK.T RK.ak))/\True) (Sum.inl (wrap i64 (v0.1+x1.2.1.size),wrap i64 (v0.2.1+1),v0.2.2.1,v0.2.2.2++[{ea:=x1.2.1.ea,op:=x1.2.1.op,l:=x1.2.1.l,F4:=wrap i64 (v0.2.1+1),at_:=v0.1,size:=x1.2.1.size}]))))) (.br (decide (v0.1>1024)) (.lf (Sum.inr ([],[],E1))) (.nx ((rZ/\True/\True/\rE v0.1/\True/\rE ((wrap i64 (v0.2.1+1)):Int)/\True)/\(rE (0:Int)/\rE (0:Int)/\True)/\rE (x0:List (RK.T RK.str))/\rE v0.2.2.1/\rE v0.2.2.2/\True) (Sum.inl (v0.1,wrap i64 (v0.2.1+1),v0.2.2.1,v0.2.2.2))))))))) (.lf (Sum.inr (v0.2.2.1,v0.2.2.2,{Ad:=0,nE:=0})))))
def Z77 src:=(NP src).m
abbrev Qpa src:=(NP src).p
def Zkk:cg:={
 α:=(Int)×(Int)×(List oi)×(List kp)
 F:=λst a=>([(4,.ptr 0 0 0),(5,.all 2),(6,.all 3),(7,.int i64 a.1),(8,.all 1),(9,.int i64 a.2.1)],[⟨true,120,2,.gen [[(cT st 4 0),(cT st 4 1)]]⟩,⟨false,9,1,j7 st.rows (rN st 8)⟩,⟨false,243,2,.ah RK.dm a.2.2.1⟩,⟨false,177,6,.ah RK.ak a.2.2.2⟩])
 a0:=λst=>((lk st 7).toInt,(lk st 9).toInt,(rK RK.dm st.rows (rN st 5)),(rK RK.ak st.rows (rN st 6)))
 jl:=λst=>[]++[(rX st 4 0),(rX st 8 1),(rX st 5 2),(rX st 6 3)]}
def Zaf:List (Nat×cg):=[(8,Zkk)]
def Zlm:ba:=mT 123 [] false [.one (.str)] [] (λa r=>NP (jF a 0)) (λX=>.dw [.all 0,.all 1,.agg (tB.cells (X.2.2))]) (λX=>[⟨false,243,2,.ah .dm (X.1)⟩,⟨false,177,6,.ah .ak (X.2.1)⟩])
theorem Zhf:bm pG Zlm:=oT (.cons Zf4 (.cons Z9t (.cons Qrz (.nil)))) Tryz.func123 Tryz.call123 [.row 243 2 (.ah .dm),.row 177 6 (.ah .ak)] Zaf 3 (ju:=nofun)
def NR(st:kp)(v:Int):Tree (Int×Bool):=
.lv (oU st.op) λ(x0:Int)=>.lv (Xg x0) λ(x1:Int×Int)=>let E7:=st.l.getD (dA 0) (RK.ed RK.ax);let E8:=st.l.getD (dA 1) (RK.ed RK.ax);let E9:=bX 3 3&&bN 0 3&&decide ((0:Int)<=(0:Int)/\0<(st.l.length:Int));let mj:=bX 3 3&&bN 0 3&&decide ((0:Int)<=(1:Int)/\1<(st.l.length:Int));let nf:=st.l.getD (dA 2) (RK.ed RK.ax);let nS:=bX 3 3&&bN 0 3&&decide ((0:Int)<=(2:Int)/\2<(st.l.length:Int));.br (x0==2) (.cn E9 (.cn mj (.cn nS (let T2:Tree ((Int×Bool)):=.br (decide (0<x1.1)) (.lf (0,false)) (.br (decide (0>x1.2)) (.lf (0,false)) (.lv (oQ {Op:=st.op,A:=E7.kz,B:=E8.kz,C:=nf.kz,bw:=wrap i32 0}) λ(x2:Int×Bool)=>.lf (x2.1,x2.2)));.br (x0==2) T2 (.br (x0==1) T2 (.br (decide (v<x1.1)) (.lf (0,false)) (.br (decide (v>x1.2)) (.lf (0,false)) (.lv (oQ {Op:=st.op,A:=E7.kz,B:=E8.kz,C:=nf.kz,bw:=wrap i32 v}) λ(x4:Int×Bool)=>.lf (x4.1,x4.2))))))))) (let T1:Tree ((Int×Bool)):=.br (decide (x0>=6)) (.cn E9 (let T5:Tree ((Int×Bool)):=.br (decide (0<x1.1)) (.lf (0,false)) (.br (decide (0>x1.2)) (.lf (0,false)) (.lv (oQ {Op:=st.op,A:=E7.kz,B:=0,C:=0,bw:=wrap i32 0}) λ(x8:Int×Bool)=>.lf (x8.1,x8.2)));.br (x0==2) T5 (.br (x0==1) T5 (.br (decide (v<x1.1)) (.lf (0,false)) (.br (decide (v>x1.2)) (.lf (0,false)) (.lv (oQ {Op:=st.op,A:=E7.kz,B:=0,C:=0,bw:=wrap i32 v}) λ(jy:Int×Bool)=>.lf (jy.1,jy.2))))))) (.br (x0 !=1) (.cn E9 (.cn mj (let T3:Tree ((Int×Bool)):=.br (decide (0<x1.1)) (.lf (0,false)) (.br (decide (0>x1.2)) (.lf (0,false)) (.lv (oQ {Op:=st.op,A:=E7.kz,B:=E8.kz,C:=0,bw:=wrap i32 0}) λ(kI:Int×Bool)=>.lf (kI.1,kI.2)));.br (x0==2) T3 (.br (x0==1) T3 (.br (decide (v<x1.1)) (.lf (0,false)) (.br (decide (v>x1.2)) (.lf (0,false)) (.lv (oQ {Op:=st.op,A:=E7.kz,B:=E8.kz,C:=0,bw:=wrap i32 v}) λ(AO:Int×Bool)=>.lf (AO.1,AO.2)))))))) (let T6:Tree ((Int×Bool)):=.br (decide (0<x1.1)) (.lf (0,false)) (.br (decide (0>x1.2)) (.lf (0,false)) (.lv (oQ {Op:=st.op,A:=0,B:=0,C:=0,bw:=wrap i32 0}) λ(Ge:Int×Bool)=>.lf (Ge.1,Ge.2)));.br (x0==2) T6 (.br (x0==1) T6 (.br (decide (v<x1.1)) (.lf (0,false)) (.br (decide (v>x1.2)) (.lf (0,false)) (.lv (oQ {Op:=st.op,A:=0,B:=0,C:=0,bw:=wrap i32 v}) λ(Gf:Int×Bool)=>.lf (Gf.1,Gf.2)))))));.br (decide (st.op>=32)) (.br (decide (st.op<=36)) (.cn E9 (.cn nS (.cn mj (let T4:Tree ((Int×Bool)):=.br (decide (0<x1.1)) (.lf (0,false)) (.br (decide (0>x1.2)) (.lf (0,false)) (.lv (oQ {Op:=st.op,A:=E7.kz,B:=nf.kz,C:=0,bw:=wrap i32 0}) λ(x5:Int×Bool)=>.lf (x5.1,x5.2)));.br (x0==2) T4 (.br (x0==1) T4 (.br (decide (E8.num<x1.1)) (.lf (0,false)) (.br (decide (E8.num>x1.2)) (.lf (0,false)) (.lv (oQ {Op:=st.op,A:=E7.kz,B:=nf.kz,C:=0,bw:=wrap i32 E8.num}) λ(x7:Int×Bool)=>.lf (x7.1,x7.2))))))))) T1) T1)
def VK st v:=(NR st v).m
abbrev NQ st v:=(NR st v).p
def Zmt:ba:=mT 126 [] true [.agg kp.sig,.one (.int .i64)] [] (λa r=>NR (kp.of (aC a 0)) (au a 1)) (λX=>.dw [.int .u32 (X.1),.bool (X.2)]) (λX=>[])
theorem Zjc:bm pG Zmt:=oT (.cons R6 (.cons Quw (.cons Qmb (.nil)))) Tryz.func126 Tryz.call126 [] [] 2

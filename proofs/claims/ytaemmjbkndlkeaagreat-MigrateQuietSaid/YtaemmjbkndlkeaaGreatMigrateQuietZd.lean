import Derived.Test.YtaemmjbkndlkeaaGreatMigrateQuietYz
open UInt8 renaming toNat->hY,ofNat->eD
open List renaming take->cU,drop->cV,length->dF,getD->aV
open Int renaming toNat->dA,tdiv->eF
open Nat renaming lt_succ_self->cN,beq->bX,blt->bN
set_option maxRecDepth 100000
set_option linter.all false
namespace Go.Proofs.YtaemmjbkndlkeaaGreat
open Go Go.GD Go.IntKind
noncomputable section
instance RE {α β:Type} [Inhabited β]:Inhabited (α⊕β):=⟨.inr default⟩
def Z2o(src:List UInt8)(z:(Int)×(Int)×(List (List UInt8))):Nat:=(src.length-z.2.1).toNat
def Nf(src:List UInt8):Tree (List (List UInt8)):=
.lp inferInstance (Z2o src (0,0,[])+1) ((rE (src:List UInt8)/\True/\rE (0:Int)/\rE (0:Int)/\True)/\rE ([]:List (RK.T RK.str))/\True) (0,0,[]) λ(v0:Int×Int×List (List UInt8))=>let E1:=decide (16*(v0.2.2.length+1)<=140737488355328);.br (decide (v0.2.1<(src.length:Int))) (.cn (decide (0<=v0.2.1/\v0.2.1<(src.length:Int))) (.br ((↑(hY (src.getD v0.2.1.toNat (0:UInt8))):Int)==(10:Int)) (.cn (decide (0<=v0.1/\v0.1<=v0.2.1/\v0.2.1<=(src.length:Int))) (.cn E1 (.nx ((rE (src:List UInt8)/\True/\rE ((wrap i64 (v0.2.1+1)):Int)/\rE ((wrap i64 (v0.2.1+1)):Int)/\True)/\rE ((v0.2.2++[cU (dA v0.2.1-dA v0.1) (cV v0.1.toNat src)]):List (RK.T RK.str))/\True) (Sum.inl (wrap i64 (v0.2.1+1),wrap i64 (v0.2.1+1),v0.2.2++[cU (dA v0.2.1-dA v0.1) (cV v0.1.toNat src)]))))) (.nx ((rE (src:List UInt8)/\True/\rE v0.1/\rE ((wrap i64 (v0.2.1+1)):Int)/\True)/\rE v0.2.2/\True) (Sum.inl (v0.1,wrap i64 (v0.2.1+1),v0.2.2))))) (.br (decide (v0.1<(src.length:Int))) (.cn (decide (0<=v0.1/\v0.1<=(src.length:Int)/\(src.length:Int)<=(src.length:Int))) (.cn E1 (.lf (Sum.inr (v0.2.2++[cU (dA (src.length:Int)-dA v0.1) (cV v0.1.toNat src)]))))) (.lf (Sum.inr v0.2.2)))
def Qz1 src:=(Nf src).m
abbrev Qme src:=(Nf src).p
def Zd7:cg:={
 α:=(Int)×(Int)×(List (List UInt8))
 F:=λst a=>([(0,(lk st 0)),(3,.all 0),(4,.int i64 a.1),(5,.int i64 a.2.1)],[⟨false,9,1,.ah RK.str a.2.2⟩])
 a0:=λst=>((lk st 4).toInt,(lk st 5).toInt,(pJ RK.str st.rows (rN st 3)))
 jk:=λst=>[]++[(rX st 3 0)]}
def Z5c:List (Nat×cg):=[(4,Zd7)]
def Zjd:ba:=mT 175 [] true [.one (.str)] [] (λa r=>Nf (jE a 0)) (λX=>.all 0) (λX=>[⟨false,9,1,.ah .str X⟩])
theorem Ze8:bj pG Zjd:=oT (.nil) Tryz.func175 Tryz.call175 [.row 9 1 (.ah .str)] Z5c 3
def Qyf(c:Int):Tree Bool:=
.br (decide (c>=97)) (.lf (decide (c<=122))) (.lf false)
def Vg c:=(Qyf c).m
def Zes:ba:=mS 261 [] true [.one (.int .u8)] [] (λa r=>Qyf (au a 0)) (λX=>.bool X) (λX=>[])
theorem Quc:bj pG Zes:=oS (.nil) Tryz.func261 Tryz.call261 [] [] 2
def Z28(c:Int):Tree Bool:=
.br (decide (c>=48)) (.lf (decide (c<=57))) (.lf false)
def Mp c:=(Z28 c).m
def Zkr:ba:=mS 262 [] true [.one (.int .u8)] [] (λa r=>Z28 (au a 0)) (λX=>.bool X) (λX=>[])
theorem Qy1:bj pG Zkr:=oS (.nil) Tryz.func262 Tryz.call262 [] [] 2
def Z0w(s:List UInt8)(z:(Bool)×(Int)×(List kZ)):Nat:=(s.length-z.2.1).toNat
def Z0(s:List UInt8)(v0:Bool×Int×List kZ)(z:(Int)):Nat:=(s.length-z).toNat
def Z0y(s:List UInt8)(v0:Bool×Int×List kZ)(z:(Int)):Nat:=(s.length-z).toNat
def Ng(s:List UInt8):Tree ((List kZ)×Bool):=
.lp inferInstance (Z0w s (true,0,[])+1) ((rE (s:List UInt8)/\True/\rE (true:Bool)/\rE (0:Int)/\True)/\rE ([]:List (RK.T RK.av))/\True) (true,0,[]) λ(v0:Bool×Int×List kZ)=>.br (decide (v0.2.1<(s.length:Int))) (.cn (decide (0<=v0.2.1/\v0.2.1<(s.length:Int))) (let E7:=(↑(hY (s.getD v0.2.1.toNat (0:UInt8))):Int);.br (E7==(32:Int)) (.nx ((rE (s:List UInt8)/\True/\rE (true:Bool)/\rE ((wrap i64 (v0.2.1+1)):Int)/\True)/\rE v0.2.2/\True) (Sum.inl (true,wrap i64 (v0.2.1+1),v0.2.2))) (.lv (Vg E7) λ(x0:Bool)=>let mX:=decide (32*(v0.2.2.length+1)<=140737488355328);let Bk:=cV v0.2.1.toNat s;.br x0 (.lp inferInstance (Z0 s v0 v0.2.1+1) ((rE (s:List UInt8)/\True/\rE v0.1/\rE v0.2.1/\rE v0.2.1/\True)/\rE v0.2.2/\True) v0.2.1 λ(v1:Int)=>let T3:Tree ((Int)⊕((Bool×Int×List kZ)⊕(((List kZ)×Bool)))):=.cn (decide (0<=v0.2.1/\v0.2.1<=v1/\v1<=(s.length:Int))) (.cn mX (.nx ((rE (s:List UInt8)/\True/\rE (false:Bool)/\rE (v1:Int)/\True)/\rE ((v0.2.2++[{kind:=1,F2:=cU (dA v1-dA v0.2.1) (cV v0.2.1.toNat s),wZ:=v0.1}]):List (RK.T RK.av))/\True) (Sum.inr (Sum.inl (false,v1,v0.2.2++[{kind:=1,F2:=cU (dA v1-dA v0.2.1) Bk,wZ:=v0.1}])))));.br (decide (v1<(s.length:Int))) (let nS:=decide (0<=v1/\v1<(s.length:Int));.cn nS (let E8:=(↑(hY (s.getD v1.toNat (0:UInt8))):Int);.lv (Vg E8) λ(x1:Bool)=>let T5:Tree ((Int)⊕((Bool×Int×List kZ)⊕(((List kZ)×Bool)))):=.nx ((rE (s:List UInt8)/\True/\rE v0.1/\rE ((wrap i64 (v1+1)):Int)/\rE v0.2.1/\True)/\rE v0.2.2/\True) (Sum.inl (wrap i64 (v1+1)));.br x1 T5 (.cn nS (.lv (Mp E8) λ(x2:Bool)=>.br x2 T5 (.cn nS (.br (E8==(95:Int)) T5 T3)))))) T3) (.lv (Mp E7) λ(x3:Bool)=>let T2:Tree ((Bool×Int×List kZ)⊕(((List kZ)×Bool))):=.lp inferInstance (Z0y s v0 (wrap i64 (v0.2.1+1))+1) ((rE (s:List UInt8)/\True/\rE v0.1/\rE ((wrap i64 (v0.2.1+1)):Int)/\rE v0.2.1/\True)/\rE v0.2.2/\True) (wrap i64 (v0.2.1+1)) λ(v1:Int)=>let T4:Tree ((Int)⊕((Bool×Int×List kZ)⊕(((List kZ)×Bool)))):=.cn (decide (0<=v0.2.1/\v0.2.1<=v1/\v1<=(s.length:Int))) (.cn mX (.nx ((rE (s:List UInt8)/\True/\rE (false:Bool)/\rE (v1:Int)/\True)/\rE ((v0.2.2++[{kind:=2,F2:=cU (dA v1-dA v0.2.1) (cV v0.2.1.toNat s),wZ:=v0.1}]):List (RK.T RK.av))/\True) (Sum.inr (Sum.inl (false,v1,v0.2.2++[{kind:=2,F2:=cU (dA v1-dA v0.2.1) Bk,wZ:=v0.1}])))));.br (decide (v1<(s.length:Int))) (let oP:=decide (0<=v1/\v1<(s.length:Int));.cn oP (let E9:=(↑(hY (s.getD v1.toNat (0:UInt8))):Int);.lv (Vg E9) λ(x4:Bool)=>let T6:Tree ((Int)⊕((Bool×Int×List kZ)⊕(((List kZ)×Bool)))):=.nx ((rE (s:List UInt8)/\True/\rE v0.1/\rE ((wrap i64 (v1+1)):Int)/\rE v0.2.1/\True)/\rE v0.2.2/\True) (Sum.inl (wrap i64 (v1+1)));.br x4 T6 (.cn oP (.lv (Mp E9) λ(x5:Bool)=>.br x5 T6 (.cn oP (.br (E9==(95:Int)) T6 T4)))))) T4;.br x3 T2 (.br (E7==(45:Int)) T2 (let T1:Tree ((Bool×Int×List kZ)⊕(((List kZ)×Bool))):=.cn (decide (0<=v0.2.1/\v0.2.1<=wrap i64 (v0.2.1+1)/\wrap i64 (v0.2.1+1)<=(s.length:Int))) (.cn mX (.nx ((rE (s:List UInt8)/\True/\rE (false:Bool)/\rE ((wrap i64 (v0.2.1+1)):Int)/\True)/\rE ((v0.2.2++[{kind:=3,F2:=cU (dA (wrap i64 (v0.2.1+1))-dA v0.2.1) (cV v0.2.1.toNat s),wZ:=v0.1}]):List (RK.T RK.av))/\True) (Sum.inl (false,wrap i64 (v0.2.1+1),v0.2.2++[{kind:=3,F2:=cU (dA (wrap i64 (v0.2.1+1))-dA v0.2.1) Bk,wZ:=v0.1}]))));.br (E7==(44:Int)) T1 (.br (E7==(58:Int)) T1 (.br (E7==(40:Int)) T1 (.br (E7==(41:Int)) T1 (.br (E7==(46:Int)) T1 (.lf (Sum.inr ([],false))))))))))))) (.lf (Sum.inr (v0.2.2,true)))
def Z51 s:=(Ng s).m
abbrev Qjb s:=(Ng s).p
def Zah:cg:={
 α:=(Bool)×(Int)×(List kZ)
 F:=λst a=>([(0,(lk st 0)),(4,.all 0),(5,.bool a.1),(6,.int i64 a.2.1)],[⟨false,290,3,.ah RK.av a.2.2⟩])
 a0:=λst=>((lk st 5).toBool,(lk st 6).toInt,(pJ RK.av st.rows (rN st 4)))
 jk:=λst=>[]++[(rX st 4 0)]}
def Z9v:cg:={
 α:=(Int)
 F:=λst a=>([(0,(lk st 0)),(4,.all 0),(5,(lk st 5)),(6,.int i64 a),(8,(lk st 8))],[⟨false,290,3,kJ st.rows (rN st 4)⟩])
 a0:=λst=>(lk st 6).toInt
 jk:=λst=>[]++[(rX st 4 0)]}
def Z9w:cg:={
 α:=(Int)
 F:=λst a=>([(0,(lk st 0)),(4,.all 0),(5,(lk st 5)),(6,.int i64 a),(8,(lk st 8))],[⟨false,290,3,kJ st.rows (rN st 4)⟩])
 a0:=λst=>(lk st 6).toInt
 jk:=λst=>[]++[(rX st 4 0)]}
def Z3d:List (Nat×cg):=[(4,Zah),(12,Z9v),(17,Z9w)]
def Ze0:ba:=mT 228 [] true [.one (.str)] [] (λa r=>Ng (jE a 0)) (λX=>.dw [.all 0,.bool (X.2)]) (λX=>[⟨false,290,3,.ah .av (X.1)⟩])
theorem Za5:bj pG Ze0:=oT (.cons Quc (.cons Qy1 (.nil))) Tryz.func228 Tryz.call228 [.row 290 3 (.ah .av)] Z3d 3
 def RG (p:Int->Prop) (r:Int->List UInt8) (n:Int):Tree (List UInt8):=
 .br (decide (n<(10:Int))) (.lf ([(λ(n:Int)=>eD n.toNat) (wrap u8 (wrap u64 ((48:Int)+n)))])) (.an (p (wrap u64 (eF n (10:Int)))) (.lv (r (wrap u64 (eF n (10:Int)))) λ(x0:List UInt8)=>.cn (decide (x0.length+dF [(λ(n:Int)=>eD n.toNat) (wrap u8 (wrap u64 ((48:Int)+Int.tmod n (10:Int))))]<=maxLen)) (.lf (x0++[(λ(n:Int)=>eD n.toNat) (wrap u8 (wrap u64 ((48:Int)+Int.tmod n (10:Int))))]))))
 def AH:Nat->Int->List UInt8
  |0,_=>[]
  |k+1,n=>(RG (λ_=>True) (AH k) n).m
 def JR (k:Nat) (n:Int):Prop:=0<=n/\n<10^k/\n<18446744073709551616/\0<k/\k<=30
 def Jad (k:Nat):ba:=ly 301 [] true [.one (.int .u64)] [] (λargs rows=>JR k (au args 0)) (λargs rows=>AH k (au args 0)) (λX=>.str X) (λX=>[])
 theorem oC:∀k n,(AH k n).length<=k
  |0,_=>Nat.le_refl _
  |k+1,n=>by
   show(bif decide (n<10)then _ else ee (AH k _) λx0=>x0++_).length<=k+1
   have:=oC k (wrap u64 (eF n 10))
   cases decide (n<10)
   ·simp[ee,Tree.m];omega
   ·simp[Tree.m]
 theorem wT:∀k,bj pG (Jad k)
  |0=>Fz Tryz.call301 (λargs rows h=>absurd h.2.2.2.1 (Nat.lt_irrefl 0)) (λ_ X=>by kernel_rfl)
  |k + 1=>by
   refine uV drawn jA (.cons (wT k) .nil) Tryz.func301 Tryz.call301 (λargs rows=>RG (JR k) (AH k) (au args 0)) [] [] 2 (λ_ _ _=>by kernel_rfl) (λ_ _=>rfl) (λargs rows h=>?_) (λ_ X=>by kernel_rfl)
   obtain⟨h0,h1,h2,h3,h4⟩:=h
   generalize au args 0=n at*
   refine ae (λ_=>trivial) (λhn=>?_)
   have hn:=oN hn
   have e:wrap u64 (eF n 10)=n/10:=by rw[wrap_u64,Int.tdiv_eq_ediv_of_nonneg h0];omega
   refine c7 (show JR k _ from ?_) (aq λx hx=>ax (dY ?_) trivial)
   ·rw[e]
    rw[Int.pow_succ]at h1
    have hk:0<k:=by
     rcases Nat.eq_zero_or_pos k with rfl|h
     ·simp at h1;omega
     ·exact h
    exact⟨by omega,by omega,by omega,hk,by omega⟩
   ·have:=oC k (wrap u64 (eF n 10))
    rw[<-hx]at this
    simp[maxLen];omega
def Mq(n:Int):(List UInt8):=
AH 20 n
def Ep(n:Int):Prop:=
0<=n/\n<18446744073709551616
def Qps(n:Int):List D:=[.int .u64 n]
def Qpt(n:Int):List Row:=[]
def Qja(X:List UInt8):D:=.str X
def Qjt(X:List UInt8):List Row:=[]
def Qrt:List PT:=[.one (.int .u64)]
def Qpw:List RT:=[]
def Z7d(args:List D)(rows:List Row):(List UInt8):=Mq (au args 0)
def Z5q(args:List D)(rows:List Row):Prop:=Ep (au args 0)
def Zgs:ba:=ly 301 [] true Qrt Qpw Z5q Z7d Qja Qjt
theorem Z0d(n:Int)(hw:Ep n):ko pG 301 (Qps n) (Qpt n) (Qja (Mq n)) (Qjt (Mq n)):=by
 have h20:(18446744073709551616:Int)<=10^20:=by decide
 exact zB (args:=[.int .u64 n]) (rows:=[]) (wT 20) (by kernel_rfl) ⟨hw.1,Int.lt_of_lt_of_le hw.2 h20,hw.2,by decide,by decide⟩
set_option maxRecDepth 100000 in
theorem Z2y(args:List D)(rows:List Row):kW Qrt args 0=Qps (au args 0):=by kernel_rfl
set_option maxRecDepth 100000 in
theorem Z10(args:List D)(rows:List Row):kp Qpw rows 0=Qpt (au args 0):=by kernel_rfl
set_option maxRecDepth 100000 in
theorem Z8r(X:List UInt8):(tj (Qja X)&&jx (Qjt X))=true:=by kernel_rfl
theorem Zag:bj pG Zgs:=Fz Tryz.call301 (λargs rows hp=>by rw[Z2y args rows,Z10 args rows];exact Z0d (au args 0) hp) (λ_ X=>Z8r X)
def Ig(n:Int):Tree (List UInt8):=
.br (decide (n<0)) (let E1:=wrap u64 (wrap u64 (wrap i64 (0-wrap i64 (n+1)))+1);.an (Ep E1) (.lv (Mq E1) λ(x0:List UInt8)=>.cn (decide (1+x0.length<=maxLen)) (.lf ((45:UInt8)::x0)))) (.an (Ep (wrap u64 n)) (.lv (Mq (wrap u64 n)) λ(x1:List UInt8)=>.lf x1))
def Qsh n:=(Ig n).m
abbrev Qhc n:=(Ig n).p
def Z9f:ba:=mT 298 [] true [.one (.int .i64)] [] (λa r=>Ig (au a 0)) (λX=>.str X) (λX=>[])
theorem Z53:bj pG Z9f:=oT (.cons Zag (.nil)) Tryz.func298 Tryz.call298 [] [] 2
def Ih(r:Int):Tree (List UInt8):=
.an (Qhc r) (.lv (Qsh r) λ(x0:List UInt8)=>.cn (decide (1+x0.length<=maxLen)) (.lf ((114:UInt8)::x0)))
def Zpe r:=(Ih r).m
abbrev Qqw r:=(Ih r).p
def Zs7:ba:=mT 288 [] true [.one (.int .i64)] [] (λa r=>Ih (au a 0)) (λX=>.str X) (λX=>[])
theorem Znm:bj pG Zs7:=oT (.cons Z53 (.nil)) Tryz.func288 Tryz.call288 [] [] 2
def Qtv(s:List UInt8)(z:(Int)):Prop:=0<=z/\z<=16
def Qgo(s:List UInt8)(z:(Int)):Nat:=(16-z).toNat
def Vh(s:List UInt8):Tree (Int×Bool):=
.lp inferInstance (Qgo s 0+1) ((rE (s:List UInt8)/\rE (0:Int)/\True)/\True) 0 λ(v0:Int)=>.br (decide (v0<16)) (.an (Qqw v0) (.lv (Zpe v0) λ(x0:List UInt8)=>.br (decide (s=x0)) (.lf (Sum.inr (v0,true))) (.nx ((rE (s:List UInt8)/\rE ((wrap i64 (v0+1)):Int)/\True)/\True) (Sum.inl (wrap i64 (v0+1)))))) (.lf (Sum.inr (0,false)))
def Qjl s:=(Vh s).m
theorem Qvy(s:List UInt8):(Vh s).p:=by
 unfold Tree.p Vh
 have dp:∀x,Ep (wrap .u64 x):=λx=>by unfold Ep;rw[wrap_u64];omega
 have dl:∀x,(Mq x).length<=20:=λx=>oC 20 x
 have hd:∀x,(Ig x).w (λr=>r.length<=21):=λx=>by
  unfold Ig
  refine ae (λ_=>c7 (dp _) (aq λx0 h0=>ax (dY ?_) ?_)) (λ_=>c7 (dp _) (aq λx1 h1=>?_))
  ·have:=dl (wrap .u64 (wrap .u64 (wrap .i64 (0-wrap .i64 (x+1)))+1));rw[<-h0]at this;simp[maxLen];omega
  ·have:=dl (wrap .u64 (wrap .u64 (wrap .i64 (0-wrap .i64 (x+1)))+1));rw[<-h0]at this;show(_::x0).length<=21;simp;omega
  ·rw[h1];exact Nat.le_trans (dl _) (by decide)
 have hr:∀x,(Ih x).p:=λx=>by
  unfold Tree.p Ih
  refine c7 (Tree.pp (hd x)).1 (aq λx0 h0=>ax (dY ?_) trivial)
  have:(Qsh x).length<=21:=(Tree.pp (hd x)).2
  rw[<-h0]at this;simp[maxLen];omega
 refine fk (inv:=Qtv s) (μ:=Qgo s) ⟨by decide,by decide⟩ (cN _) (λz hz=>?_)
 obtain⟨z1,z2⟩:=hz
 refine ae (λhb=>c7 (hr _) (aq λx0 _=>ae (λ_=>trivial) (λ_=>ez ?_))) (λ_=>trivial)
 have hb:=oY hb
 show(0<=i64.wrap (z+1)/\i64.wrap (z+1)<=16)/\(16-i64.wrap (z+1)).toNat<(16-z).toNat
 rw[wrap_i64];omega
def Qx0:cg:={
 α:=(Int)
 F:=λst a=>([(0,(lk st 0)),(4,.int i64 a)],[])
 a0:=λst=>(lk st 4).toInt
 jk:=λst=>[]++[]}
def Qu2:List (Nat×cg):=[(2,Qx0)]
def Qz3:ba:=mS 263 [] true [.one (.str)] [] (λa r=>Vh (jE a 0)) (λX=>.dw [.int .i64 (X.1),.bool (X.2)]) (λX=>[])
theorem Qlf:bj pG Qz3:=oS (.cons Znm (.nil)) Tryz.func263 Tryz.call263 [] Qu2 3 (λ_ _ _=>by kernel_rfl) (λa r=>Qvy (jE a 0)) (λ_ X=>by kernel_rfl)
def Nh(s:List UInt8):Tree Bool:=
.lv (Qjl s) λ(x0:Int×Bool)=>.br (decide ((s.length:Int)>=(1:Int))) (.br (decide ((s.length:Int)<=(12:Int))) (.cn (decide ((0:Int)<=(0:Int)/\0<(s.length:Int))) (.lv (Vg (↑(hY (s.getD (dA 0) (0:UInt8))):Int)) λ(x1:Bool)=>.br x1 (.lf (!x0.2)) (.lf false))) (.lf false)) (.lf false)
def Z7l s:=(Nh s).m
abbrev Wy s:=(Nh s).p
def Zmq:ba:=mT 229 [] true [.one (.str)] [] (λa r=>Nh (jE a 0)) (λX=>.bool X) (λX=>[])
theorem Z2b:bj pG Zmq:=oT (.cons Qlf (.cons Quc (.nil))) Tryz.func229 Tryz.call229 [] [] 2
def Ni(op:Int):Tree (List UInt8):=
let T1:Tree ((List UInt8)):=let T3:Tree ((List UInt8)):=.br (op==48) (.lf ([(106:UInt8),97,108])) (.br (op==49) (.lf ([(106:UInt8),97,108,114])) (.br (decide (op>=56)) (.br (decide (op<=64)) (.cn (bX 1 1&&bN 0 1&&decide (0<=wrap i64 (op-56)/\wrap i64 (op-56)<(↑9:Int))) (.lf (aV [[(101:UInt8),99,97,108,108],[(101:UInt8),114,101,116],[(99:UInt8),115,114,114],[(99:UInt8),115,114,119],[(105:UInt8),110],[(111:UInt8),117,116],[(119:UInt8),102,105],[(102:UInt8),108,117,115,104],[(104:UInt8),97,108,116]] (dA (wrap i64 (op-56))) (RK.eh RK.str)))) (.lf ([]))) (.lf ([]))));.br (decide (op>=40)) (.br (decide (op<=45)) (.cn (bX 1 1&&bN 0 1&&decide (0<=wrap i64 (op-40)/\wrap i64 (op-40)<(↑6:Int))) (.lf (aV [[(98:UInt8),101,113],[(98:UInt8),110,101],[(98:UInt8),108,116],[(98:UInt8),103,101],[(98:UInt8),108,116,117],[(98:UInt8),103,101,117]] (dA (wrap i64 (op-40))) (RK.eh RK.str)))) T3) T3;let T2:Tree ((List UInt8)):=let T4:Tree ((List UInt8)):=.br (decide (op>=32)) (.br (decide (op<=36)) (.cn (bX 1 1&&bN 0 1&&decide (0<=wrap i64 (op-32)/\wrap i64 (op-32)<(↑5:Int))) (.lf (aV [[(108:UInt8),119],[(108:UInt8),98],[(108:UInt8),98,117],[(115:UInt8),119],[(115:UInt8),98]] (dA (wrap i64 (op-32))) (RK.eh RK.str)))) T1) T1;.br (decide (op>=16)) (.br (decide (op<=24)) (.cn (bX 1 1&&bN 0 1&&decide (0<=wrap i64 (op-16)/\wrap i64 (op-16)<(↑9:Int))) (.lf (aV [[(97:UInt8),100,100,105],[(97:UInt8),110,100,105],[(111:UInt8),114,105],[(120:UInt8),111,114,105],[(115:UInt8),104,108,105],[(115:UInt8),104,114,105],[(115:UInt8),97,114,105],[(115:UInt8),108,116,105],[(108:UInt8),117,105]] (dA (wrap i64 (op-16))) (RK.eh RK.str)))) T4) T4;.br (decide (op>=1)) (.br (decide (op<=13)) (.cn (bX 1 1&&bN 0 1&&decide (0<=wrap i64 (op-1)/\wrap i64 (op-1)<(↑13:Int))) (.lf (aV [[(97:UInt8),100,100],[(115:UInt8),117,98],[(97:UInt8),110,100],[(111:UInt8),114],[(120:UInt8),111,114],[(115:UInt8),104,108],[(115:UInt8),104,114],[(115:UInt8),97,114],[(109:UInt8),117,108],[(100:UInt8),105,118],[(114:UInt8),101,109],[(115:UInt8),108,116],[(115:UInt8),108,116,117]] (dA (wrap i64 (op-1))) (RK.eh RK.str)))) T2) T2
def Qwy op:=(Ni op).m
abbrev Qew op:=(Ni op).p
def Z8q:ba:=mT 265 [] true [.one (.int .i64)] [] (λa r=>Ni (au a 0)) (λX=>.str X) (λX=>[])
theorem Z2g:bj pG Z8q:=oT (.nil) Tryz.func265 Tryz.call265 [] [] 2
def Qtx(s:List UInt8)(z:(Int)):Nat:=(65-z).toNat
def Nj(s:List UInt8):Tree Int:=
.lp inferInstance (Qtx s 1+1) ((rE (s:List UInt8)/\rE (1:Int)/\True)/\True) 1 λ(v0:Int)=>.br (decide (v0<=64)) (.lv (oK v0) λ(x0:Int)=>.br (decide (x0>0)) (.an (Qew v0) (.lv (Qwy v0) λ(x1:List UInt8)=>.br (decide (x1=s)) (.lf (Sum.inr v0)) (.nx ((rE (s:List UInt8)/\rE ((wrap i64 (v0+1)):Int)/\True)/\True) (Sum.inl (wrap i64 (v0+1)))))) (.nx ((rE (s:List UInt8)/\rE ((wrap i64 (v0+1)):Int)/\True)/\True) (Sum.inl (wrap i64 (v0+1))))) (.lf (Sum.inr 0))
def RH s:=(Nj s).m
abbrev Kk s:=(Nj s).p
def Z0o:cg:={
 α:=(Int)
 F:=λst a=>([(0,(lk st 0)),(3,.int i64 a)],[])
 a0:=λst=>(lk st 3).toInt
 jk:=λst=>[]++[]}
def Qvm:List (Nat×cg):=[(2,Z0o)]
def Z2x:ba:=mT 232 [] true [.one (.str)] [] (λa r=>Nj (jE a 0)) (λX=>.int .i64 X) (λX=>[])
theorem Qmx:bj pG Z2x:=oT (.cons RD (.cons Z2g (.nil))) Tryz.func232 Tryz.call232 [] Qvm 3
def Nl(ea:List UInt8):Tree ((List UInt8)×Bool):=
.an (Kk ea) (.lv (RH ea) λ(x0:Int)=>.br (decide (ea=[(46:UInt8),119,111,114,100])) (.lf ([(120:UInt8)],true)) (.br (decide (ea=[(46:UInt8),115,112,97,99,101])) (.lf ([(110:UInt8)],true)) (.br (decide (ea=[(108:UInt8),105])) (.lf ([(114:UInt8),44,120],true)) (.br (decide (ea=[(109:UInt8),118])) (.lf ([(114:UInt8),44,114],true)) (.br (decide (ea=[(110:UInt8),111,112])) (.lf ([],true)) (.br (x0==0) (.lf ([],false)) (let T1:Tree (((List UInt8)×Bool)):=.br (x0==48) (.lf ([(114:UInt8),44,120],true)) (.lv (oK x0) λ(x1:Int)=>.br (x1==1) (.lf ([],true)) (.br (x1==2) (.lf ([(114:UInt8),44,114,44,114],true)) (.br (decide (x1>=6)) (.lf ([(114:UInt8),44,110],true)) (.lf ([(114:UInt8),44,114,44,110],true)))));let T2:Tree (((List UInt8)×Bool)):=.br (decide (x0>=40)) (.br (decide (x0<=45)) (.lf ([(114:UInt8),44,114,44,120],true)) T1) T1;.br (decide (x0>=32)) (.br (decide (x0<=36)) (.lf ([(114:UInt8),44,110,40,114,41],true)) T2) T2)))))))
def Vi ea:=(Nl ea).m
abbrev Nk ea:=(Nl ea).p
def Z9c:ba:=mT 230 [] true [.one (.str)] [] (λa r=>Nl (jE a 0)) (λX=>.dw [.str (X.1),.bool (X.2)]) (λX=>[])
theorem Z4z:bj pG Z9c:=oT (.cons Qmx (.cons RD (.nil))) Tryz.func230 Tryz.call230 [] [] 2
def Z0q(s:List UInt8)(z:(Int)×(Int)):Nat:=(s.length-z.2).toNat
def Qnw(s:List UInt8)(z:(Int)×(Int)):Nat:=(s.length-z.2).toNat
def Nn(s:List UInt8):Tree (Int×Bool):=
let E7:=decide ((0:Int)<=(0:Int)/\0<(s.length:Int));let E8:=(↑(hY (s.getD (dA 0) (0:UInt8))):Int);let T1:Tree ((Int×Bool)):=let T2:Tree ((Int×Bool)):=.br (decide (wrap i64 ((s.length:Int)-(0:Int))<1)) (.lf (0,false)) (.br (decide (wrap i64 ((s.length:Int)-(0:Int))>10)) (.lf (0,false)) (.lp inferInstance (Qnw s (0,0)+1) ((rE (s:List UInt8)/\rE (0:Int)/\rE (0:Int)/\rE (0:Int)/\True)/\True) (0,0) λ(v0:Int×Int)=>.br (decide (v0.2<(s.length:Int))) (let E9:=decide (0<=v0.2/\v0.2<(s.length:Int));.cn E9 (let E5:=(↑(hY (s.getD v0.2.toNat (0:UInt8))):Int);.lv (Mp E5) λ(x2:Bool)=>.br (!x2) (.lf (Sum.inr (0,false))) (.cn E9 (.nx ((rE (s:List UInt8)/\rE (0:Int)/\rE ((wrap i64 (wrap i64 (10*v0.1)+wrap i64 (wrap u8 ((↑(hY (s.getD v0.2.toNat (0:UInt8))):Int)-(48:Int))))):Int)/\rE ((wrap i64 (v0.2+1)):Int)/\True)/\True) (Sum.inl (wrap i64 (wrap i64 (10*v0.1)+wrap i64 (wrap u8 (E5-(48:Int)))),wrap i64 (v0.2+1))))))) (.br (decide (v0.1>=(-2147483648))) (.lf (Sum.inr (v0.1,decide (v0.1<=4294967295)))) (.lf (Sum.inr (v0.1,false))))));.br (decide ((s.length:Int)>(0:Int))) (.cn E7 (.br (E8==(45:Int)) (.br (decide (wrap i64 ((s.length:Int)-(1:Int))<1)) (.lf (0,false)) (.br (decide (wrap i64 ((s.length:Int)-(1:Int))>10)) (.lf (0,false)) (.lp inferInstance (Qnw s (0,1)+1) ((rE (s:List UInt8)/\rE (1:Int)/\rE (0:Int)/\rE (1:Int)/\True)/\True) (0,1) λ(v0:Int×Int)=>.br (decide (v0.2<(s.length:Int))) (let mX:=decide (0<=v0.2/\v0.2<(s.length:Int));.cn mX (let E6:=(↑(hY (s.getD v0.2.toNat (0:UInt8))):Int);.lv (Mp E6) λ(x1:Bool)=>.br (!x1) (.lf (Sum.inr (0,false))) (.cn mX (.nx ((rE (s:List UInt8)/\rE (1:Int)/\rE ((wrap i64 (wrap i64 (10*v0.1)+wrap i64 (wrap u8 ((↑(hY (s.getD v0.2.toNat (0:UInt8))):Int)-(48:Int))))):Int)/\rE ((wrap i64 (v0.2+1)):Int)/\True)/\True) (Sum.inl (wrap i64 (wrap i64 (10*v0.1)+wrap i64 (wrap u8 (E6-(48:Int)))),wrap i64 (v0.2+1))))))) (.br (decide (wrap i64 (0-v0.1)>=(-2147483648))) (.lf (Sum.inr (wrap i64 (0-v0.1),decide (wrap i64 (0-v0.1)<=4294967295)))) (.lf (Sum.inr (wrap i64 (0-v0.1),false))))))) T2)) T2;.br (decide ((s.length:Int)>(2:Int))) (.cn E7 (.br (E8==(48:Int)) (.cn (decide ((0:Int)<=(1:Int)/\1<(s.length:Int))) (.br ((↑(hY (s.getD (dA 1) (0:UInt8))):Int)==(120:Int)) (.br (decide ((s.length:Int)>(10:Int))) (.lf (0,false)) (.lp inferInstance (Z0q s (0,2)+1) ((rE (s:List UInt8)/\rE (0:Int)/\rE (2:Int)/\True)/\True) (0,2) λ(v0:Int×Int)=>.br (decide (v0.2<(s.length:Int))) (let E4:=decide (0<=v0.2/\v0.2<(s.length:Int));.cn E4 (let E3:=(↑(hY (s.getD v0.2.toNat (0:UInt8))):Int);.lv (Mp E3) λ(x0:Bool)=>.br x0 (.cn E4 (.nx ((rE (s:List UInt8)/\rE ((wrap i64 (wrap i64 (16*v0.1)+wrap i64 (wrap u8 ((↑(hY (s.getD v0.2.toNat (0:UInt8))):Int)-(48:Int))))):Int)/\rE ((wrap i64 (v0.2+1)):Int)/\True)/\True) (Sum.inl (wrap i64 (wrap i64 (16*v0.1)+wrap i64 (wrap u8 (E3-(48:Int)))),wrap i64 (v0.2+1))))) (.cn E4 (.br (decide (E3>=(97:Int))) (.cn E4 (.br (decide (E3<=(102:Int))) (.cn E4 (.nx ((rE (s:List UInt8)/\rE ((wrap i64 (wrap i64 (wrap i64 (16*v0.1)+wrap i64 (wrap u8 ((↑(hY (s.getD v0.2.toNat (0:UInt8))):Int)-(97:Int))))+10)):Int)/\rE ((wrap i64 (v0.2+1)):Int)/\True)/\True) (Sum.inl (wrap i64 (wrap i64 (wrap i64 (16*v0.1)+wrap i64 (wrap u8 (E3-(97:Int))))+10),wrap i64 (v0.2+1))))) (.lf (Sum.inr (0,false))))) (.lf (Sum.inr (0,false))))))) (.lf (Sum.inr (v0.1,true))))) T1)) T1)) T1
def Z8 s:=(Nn s).m
abbrev Qk1 s:=(Nn s).p
def Z9s:cg:={
 α:=(Int)×(Int)
 F:=λst a=>([(0,(lk st 0)),(4,.int i64 a.1),(5,.int i64 a.2)],[])
 a0:=λst=>((lk st 4).toInt,(lk st 5).toInt)
 jk:=λst=>[]++[]}
def Zan:cg:={
 α:=(Int)×(Int)
 F:=λst a=>([(0,(lk st 0)),(6,(lk st 6)),(7,.int i64 a.1),(8,.int i64 a.2)],[])
 a0:=λst=>((lk st 7).toInt,(lk st 8).toInt)
 jk:=λst=>[]++[]}
def Z31:List (Nat×cg):=[(6,Z9s),(21,Zan)]
def Zgl:ba:=mT 264 [] true [.one (.str)] [] (λa r=>Nn (jE a 0)) (λX=>.dw [.int .i64 (X.1),.bool (X.2)]) (λX=>[])
theorem Zac:bj pG Zgl:=oT (.cons Qy1 (.nil)) Tryz.func264 Tryz.call264 [] Z31 3
def Qxq(l:List kZ)(p:List UInt8)(z:(Int)×(List nz)):Nat:=(l.length-z.1).toNat
def Np(l:List kZ)(p:List UInt8):Tree ((List nz)×Bool):=
.br ((l.length:Int) !=(p.length:Int)) (.lf ([],false)) (.lp inferInstance (Qxq l p (0,[])+1) ((nR RK.av 3 l/\rE (p:List UInt8)/\True/\rE (0:Int)/\True)/\rE ([]:List (RK.T RK.aw))/\True) (0,[]) λ(v0:Int×List nz)=>.br (decide (v0.1<(l.length:Int))) (.cn (bX 3 3&&bN 0 3&&decide (0<=v0.1/\v0.1<(l.length:Int))) (let E6:=decide (0<=v0.1/\v0.1<(p.length:Int));.cn E6 (let E3:=l.getD v0.1.toNat (RK.eh RK.av);let E4:=(↑(hY (p.getD v0.1.toNat (0:UInt8))):Int);let E5:=decide (32*(v0.2.length+1)<=140737488355328);.br (E4==(114:Int)) (.lv (Qjl E3.F2) λ(x0:Int×Bool)=>.br (E3.kind !=1) (.lf (Sum.inr ([],false))) (.br (!x0.2) (.lf (Sum.inr ([],false))) (.cn E5 (.nx ((nR RK.av 3 l/\rE (p:List UInt8)/\True/\rE ((wrap i64 (v0.1+1)):Int)/\True)/\rE ((v0.2++[{kA:=x0.1,num:=0,label:=[]}]):List (RK.T RK.aw))/\True) (Sum.inl (wrap i64 (v0.1+1),v0.2++[{kA:=x0.1,num:=0,label:=[]}])))))) (let T1:Tree ((Int×List nz)⊕(((List nz)×Bool))):=.an (Qk1 E3.F2) (.lv (Z8 E3.F2) λ(x2:Int×Bool)=>.br (E3.kind !=2) (.lf (Sum.inr ([],false))) (.br (!x2.2) (.lf (Sum.inr ([],false))) (.cn E5 (.nx ((nR RK.av 3 l/\rE (p:List UInt8)/\True/\rE ((wrap i64 (v0.1+1)):Int)/\True)/\rE ((v0.2++[{kA:=0,num:=x2.1,label:=[]}]):List (RK.T RK.aw))/\True) (Sum.inl (wrap i64 (v0.1+1),v0.2++[{kA:=0,num:=x2.1,label:=[]}]))))));let T2:Tree ((Int×List nz)⊕(((List nz)×Bool))):=.cn E6 (.br (E4==(120:Int)) (.br (E3.kind==1) (.an (Wy E3.F2) (.lv (Z7l E3.F2) λ(x1:Bool)=>.br x1 (.cn E5 (.nx ((nR RK.av 3 l/\rE (p:List UInt8)/\True/\rE ((wrap i64 (v0.1+1)):Int)/\True)/\rE ((v0.2++[{kA:=0,num:=0,label:=(l.getD v0.1.toNat (RK.eh RK.av)).F2}]):List (RK.T RK.aw))/\True) (Sum.inl (wrap i64 (v0.1+1),v0.2++[{kA:=0,num:=0,label:=E3.F2}])))) T1)) T1) T1);.br (E4==(110:Int)) T2 (.br (E4==(120:Int)) T2 (.br (E3.kind !=3) (.lf (Sum.inr ([],false))) (.cn (decide (0<=v0.1/\v0.1<=wrap i64 (v0.1+1)/\wrap i64 (v0.1+1)<=(p.length:Int))) (.br (!decide (E3.F2=cU (dA (wrap i64 (v0.1+1))-dA v0.1) (cV v0.1.toNat p))) (.lf (Sum.inr ([],false))) (.nx ((nR RK.av 3 l/\rE (p:List UInt8)/\True/\rE ((wrap i64 (v0.1+1)):Int)/\True)/\rE v0.2/\True) (Sum.inl (wrap i64 (v0.1+1),v0.2))))))))))) (.lf (Sum.inr (v0.2,true))))
def Vj l p:=(Np l p).m
abbrev No l p:=(Np l p).p
def Z75:cg:={
 α:=(Int)×(List nz)
 F:=λst a=>([(0,(lk st 0)),(1,(lk st 1)),(6,.all 0),(7,.int i64 a.1)],[⟨false,179,3,.ah RK.aw a.2⟩])
 a0:=λst=>((lk st 7).toInt,(pJ RK.aw st.rows (rN st 6)))
 jk:=λst=>[]++[(rX st 6 0)]}
def Z00:List (Nat×cg):=[(5,Z75)]
def Z9x:ba:=mT 231 [] true [.one (.ah .av),.one (.str)] [] (λa r=>Np (kF .av a 0) (jE a 1)) (λX=>.dw [.all 0,.bool (X.2)]) (λX=>[⟨false,179,3,.ah .aw (X.1)⟩])
theorem Z87:bj pG Z9x:=oT (.cons Qlf (.cons Z2b (.cons Zac (.nil)))) Tryz.func231 Tryz.call231 [.row 179 3 (.ah .aw)] Z00 3
def Qyy(s:List UInt8)(z:(List UInt8)×(Int)):Nat:=(s.length-z.2).toNat
def Nq(s:List UInt8):Tree ((List UInt8)×ki×Bool):=
.lp inferInstance (Qyy s (s,0)+1) ((rE (s:List UInt8)/\rE ([]:List UInt8)/\rZ/\rE (false:Bool)/\rE (0:Int)/\True)/\(rE ([]:List UInt8)/\rE (0:Int)/\True/\rE (0:Int)/\rE (0:Int)/\rE (0:Int)/\True)/\True) (s,0) λ(v0:List UInt8×Int)=>.br (decide (v0.2<(v0.1.length:Int))) (.cn (decide (0<=v0.2/\v0.2<(v0.1.length:Int))) (.br ((↑(hY (v0.1.getD v0.2.toNat (0:UInt8))):Int)==(59:Int)) (.cn (decide ((0:Int)<=(0:Int)/\0<=v0.2/\v0.2<=(v0.1.length:Int))) (.nx ((rE ((cU (dA v0.2-dA 0) (cV (dA 0) v0.1)):List UInt8)/\rE ([]:List UInt8)/\rZ/\rE (false:Bool)/\rE ((wrap i64 (v0.2+1)):Int)/\True)/\(rE ([]:List UInt8)/\rE (0:Int)/\True/\rE (0:Int)/\rE (0:Int)/\rE (0:Int)/\True)/\True) (Sum.inl (cU (dA v0.2-dA 0) (cV (dA 0) v0.1),wrap i64 (v0.2+1))))) (.nx ((rE v0.1/\rE ([]:List UInt8)/\rZ/\rE (false:Bool)/\rE ((wrap i64 (v0.2+1)):Int)/\True)/\(rE ([]:List UInt8)/\rE (0:Int)/\True/\rE (0:Int)/\rE (0:Int)/\rE (0:Int)/\True)/\True) (Sum.inl (v0.1,wrap i64 (v0.2+1)))))) (.an (Qjb v0.1) (.lv (Z51 v0.1) λ(x0:List kZ×Bool)=>.br (!x0.2) (.lf (Sum.inr ([],{ea:=[],op:=0,l:=[],F3:=0,at_:=0,size:=0},false))) (let E9:=x0.1.getD (dA 0) (RK.eh RK.av);let T1:Tree ((List UInt8×Int)⊕(((List UInt8)×ki×Bool))):=.an (Nk E9.F2) (.lv (Vi E9.F2) λ(x27:List UInt8×Bool)=>.br (!x27.2) (.lf (Sum.inr ([],{ea:=[],op:=0,l:=[],F3:=0,at_:=0,size:=0},false))) (let E20:=dA (x0.1.length:Int)-dA 1;let T6:Tree ((List UInt8×Int)⊕(((List UInt8)×ki×Bool))):=let E31:=cU E20 (cV (dA 1) x0.1);.an (No E31 x27.1) (.lv (Vj E31 x27.1) λ(Mr:List nz×Bool)=>.br (!Mr.2) (.lf (Sum.inr ([],{ea:=[],op:=0,l:=[],F3:=0,at_:=0,size:=0},false))) (.an (Kk E9.F2) (.lv (RH E9.F2) λ(x29:Int)=>.br (decide (E9.F2=[(108:UInt8),105])) (.lf (Sum.inr ([],{ea:=E9.F2,op:=x29,l:=Mr.1,F3:=0,at_:=0,size:=2},true))) (.br (decide (E9.F2=[(46:UInt8),115,112,97,99,101])) (let Bk:=bX 3 3&&bN 0 3&&decide ((0:Int)<=(0:Int)/\0<(Mr.1.length:Int));.cn Bk (let E21:=Mr.1.getD (dA 0) (RK.eh RK.aw);.br (decide (E21.num<0)) (.lf (Sum.inr ([],{ea:=[],op:=0,l:=[],F3:=0,at_:=0,size:=0},false))) (.cn Bk (.br (decide (E21.num>1024)) (.lf (Sum.inr ([],{ea:=[],op:=0,l:=[],F3:=0,at_:=0,size:=0},false))) (.cn Bk (.lf (Sum.inr ([],{ea:=E9.F2,op:=x29,l:=Mr.1,F3:=0,at_:=0,size:=E21.num},true)))))))) (.lf (Sum.inr ([],{ea:=E9.F2,op:=x29,l:=Mr.1,F3:=0,at_:=0,size:=1},true)))))));.br (decide ((↑E20:Int)>(0:Int))) (.cn (bX 3 3&&bN 0 3&&decide ((0:Int)<=(0:Int)/\0<(↑E20:Int))) (.br (!(x0.1.getD (dA 1+dA 0) (RK.eh RK.av)).wZ) (.lf (Sum.inr ([],{ea:=[],op:=0,l:=[],F3:=0,at_:=0,size:=0},false))) T6)) T6));let E25:=dA (x0.1.length:Int)-dA 2;let E8:=(↑E25:Int);let mX:=x0.1.getD (dA 2+dA 0) (RK.eh RK.av);let oP:=x0.1.getD (dA 1) (RK.eh RK.av);let E16:=bX 3 3&&bN 0 3&&decide ((0:Int)<=(0:Int)/\0<(x0.1.length:Int));let E17:=bX 3 3&&bN 0 3&&decide ((0:Int)<=(1:Int)/\1<(x0.1.length:Int));let E19:=bX 3 3&&bN 0 3&&decide ((0:Int)<=(2:Int)/\2<=(x0.1.length:Int)/\(x0.1.length:Int)<=(x0.1.length:Int));let E28:=bX 3 3&&bN 0 3&&decide ((0:Int)<=(0:Int)/\0<E8);let E30:=decide ((x0.1.length:Int)>=(2:Int));let T3:Tree ((List UInt8×Int)⊕(((List UInt8)×ki×Bool))):=.br ((x0.1.length:Int)==(0:Int)) (.lf (Sum.inr ([],{ea:=[],op:=0,l:=[],F3:=0,at_:=0,size:=0},true))) (.cn E16 (.cn (bX 3 3&&bN 0 3&&decide ((0:Int)<=(1:Int)/\1<=(x0.1.length:Int)/\(x0.1.length:Int)<=(x0.1.length:Int))) (.br (decide (E9.F2=[(46:UInt8)])) (.br E30 (.cn E17 (.br (!oP.wZ) (.cn E17 (.cn (decide (1+dF oP.F2<=maxLen)) (.cn E19 (.an (Nk ((46:UInt8)::oP.F2)) (.lv (Vi ([(46:UInt8)]++oP.F2)) λ(x22:List UInt8×Bool)=>.br (!x22.2) (.lf (Sum.inr ([],{ea:=[],op:=0,l:=[],F3:=0,at_:=0,size:=0},false))) (let T7:Tree ((List UInt8×Int)⊕(((List UInt8)×ki×Bool))):=let E32:=cU E25 (cV (dA 2) x0.1);.an (No E32 x22.1) (.lv (Vj E32 x22.1) λ(RI:List nz×Bool)=>.br (!RI.2) (.lf (Sum.inr ([],{ea:=[],op:=0,l:=[],F3:=0,at_:=0,size:=0},false))) (.an (Kk ((46:UInt8)::oP.F2)) (.lv (RH ([(46:UInt8)]++oP.F2)) λ(DY:Int)=>.br (decide ([(46:UInt8)]++oP.F2=[(46:UInt8),115,112,97,99,101])) (let Hz:=bX 3 3&&bN 0 3&&decide ((0:Int)<=(0:Int)/\0<(RI.1.length:Int));.cn Hz (let E22:=RI.1.getD (dA 0) (RK.eh RK.aw);.br (decide (E22.num<0)) (.lf (Sum.inr ([],{ea:=[],op:=0,l:=[],F3:=0,at_:=0,size:=0},false))) (.cn Hz (.br (decide (E22.num>1024)) (.lf (Sum.inr ([],{ea:=[],op:=0,l:=[],F3:=0,at_:=0,size:=0},false))) (.cn Hz (.lf (Sum.inr ([],{ea:=(46:UInt8)::oP.F2,op:=DY,l:=RI.1,F3:=0,at_:=0,size:=E22.num},true)))))))) (.lf (Sum.inr ([],{ea:=(46:UInt8)::oP.F2,op:=DY,l:=RI.1,F3:=0,at_:=0,size:=1},true))))));.br (decide (E8>(0:Int))) (.cn E28 (.br (!mX.wZ) (.lf (Sum.inr ([],{ea:=[],op:=0,l:=[],F3:=0,at_:=0,size:=0},false))) T7)) T7)))))) T1)) T1) T1)));.br E30 (.cn E17 (.br (decide (oP.F2=[(58:UInt8)])) (.cn E16 (.cn E16 (.br (E9.kind !=1) (.lf (Sum.inr ([],{ea:=[],op:=0,l:=[],F3:=0,at_:=0,size:=0},false))) (.an (Wy E9.F2) (.lv (Z7l E9.F2) λ(x1:Bool)=>.br (!x1) (.lf (Sum.inr ([],{ea:=[],op:=0,l:=[],F3:=0,at_:=0,size:=0},false))) (.cn E19 (.br (E8==(0:Int)) (.lf (Sum.inr (E9.F2,{ea:=[],op:=0,l:=[],F3:=0,at_:=0,size:=0},true))) (.cn E28 (.cn (bX 3 3&&bN 0 3&&decide ((0:Int)<=(1:Int)/\1<=E8/\E8<=E8)) (let T2:Tree ((List UInt8×Int)⊕(((List UInt8)×ki×Bool))):=.an (Nk mX.F2) (.lv (Vi mX.F2) λ(x7:List UInt8×Bool)=>.br (!x7.2) (.lf (Sum.inr ([],{ea:=[],op:=0,l:=[],F3:=0,at_:=0,size:=0},false))) (let T4:Tree ((List UInt8×Int)⊕(((List UInt8)×ki×Bool))):=let E26:=cU (dA E8-dA 1) (cV (dA 2+dA 1) x0.1);.an (No E26 x7.1) (.lv (Vj E26 x7.1) λ(x8:List nz×Bool)=>.br (!x8.2) (.lf (Sum.inr ([],{ea:=[],op:=0,l:=[],F3:=0,at_:=0,size:=0},false))) (.an (Kk mX.F2) (.lv (RH mX.F2) λ(x9:Int)=>.br (decide (mX.F2=[(108:UInt8),105])) (.lf (Sum.inr (E9.F2,{ea:=mX.F2,op:=x9,l:=x8.1,F3:=0,at_:=0,size:=2},true))) (.br (decide (mX.F2=[(46:UInt8),115,112,97,99,101])) (let HA:=bX 3 3&&bN 0 3&&decide ((0:Int)<=(0:Int)/\0<(x8.1.length:Int));.cn HA (let E23:=x8.1.getD (dA 0) (RK.eh RK.aw);.br (decide (E23.num<0)) (.lf (Sum.inr ([],{ea:=[],op:=0,l:=[],F3:=0,at_:=0,size:=0},false))) (.cn HA (.br (decide (E23.num>1024)) (.lf (Sum.inr ([],{ea:=[],op:=0,l:=[],F3:=0,at_:=0,size:=0},false))) (.cn HA (.lf (Sum.inr (E9.F2,{ea:=mX.F2,op:=x9,l:=x8.1,F3:=0,at_:=0,size:=E23.num},true)))))))) (.lf (Sum.inr (E9.F2,{ea:=mX.F2,op:=x9,l:=x8.1,F3:=0,at_:=0,size:=1},true)))))));.br (decide ((↑(dA E8-dA 1):Int)>(0:Int))) (.cn (bX 3 3&&bN 0 3&&decide ((0:Int)<=(0:Int)/\0<(↑(dA E8-dA 1):Int))) (.br (!(x0.1.getD (dA 2+dA 1+dA 0) (RK.eh RK.av)).wZ) (.lf (Sum.inr ([],{ea:=[],op:=0,l:=[],F3:=0,at_:=0,size:=0},false))) T4)) T4));.br (decide (mX.F2=[(46:UInt8)])) (.br (decide (E8>=(2:Int))) (let E29:=bX 3 3&&bN 0 3&&decide ((0:Int)<=(1:Int)/\1<E8);.cn E29 (let nS:=x0.1.getD (dA 2+dA 1) (RK.eh RK.av);.br (!nS.wZ) (.cn E29 (.cn (decide (1+dF nS.F2<=maxLen)) (.cn (bX 3 3&&bN 0 3&&decide ((0:Int)<=(2:Int)/\2<=E8/\E8<=E8)) (.an (Nk ((46:UInt8)::nS.F2)) (.lv (Vi ([(46:UInt8)]++nS.F2)) λ(x2:List UInt8×Bool)=>.br (!x2.2) (.lf (Sum.inr ([],{ea:=[],op:=0,l:=[],F3:=0,at_:=0,size:=0},false))) (let T5:Tree ((List UInt8×Int)⊕(((List UInt8)×ki×Bool))):=let E27:=cU (dA E8-dA 2) (cV (dA 2+dA 2) x0.1);.an (No E27 x2.1) (.lv (Vj E27 x2.1) λ(x3:List nz×Bool)=>.br (!x3.2) (.lf (Sum.inr ([],{ea:=[],op:=0,l:=[],F3:=0,at_:=0,size:=0},false))) (.an (Kk ((46:UInt8)::nS.F2)) (.lv (RH ([(46:UInt8)]++nS.F2)) λ(x4:Int)=>.br (decide ([(46:UInt8)]++nS.F2=[(46:UInt8),115,112,97,99,101])) (let E18:=bX 3 3&&bN 0 3&&decide ((0:Int)<=(0:Int)/\0<(x3.1.length:Int));.cn E18 (let E24:=x3.1.getD (dA 0) (RK.eh RK.aw);.br (decide (E24.num<0)) (.lf (Sum.inr ([],{ea:=[],op:=0,l:=[],F3:=0,at_:=0,size:=0},false))) (.cn E18 (.br (decide (E24.num>1024)) (.lf (Sum.inr ([],{ea:=[],op:=0,l:=[],F3:=0,at_:=0,size:=0},false))) (.cn E18 (.lf (Sum.inr (E9.F2,{ea:=(46:UInt8)::nS.F2,op:=x4,l:=x3.1,F3:=0,at_:=0,size:=E24.num},true)))))))) (.lf (Sum.inr (E9.F2,{ea:=(46:UInt8)::nS.F2,op:=x4,l:=x3.1,F3:=0,at_:=0,size:=1},true))))));.br (decide ((↑(dA E8-dA 2):Int)>(0:Int))) (.cn (bX 3 3&&bN 0 3&&decide ((0:Int)<=(0:Int)/\0<(↑(dA E8-dA 2):Int))) (.br (!(x0.1.getD (dA 2+dA 2+dA 0) (RK.eh RK.av)).wZ) (.lf (Sum.inr ([],{ea:=[],op:=0,l:=[],F3:=0,at_:=0,size:=0},false))) T5)) T5)))))) T2)) T2) T2)))))))))) T3)) T3)))
def Z4t s:=(Nq s).m
abbrev Qkh s:=(Nq s).p
def Z9q:cg:={
 α:=(List UInt8)×(Int)
 F:=λst a=>([(0,.str a.1),(2,(lk st 2)),(3,.ptr 0 0 0),(4,(lk st 4)),(5,.int i64 a.2)],[⟨true,177,6,.gen [[(cT st 3 0),(cT st 3 1),(cT st 3 2),(cT st 3 3),(cT st 3 4),(cT st 3 5)]]⟩])
 a0:=λst=>((lk st 0).toStr,(lk st 5).toInt)
 jk:=λst=>[]++[(rX st 3 0)]}
def Z2w:List (Nat×cg):=[(2,Z9q)]
def Zfr:ba:=mT 176 [] false [.one (.str)] [] (λa r=>Nq (jE a 0)) (λX=>.dw [.str (X.1),.agg (ki.cells (X.2.1)),.bool (X.2.2)]) (λX=>[])
theorem Z9o:bj pG Zfr:=oT (.cons Za5 (.cons Z2b (.cons Z4z (.cons Z87 (.cons Qmx (.nil)))))) Tryz.func176 Tryz.call176 [.sl (.ah .aw) false] Z2w 3 (jv:=nofun)
def Qnp(l:List nZ)(label:List UInt8)(z:(Int)):Prop:=0<=z/\z<=l.length
def Qdm(l:List nZ)(label:List UInt8)(z:(Int)):Nat:=(l.length-z).toNat
def Vk(l:List nZ)(label:List UInt8):Tree (Int×Bool):=
.lp inferInstance (Qdm l label 0+1) ((nR RK.dm 2 l/\rE (label:List UInt8)/\rE (0:Int)/\True)/\True) 0 λ(v0:Int)=>.br (decide (v0<(l.length:Int))) (let E1:=bX 2 2&&bN 0 2&&decide (0<=v0/\v0<(l.length:Int));.cn E1 (let E2:=l.getD v0.toNat (RK.eh RK.dm);.br (decide (E2.Name=label)) (.cn E1 (.lf (Sum.inr (E2.Addr,true)))) (.nx ((nR RK.dm 2 l/\rE (label:List UInt8)/\rE ((wrap i64 (v0+1)):Int)/\True)/\True) (Sum.inl (wrap i64 (v0+1)))))) (.lf (Sum.inr (0,false)))
def Qsn l label:=(Vk l label).m
def Gl(l:List nZ)(label:List UInt8):Prop:=
l.length<=1000000000000
theorem Z3i(l:List nZ)(label:List UInt8)(hw:Gl l label):(Vk l label).p:=by
 simp only[Gl]at hw
 unfold Tree.p Vk
 repeat'(first|refine fk (inv:=Qnp l label) (μ:=Qdm l label) ?_ (cN _) (λ_ _=>?_)|exact trivial|refine ae (λ_=>?_) (λ_=>?_)|refine ax ?_ ?_|refine c7 ?_ ?_|refine aq (λ_ _=>?_)|refine ez ?_|refine bg ?_|refine And.intro ?_ ?_)
 all_goals((try simp only[Qnp,Qdm]at*);exact nL)
def Z58:cg:={
 α:=(Int)
 F:=λst a=>([(0,(lk st 0)),(1,(lk st 1)),(6,.int i64 a)],[])
 a0:=λst=>(lk st 6).toInt
 jk:=λst=>[]++[]}
def Z1:List (Nat×cg):=[(2,Z58)]
def Zab:ba:=ly 124 [] true [.one (.ah .dm),.one (.str)] [] (λa r=>Gl (kF .dm a 0) (jE a 1)) (λa r=>Qsn (kF .dm a 0) (jE a 1)) (λX=>.dw [.int .u32 (X.1),.bool (X.2)]) (λX=>[])
theorem Qrg:bj pG Zab:=uV drawn jA (.nil) Tryz.func124 Tryz.call124 (λa r=>Vk (kF .dm a 0) (jE a 1)) [] Z1 3 (hp:=λa r h=>Z3i (kF .dm a 0) (jE a 1) h)
def Z49(src:List UInt8)(z:(Int)×(Int)×(List nZ)×(List ki)):Nat:=((Qz1 src).length-z.2.1).toNat
def Nr(src:List UInt8):Tree ((List nZ)×(List ki)×tq):=
.br (decide ((src.length:Int)>(8192:Int))) (.lf ([],[],{wY:=300,ny:=0})) (.an (Qme src) (.lv (Qz1 src) λ(x0:List (List UInt8))=>.lp inferInstance (Z49 src (0,0,[],[])+1) ((rZ/\True/\True/\rE (0:Int)/\True/\rE (0:Int)/\True)/\(rE (0:Int)/\rE (0:Int)/\True)/\rE (x0:List (RK.T RK.str))/\rE ([]:List (RK.T RK.dm))/\rE ([]:List (RK.T RK.ak))/\True) (0,0,[],[]) λ(v0:Int×Int×List nZ×List ki)=>.br (decide (v0.2.1<(x0.length:Int))) (.cn (bX 1 1&&bN 0 1&&decide (0<=v0.2.1/\v0.2.1<(x0.length:Int))) (let E3:=x0.getD v0.2.1.toNat (RK.eh RK.str);.an (Qkh E3) (.lv (Z4t E3) λ(x1:List UInt8×ki×Bool)=>.br (!x1.2.2) (.lf (Sum.inr ([],[],{wY:=301,ny:=wrap i64 (v0.2.1+1)}))) (let E1:=({wY:=305,ny:=wrap i64 (v0.2.1+1)}:tq);let E2:=decide (72*(v0.2.2.2.length+1)<=140737488355328);let E4:=decide (wrap i64 (v0.1+x1.2.1.size)>1024);.br (!decide (x1.1=[])) (.an (Gl v0.2.2.1 x1.1) (.lv (Qsn v0.2.2.1 x1.1) λ(x2:Int×Bool)=>.br x2.2 (.lf (Sum.inr ([],[],{wY:=303,ny:=wrap i64 (v0.2.1+1)}))) (.cn (decide (24*(v0.2.2.1.length+1)<=140737488355328)) (let E5:=({Name:=x1.1,Addr:=wrap u32 (wrap i64 (4*v0.1))}:nZ);.br (!decide (x1.2.1.ea=[])) (.cn E2 (.br E4 (.lf (Sum.inr ([],[],E1))) (.nx ((rZ/\True/\True/\rE ((wrap i64 (v0.1+x1.2.1.size)):Int)/\True/\rE ((wrap i64 (v0.2.1+1)):Int)/\True)/\(rE (0:Int)/\rE (0:Int)/\True)/\rE (x0:List (RK.T RK.str))/\rE ((v0.2.2.1++[{Name:=x1.1,Addr:=wrap u32 (wrap i64 (4*v0.1))}]):List (RK.T RK.dm))/\rE ((v0.2.2.2++[{ea:=x1.2.1.ea,op:=x1.2.1.op,l:=x1.2.1.l,F3:=wrap i64 (v0.2.1+1),at_:=v0.1,size:=x1.2.1.size}]):List (RK.T RK.ak))/\True) (Sum.inl (wrap i64 (v0.1+x1.2.1.size),wrap i64 (v0.2.1+1),v0.2.2.1++[E5],v0.2.2.2++[{ea:=x1.2.1.ea,op:=x1.2.1.op,l:=x1.2.1.l,F3:=wrap i64 (v0.2.1+1),at_:=v0.1,size:=x1.2.1.size}]))))) (.br (decide (v0.1>1024)) (.lf (Sum.inr ([],[],E1))) (.nx ((rZ/\True/\True/\rE v0.1/\True/\rE ((wrap i64 (v0.2.1+1)):Int)/\True)/\(rE (0:Int)/\rE (0:Int)/\True)/\rE (x0:List (RK.T RK.str))/\rE ((v0.2.2.1++[{Name:=x1.1,Addr:=wrap u32 (wrap i64 (4*v0.1))}]):List (RK.T RK.dm))/\rE v0.2.2.2/\True) (Sum.inl (v0.1,wrap i64 (v0.2.1+1),v0.2.2.1++[E5],v0.2.2.2)))))))) (.br (!decide (x1.2.1.ea=[])) (.cn E2 (.br E4 (.lf (Sum.inr ([],[],E1))) (.nx ((rZ/\True/\True/\rE ((wrap i64 (v0.1+x1.2.1.size)):Int)/\True/\rE ((wrap i64 (v0.2.1+1)):Int)/\True)/\(rE (0:Int)/\rE (0:Int)/\True)/\rE (x0:List (RK.T RK.str))/\rE v0.2.2.1/\rE ((v0.2.2.2++[{ea:=x1.2.1.ea,op:=x1.2.1.op,l:=x1.2.1.l,F3:=wrap i64 (v0.2.1+1),at_:=v0.1,size:=x1.2.1.size}]):List (RK.T RK.ak))/\True) (Sum.inl (wrap i64 (v0.1+x1.2.1.size),wrap i64 (v0.2.1+1),v0.2.2.1,v0.2.2.2++[{ea:=x1.2.1.ea,op:=x1.2.1.op,l:=x1.2.1.l,F3:=wrap i64 (v0.2.1+1),at_:=v0.1,size:=x1.2.1.size}]))))) (.br (decide (v0.1>1024)) (.lf (Sum.inr ([],[],E1))) (.nx ((rZ/\True/\True/\rE v0.1/\True/\rE ((wrap i64 (v0.2.1+1)):Int)/\True)/\(rE (0:Int)/\rE (0:Int)/\True)/\rE (x0:List (RK.T RK.str))/\rE v0.2.2.1/\rE v0.2.2.2/\True) (Sum.inl (v0.1,wrap i64 (v0.2.1+1),v0.2.2.1,v0.2.2.2))))))))) (.lf (Sum.inr (v0.2.2.1,v0.2.2.2,{wY:=0,ny:=0})))))
def Z5 src:=(Nr src).m
abbrev Qob src:=(Nr src).p
def Zin:cg:={
 α:=(Int)×(Int)×(List nZ)×(List ki)
 F:=λst a=>([(4,.ptr 0 0 0),(5,.all 2),(6,.all 3),(7,.int i64 a.1),(8,.all 1),(9,.int i64 a.2.1)],[⟨true,120,2,.gen [[(cT st 4 0),(cT st 4 1)]]⟩,⟨false,9,1,kJ st.rows (rN st 8)⟩,⟨false,243,2,.ah RK.dm a.2.2.1⟩,⟨false,177,6,.ah RK.ak a.2.2.2⟩])
 a0:=λst=>((lk st 7).toInt,(lk st 9).toInt,(pJ RK.dm st.rows (rN st 5)),(pJ RK.ak st.rows (rN st 6)))
 jk:=λst=>[]++[(rX st 4 0),(rX st 8 1),(rX st 5 2),(rX st 6 3)]}
def Za0:List (Nat×cg):=[(8,Zin)]
def Zmw:ba:=mT 123 [] false [.one (.str)] [] (λa r=>Nr (jE a 0)) (λX=>.dw [.all 0,.all 1,.agg (tq.cells (X.2.2))]) (λX=>[⟨false,243,2,.ah .dm (X.1)⟩,⟨false,177,6,.ah .ak (X.2.1)⟩])
theorem Zjr:bj pG Zmw:=oT (.cons Ze8 (.cons Z9o (.cons Qrg (.nil)))) Tryz.func123 Tryz.call123 [.row 243 2 (.ah .dm),.row 177 6 (.ah .ak)] Za0 3 (jv:=nofun)
def Ns(st:ki)(v:Int):Tree (Int×Bool):=
.lv (oK st.op) λ(x0:Int)=>.lv (WW x0) λ(x1:Int×Int)=>let E7:=st.l.getD (dA 0) (RK.eh RK.aw);let E8:=st.l.getD (dA 1) (RK.eh RK.aw);let E9:=bX 3 3&&bN 0 3&&decide ((0:Int)<=(0:Int)/\0<(st.l.length:Int));let mX:=bX 3 3&&bN 0 3&&decide ((0:Int)<=(1:Int)/\1<(st.l.length:Int));let nS:=st.l.getD (dA 2) (RK.eh RK.aw);let oP:=bX 3 3&&bN 0 3&&decide ((0:Int)<=(2:Int)/\2<(st.l.length:Int));.br (x0==2) (.cn E9 (.cn mX (.cn oP (let T2:Tree ((Int×Bool)):=.br (decide (0<x1.1)) (.lf (0,false)) (.br (decide (0>x1.2)) (.lf (0,false)) (.lv (oI {Op:=st.op,A:=E7.kA,B:=E8.kA,C:=nS.kA,cf:=wrap i32 0}) λ(x2:Int×Bool)=>.lf (x2.1,x2.2)));.br (x0==2) T2 (.br (x0==1) T2 (.br (decide (v<x1.1)) (.lf (0,false)) (.br (decide (v>x1.2)) (.lf (0,false)) (.lv (oI {Op:=st.op,A:=E7.kA,B:=E8.kA,C:=nS.kA,cf:=wrap i32 v}) λ(x4:Int×Bool)=>.lf (x4.1,x4.2))))))))) (let T1:Tree ((Int×Bool)):=.br (decide (x0>=6)) (.cn E9 (let T5:Tree ((Int×Bool)):=.br (decide (0<x1.1)) (.lf (0,false)) (.br (decide (0>x1.2)) (.lf (0,false)) (.lv (oI {Op:=st.op,A:=E7.kA,B:=0,C:=0,cf:=wrap i32 0}) λ(x8:Int×Bool)=>.lf (x8.1,x8.2)));.br (x0==2) T5 (.br (x0==1) T5 (.br (decide (v<x1.1)) (.lf (0,false)) (.br (decide (v>x1.2)) (.lf (0,false)) (.lv (oI {Op:=st.op,A:=E7.kA,B:=0,C:=0,cf:=wrap i32 v}) λ(kR:Int×Bool)=>.lf (kR.1,kR.2))))))) (.br (x0 !=1) (.cn E9 (.cn mX (let T3:Tree ((Int×Bool)):=.br (decide (0<x1.1)) (.lf (0,false)) (.br (decide (0>x1.2)) (.lf (0,false)) (.lv (oI {Op:=st.op,A:=E7.kA,B:=E8.kA,C:=0,cf:=wrap i32 0}) λ(lW:Int×Bool)=>.lf (lW.1,lW.2)));.br (x0==2) T3 (.br (x0==1) T3 (.br (decide (v<x1.1)) (.lf (0,false)) (.br (decide (v>x1.2)) (.lf (0,false)) (.lv (oI {Op:=st.op,A:=E7.kA,B:=E8.kA,C:=0,cf:=wrap i32 v}) λ(uO:Int×Bool)=>.lf (uO.1,uO.2)))))))) (let T6:Tree ((Int×Bool)):=.br (decide (0<x1.1)) (.lf (0,false)) (.br (decide (0>x1.2)) (.lf (0,false)) (.lv (oI {Op:=st.op,A:=0,B:=0,C:=0,cf:=wrap i32 0}) λ(FD:Int×Bool)=>.lf (FD.1,FD.2)));.br (x0==2) T6 (.br (x0==1) T6 (.br (decide (v<x1.1)) (.lf (0,false)) (.br (decide (v>x1.2)) (.lf (0,false)) (.lv (oI {Op:=st.op,A:=0,B:=0,C:=0,cf:=wrap i32 v}) λ(FE:Int×Bool)=>.lf (FE.1,FE.2)))))));.br (decide (st.op>=32)) (.br (decide (st.op<=36)) (.cn E9 (.cn oP (.cn mX (let T4:Tree ((Int×Bool)):=.br (decide (0<x1.1)) (.lf (0,false)) (.br (decide (0>x1.2)) (.lf (0,false)) (.lv (oI {Op:=st.op,A:=E7.kA,B:=nS.kA,C:=0,cf:=wrap i32 0}) λ(x5:Int×Bool)=>.lf (x5.1,x5.2)));.br (x0==2) T4 (.br (x0==1) T4 (.br (decide (E8.num<x1.1)) (.lf (0,false)) (.br (decide (E8.num>x1.2)) (.lf (0,false)) (.lv (oI {Op:=st.op,A:=E7.kA,B:=nS.kA,C:=0,cf:=wrap i32 E8.num}) λ(x7:Int×Bool)=>.lf (x7.1,x7.2))))))))) T1) T1)
def Vl st v:=(Ns st v).m
abbrev Qb st v:=(Ns st v).p
def Zlx:ba:=mT 126 [] true [.agg ki.sig,.one (.int .i64)] [] (λa r=>Ns (ki.of (aC a 0)) (au a 1)) (λX=>.dw [.int .u32 (X.1),.bool (X.2)]) (λX=>[])
theorem Zk3:bj pG Zlx:=oT (.cons RD (.cons Qu9 (.cons Qmg (.nil)))) Tryz.func126 Tryz.call126 [] [] 2

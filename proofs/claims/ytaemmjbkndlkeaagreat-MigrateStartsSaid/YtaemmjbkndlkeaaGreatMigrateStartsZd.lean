import Derived.Test.YtaemmjbkndlkeaaGreatMigrateStartsYz
open UInt8 renaming toNat->iB,ofNat->eD
open List renaming take->cU,drop->cV,length->dF,getD->aV
open Int renaming toNat->dA,tdiv->eF
open Nat renaming lt_succ_self->cN,beq->bX,blt->bN
set_option maxRecDepth 100000
set_option linter.all false
namespace Go.Proofs.YtaemmjbkndlkeaaGreat
open Go Go.GD Go.IntKind
noncomputable section
instance Sw {α β:Type} [Inhabited β]:Inhabited (α⊕β):=⟨.inr default⟩
def Z4n(src:List UInt8)(z:(Int)×(Int)×(List (List UInt8))):Nat:=(src.length-z.2.1).toNat
def NQ(src:List UInt8):Tree (List (List UInt8)):=
.lp inferInstance (Z4n src (0,0,[])+1) ((rE (src:List UInt8)/\True/\rE (0:Int)/\rE (0:Int)/\True)/\rE ([]:List (RK.T RK.str))/\True) (0,0,[]) λ(v0:Int×Int×List (List UInt8))=>let E1:=decide (16*(v0.2.2.length+1)<=140737488355328);.br (decide (v0.2.1<(src.length:Int))) (.cn (decide (0<=v0.2.1/\v0.2.1<(src.length:Int))) (.br ((↑(iB (src.getD v0.2.1.toNat (0:UInt8))):Int)==(10:Int)) (.cn (decide (0<=v0.1/\v0.1<=v0.2.1/\v0.2.1<=(src.length:Int))) (.cn E1 (.nx ((rE (src:List UInt8)/\True/\rE ((wrap i64 (v0.2.1+1)):Int)/\rE ((wrap i64 (v0.2.1+1)):Int)/\True)/\rE ((v0.2.2++[cU (dA v0.2.1-dA v0.1) (cV v0.1.toNat src)]):List (RK.T RK.str))/\True) (Sum.inl (wrap i64 (v0.2.1+1),wrap i64 (v0.2.1+1),v0.2.2++[cU (dA v0.2.1-dA v0.1) (cV v0.1.toNat src)]))))) (.nx ((rE (src:List UInt8)/\True/\rE v0.1/\rE ((wrap i64 (v0.2.1+1)):Int)/\True)/\rE v0.2.2/\True) (Sum.inl (v0.1,wrap i64 (v0.2.1+1),v0.2.2))))) (.br (decide (v0.1<(src.length:Int))) (.cn (decide (0<=v0.1/\v0.1<=(src.length:Int)/\(src.length:Int)<=(src.length:Int))) (.cn E1 (.lf (Sum.inr (v0.2.2++[cU (dA (src.length:Int)-dA v0.1) (cV v0.1.toNat src)]))))) (.lf (Sum.inr v0.2.2)))
def Z1q src:=(NQ src).m
abbrev Qnf src:=(NQ src).p
def Zi0:bu:={
 α:=(Int)×(Int)×(List (List UInt8))
 F:=λst a=>([(0,(lk st 0)),(3,.all 0),(4,.int i64 a.1),(5,.int i64 a.2.1)],[⟨false,9,1,.ah RK.str a.2.2⟩])
 a0:=λst=>((lk st 4).toInt,(lk st 5).toInt,(tD RK.str st.rows (rN st 3)))
 iZ:=λst=>[]++[(rX st 3 0)]}
def Z8r:List (Nat×bu):=[(4,Zi0)]
def Zkm:bb:=mT 175 [] true [.one (.str)] [] (λa r=>NQ (jF a 0)) (λX=>.all 0) (λX=>[⟨false,9,1,.ah .str X⟩])
theorem Zho:bj pG Zkm:=oT (.nil) Tryz.func175 Tryz.call175 [.row 9 1 (.ah .str)] Z8r 3
def Qyd(c:Int):Tree Bool:=
.br (decide (c>=97)) (.lf (decide (c<=122))) (.lf false)
def VZ c:=(Qyd c).m
def Zfb:bb:=mS 261 [] true [.one (.int .u8)] [] (λa r=>Qyd (au a 0)) (λX=>.bool X) (λX=>[])
theorem Qvy:bj pG Zfb:=oS (.nil) Tryz.func261 Tryz.call261 [] [] 2
def Z3r(c:Int):Tree Bool:=
.br (decide (c>=48)) (.lf (decide (c<=57))) (.lf false)
def MZ c:=(Z3r c).m
def Zjw:bb:=mS 262 [] true [.one (.int .u8)] [] (λa r=>Z3r (au a 0)) (λX=>.bool X) (λX=>[])
theorem Qz0:bj pG Zjw:=oS (.nil) Tryz.func262 Tryz.call262 [] [] 2
def Z0k(s:List UInt8)(z:(Bool)×(Int)×(List lj)):Nat:=(s.length-z.2.1).toNat
def Z16(s:List UInt8)(v0:Bool×Int×List lj)(z:(Int)):Nat:=(s.length-z).toNat
def Z0l(s:List UInt8)(v0:Bool×Int×List lj)(z:(Int)):Nat:=(s.length-z).toNat
def NR(s:List UInt8):Tree ((List lj)×Bool):=
.lp inferInstance (Z0k s (true,0,[])+1) ((rE (s:List UInt8)/\True/\rE (true:Bool)/\rE (0:Int)/\True)/\rE ([]:List (RK.T RK.aw))/\True) (true,0,[]) λ(v0:Bool×Int×List lj)=>.br (decide (v0.2.1<(s.length:Int))) (.cn (decide (0<=v0.2.1/\v0.2.1<(s.length:Int))) (let E7:=(↑(iB (s.getD v0.2.1.toNat (0:UInt8))):Int);.br (E7==(32:Int)) (.nx ((rE (s:List UInt8)/\True/\rE (true:Bool)/\rE ((wrap i64 (v0.2.1+1)):Int)/\True)/\rE v0.2.2/\True) (Sum.inl (true,wrap i64 (v0.2.1+1),v0.2.2))) (.lv (VZ E7) λ(x0:Bool)=>let nb:=decide (32*(v0.2.2.length+1)<=140737488355328);let Bt:=cV v0.2.1.toNat s;.br x0 (.lp inferInstance (Z16 s v0 v0.2.1+1) ((rE (s:List UInt8)/\True/\rE v0.1/\rE v0.2.1/\rE v0.2.1/\True)/\rE v0.2.2/\True) v0.2.1 λ(v1:Int)=>let T3:Tree ((Int)⊕((Bool×Int×List lj)⊕(((List lj)×Bool)))):=.cn (decide (0<=v0.2.1/\v0.2.1<=v1/\v1<=(s.length:Int))) (.cn nb (.nx ((rE (s:List UInt8)/\True/\rE (false:Bool)/\rE (v1:Int)/\True)/\rE ((v0.2.2++[{kind:=1,F2:=cU (dA v1-dA v0.2.1) (cV v0.2.1.toNat s),Aa:=v0.1}]):List (RK.T RK.aw))/\True) (Sum.inr (Sum.inl (false,v1,v0.2.2++[{kind:=1,F2:=cU (dA v1-dA v0.2.1) Bt,Aa:=v0.1}])))));.br (decide (v1<(s.length:Int))) (let nT:=decide (0<=v1/\v1<(s.length:Int));.cn nT (let E8:=(↑(iB (s.getD v1.toNat (0:UInt8))):Int);.lv (VZ E8) λ(x1:Bool)=>let T5:Tree ((Int)⊕((Bool×Int×List lj)⊕(((List lj)×Bool)))):=.nx ((rE (s:List UInt8)/\True/\rE v0.1/\rE ((wrap i64 (v1+1)):Int)/\rE v0.2.1/\True)/\rE v0.2.2/\True) (Sum.inl (wrap i64 (v1+1)));.br x1 T5 (.cn nT (.lv (MZ E8) λ(x2:Bool)=>.br x2 T5 (.cn nT (.br (E8==(95:Int)) T5 T3)))))) T3) (.lv (MZ E7) λ(x3:Bool)=>let T2:Tree ((Bool×Int×List lj)⊕(((List lj)×Bool))):=.lp inferInstance (Z0l s v0 (wrap i64 (v0.2.1+1))+1) ((rE (s:List UInt8)/\True/\rE v0.1/\rE ((wrap i64 (v0.2.1+1)):Int)/\rE v0.2.1/\True)/\rE v0.2.2/\True) (wrap i64 (v0.2.1+1)) λ(v1:Int)=>let T4:Tree ((Int)⊕((Bool×Int×List lj)⊕(((List lj)×Bool)))):=.cn (decide (0<=v0.2.1/\v0.2.1<=v1/\v1<=(s.length:Int))) (.cn nb (.nx ((rE (s:List UInt8)/\True/\rE (false:Bool)/\rE (v1:Int)/\True)/\rE ((v0.2.2++[{kind:=2,F2:=cU (dA v1-dA v0.2.1) (cV v0.2.1.toNat s),Aa:=v0.1}]):List (RK.T RK.aw))/\True) (Sum.inr (Sum.inl (false,v1,v0.2.2++[{kind:=2,F2:=cU (dA v1-dA v0.2.1) Bt,Aa:=v0.1}])))));.br (decide (v1<(s.length:Int))) (let oU:=decide (0<=v1/\v1<(s.length:Int));.cn oU (let E9:=(↑(iB (s.getD v1.toNat (0:UInt8))):Int);.lv (VZ E9) λ(x4:Bool)=>let T6:Tree ((Int)⊕((Bool×Int×List lj)⊕(((List lj)×Bool)))):=.nx ((rE (s:List UInt8)/\True/\rE v0.1/\rE ((wrap i64 (v1+1)):Int)/\rE v0.2.1/\True)/\rE v0.2.2/\True) (Sum.inl (wrap i64 (v1+1)));.br x4 T6 (.cn oU (.lv (MZ E9) λ(x5:Bool)=>.br x5 T6 (.cn oU (.br (E9==(95:Int)) T6 T4)))))) T4;.br x3 T2 (.br (E7==(45:Int)) T2 (let T1:Tree ((Bool×Int×List lj)⊕(((List lj)×Bool))):=.cn (decide (0<=v0.2.1/\v0.2.1<=wrap i64 (v0.2.1+1)/\wrap i64 (v0.2.1+1)<=(s.length:Int))) (.cn nb (.nx ((rE (s:List UInt8)/\True/\rE (false:Bool)/\rE ((wrap i64 (v0.2.1+1)):Int)/\True)/\rE ((v0.2.2++[{kind:=3,F2:=cU (dA (wrap i64 (v0.2.1+1))-dA v0.2.1) (cV v0.2.1.toNat s),Aa:=v0.1}]):List (RK.T RK.aw))/\True) (Sum.inl (false,wrap i64 (v0.2.1+1),v0.2.2++[{kind:=3,F2:=cU (dA (wrap i64 (v0.2.1+1))-dA v0.2.1) Bt,Aa:=v0.1}]))));.br (E7==(44:Int)) T1 (.br (E7==(58:Int)) T1 (.br (E7==(40:Int)) T1 (.br (E7==(41:Int)) T1 (.br (E7==(46:Int)) T1 (.lf (Sum.inr ([],false))))))))))))) (.lf (Sum.inr (v0.2.2,true)))
def Za1 s:=(NR s).m
abbrev Qku s:=(NR s).p
def Zcb:bu:={
 α:=(Bool)×(Int)×(List lj)
 F:=λst a=>([(0,(lk st 0)),(4,.all 0),(5,.bool a.1),(6,.int i64 a.2.1)],[⟨false,290,3,.ah RK.aw a.2.2⟩])
 a0:=λst=>((lk st 5).toBool,(lk st 6).toInt,(tD RK.aw st.rows (rN st 4)))
 iZ:=λst=>[]++[(rX st 4 0)]}
def Zcf:bu:={
 α:=(Int)
 F:=λst a=>([(0,(lk st 0)),(4,.all 0),(5,(lk st 5)),(6,.int i64 a),(8,(lk st 8))],[⟨false,290,3,mU st.rows (rN st 4)⟩])
 a0:=λst=>(lk st 6).toInt
 iZ:=λst=>[]++[(rX st 4 0)]}
def Zbn:bu:={
 α:=(Int)
 F:=λst a=>([(0,(lk st 0)),(4,.all 0),(5,(lk st 5)),(6,.int i64 a),(8,(lk st 8))],[⟨false,290,3,mU st.rows (rN st 4)⟩])
 a0:=λst=>(lk st 6).toInt
 iZ:=λst=>[]++[(rX st 4 0)]}
def Z57:List (Nat×bu):=[(4,Zcb),(12,Zcf),(17,Zbn)]
def Zf5:bb:=mT 228 [] true [.one (.str)] [] (λa r=>NR (jF a 0)) (λX=>.dw [.all 0,.bool (X.2)]) (λX=>[⟨false,290,3,.ah .aw (X.1)⟩])
theorem Zb8:bj pG Zf5:=oT (.cons Qvy (.cons Qz0 (.nil))) Tryz.func228 Tryz.call228 [.row 290 3 (.ah .aw)] Z57 3
 def Sx (p:Int->Prop) (r:Int->List UInt8) (n:Int):Tree (List UInt8):=
 .br (decide (n<(10:Int))) (.lf ([(λ(n:Int)=>eD n.toNat) (wrap u8 (wrap u64 ((48:Int)+n)))])) (.an (p (wrap u64 (eF n (10:Int)))) (.lv (r (wrap u64 (eF n (10:Int)))) λ(x0:List UInt8)=>.cn (decide (x0.length+dF [(λ(n:Int)=>eD n.toNat) (wrap u8 (wrap u64 ((48:Int)+Int.tmod n (10:Int))))]<=maxLen)) (.lf (x0++[(λ(n:Int)=>eD n.toNat) (wrap u8 (wrap u64 ((48:Int)+Int.tmod n (10:Int))))]))))
 def AP:Nat->Int->List UInt8
  |0,_=>[]
  |k+1,n=>(Sx (λ_=>True) (AP k) n).m
 def Kn (k:Nat) (n:Int):Prop:=0<=n/\n<10^k/\n<18446744073709551616/\0<k/\k<=30
 def Jam (k:Nat):bb:=kH 301 [] true [.one (.int .u64)] [] (λargs rows=>Kn k (au args 0)) (λargs rows=>AP k (au args 0)) (λX=>.str X) (λX=>[])
 theorem oF:∀k n,(AP k n).length<=k
  |0,_=>Nat.le_refl _
  |k+1,n=>by
   show(bif decide (n<10)then _ else eh (AP k _) λx0=>x0++_).length<=k+1
   have:=oF k (wrap u64 (eF n 10))
   cases decide (n<10)
   ·simp[eh,Tree.m];omega
   ·simp[Tree.m]
 theorem wZ:∀k,bj pG (Jam k)
  |0=>FQ Tryz.call301 (λargs rows h=>absurd h.2.2.2.1 (Nat.lt_irrefl 0)) (λ_ X=>by kernel_rfl)
  |k + 1=>by
   refine rU drawn jt (.cons (wZ k) .nil) Tryz.func301 Tryz.call301 (λargs rows=>Sx (Kn k) (AP k) (au args 0)) [] [] 2 (λ_ _ _=>by kernel_rfl) (λ_ _=>rfl) (λargs rows h=>?_) (λ_ X=>by kernel_rfl)
   obtain⟨h0,h1,h2,h3,h4⟩:=h
   generalize au args 0=n at*
   refine ae (λ_=>trivial) (λhn=>?_)
   have hn:=oN hn
   have e:wrap u64 (eF n 10)=n/10:=by rw[wrap_u64,Int.tdiv_eq_ediv_of_nonneg h0];omega
   refine cg (show Kn k _ from ?_) (aq λx hx=>av (dY ?_) trivial)
   ·rw[e]
    rw[Int.pow_succ]at h1
    have hk:0<k:=by
     rcases Nat.eq_zero_or_pos k with rfl|h
     ·simp at h1;omega
     ·exact h
    exact⟨by omega,by omega,by omega,hk,by omega⟩
   ·have:=oF k (wrap u64 (eF n 10))
    rw[<-hx]at this
    simp[maxLen];omega
def M0(n:Int):(List UInt8):=
AP 20 n
def EB(n:Int):Prop:=
0<=n/\n<18446744073709551616
def Qqy(n:Int):List D:=[.int .u64 n]
def Qqi(n:Int):List Row:=[]
def Qll(X:List UInt8):D:=.str X
def Qk(X:List UInt8):List Row:=[]
def Qte:List PT:=[.one (.int .u64)]
def Qqf:List RT:=[]
def Z6o(args:List D)(rows:List Row):(List UInt8):=M0 (au args 0)
def Z7b(args:List D)(rows:List Row):Prop:=EB (au args 0)
def Zg6:bb:=kH 301 [] true Qte Qqf Z7b Z6o Qll Qk
theorem Z1x(n:Int)(hw:EB n):kr pG 301 (Qqy n) (Qqi n) (Qll (M0 n)) (Qk (M0 n)):=by
 have YZ:(18446744073709551616:Int)<=10^20:=by decide
 exact yC (args:=[.int .u64 n]) (rows:=[]) (wZ 20) (by kernel_rfl) ⟨hw.1,Int.lt_of_lt_of_le hw.2 YZ,hw.2,by decide,by decide⟩
set_option maxRecDepth 100000 in
theorem Z4q(args:List D)(rows:List Row):kZ Qte args 0=Qqy (au args 0):=by kernel_rfl
set_option maxRecDepth 100000 in
theorem Z05(args:List D)(rows:List Row):kA Qqf rows 0=Qqi (au args 0):=by kernel_rfl
set_option maxRecDepth 100000 in
theorem Zc3(X:List UInt8):(tv (Qll X)&&jz (Qk X))=true:=by kernel_rfl
theorem Zc8:bj pG Zg6:=FQ Tryz.call301 (λargs rows hp=>by rw[Z4q args rows,Z05 args rows];exact Z1x (au args 0) hp) (λ_ X=>Zc3 X)
def II(n:Int):Tree (List UInt8):=
.br (decide (n<0)) (let E1:=wrap u64 (wrap u64 (wrap i64 (0-wrap i64 (n+1)))+1);.an (EB E1) (.lv (M0 E1) λ(x0:List UInt8)=>.cn (decide (1+x0.length<=maxLen)) (.lf ((45:UInt8)::x0)))) (.an (EB (wrap u64 n)) (.lv (M0 (wrap u64 n)) λ(x1:List UInt8)=>.lf x1))
def Qt2 n:=(II n).m
abbrev Qi n:=(II n).p
def Zao:bb:=mT 298 [] true [.one (.int .i64)] [] (λa r=>II (au a 0)) (λX=>.str X) (λX=>[])
theorem Zad:bj pG Zao:=oT (.cons Zc8 (.nil)) Tryz.func298 Tryz.call298 [] [] 2
def IJ(r:Int):Tree (List UInt8):=
.an (Qi r) (.lv (Qt2 r) λ(x0:List UInt8)=>.cn (decide (1+x0.length<=maxLen)) (.lf ((114:UInt8)::x0)))
def Zqg r:=(IJ r).m
abbrev Qt4 r:=(IJ r).p
def Ztq:bb:=mT 288 [] true [.one (.int .i64)] [] (λa r=>IJ (au a 0)) (λX=>.str X) (λX=>[])
theorem Zpz:bj pG Ztq:=oT (.cons Zad (.nil)) Tryz.func288 Tryz.call288 [] [] 2
def Qv7(s:List UInt8)(z:(Int)):Prop:=0<=z/\z<=16
def Qhc(s:List UInt8)(z:(Int)):Nat:=(16-z).toNat
def V0(s:List UInt8):Tree (Int×Bool):=
.lp inferInstance (Qhc s 0+1) ((rE (s:List UInt8)/\rE (0:Int)/\True)/\True) 0 λ(v0:Int)=>.br (decide (v0<16)) (.an (Qt4 v0) (.lv (Zqg v0) λ(x0:List UInt8)=>.br (decide (s=x0)) (.lf (Sum.inr (v0,true))) (.nx ((rE (s:List UInt8)/\rE ((wrap i64 (v0+1)):Int)/\True)/\True) (Sum.inl (wrap i64 (v0+1)))))) (.lf (Sum.inr (0,false)))
def Qlq s:=(V0 s).m
theorem Qwx(s:List UInt8):(V0 s).p:=by
 unfold Tree.p V0
 have dp:∀x,EB (wrap .u64 x):=λx=>by unfold EB;rw[wrap_u64];omega
 have dl:∀x,(M0 x).length<=20:=λx=>oF 20 x
 have hd:∀x,(II x).w (λr=>r.length<=21):=λx=>by
  unfold II
  refine ae (λ_=>cg (dp _) (aq λx0 h0=>av (dY ?_) ?_)) (λ_=>cg (dp _) (aq λx1 h1=>?_))
  ·have:=dl (wrap .u64 (wrap .u64 (wrap .i64 (0-wrap .i64 (x+1)))+1));rw[<-h0]at this;simp[maxLen];omega
  ·have:=dl (wrap .u64 (wrap .u64 (wrap .i64 (0-wrap .i64 (x+1)))+1));rw[<-h0]at this;show(_::x0).length<=21;simp;omega
  ·rw[h1];exact Nat.le_trans (dl _) (by decide)
 have hr:∀x,(IJ x).p:=λx=>by
  unfold Tree.p IJ
  refine cg (Tree.pp (hd x)).1 (aq λx0 h0=>av (dY ?_) trivial)
  have:(Qt2 x).length<=21:=(Tree.pp (hd x)).2
  rw[<-h0]at this;simp[maxLen];omega
 refine eu (inv:=Qv7 s) (μ:=Qhc s) ⟨by decide,by decide⟩ (cN _) (λz hz=>?_)
 obtain⟨z1,z2⟩:=hz
 refine ae (λhb=>cg (hr _) (aq λx0 _=>ae (λ_=>trivial) (λ_=>ee ?_))) (λ_=>trivial)
 have hb:=oY hb
 show(0<=i64.wrap (z+1)/\i64.wrap (z+1)<=16)/\(16-i64.wrap (z+1)).toNat<(16-z).toNat
 rw[wrap_i64];omega
def Qyh:bu:={
 α:=(Int)
 F:=λst a=>([(0,(lk st 0)),(4,.int i64 a)],[])
 a0:=λst=>(lk st 4).toInt
 iZ:=λst=>[]++[]}
def Qv8:List (Nat×bu):=[(2,Qyh)]
def Z13:bb:=mS 263 [] true [.one (.str)] [] (λa r=>V0 (jF a 0)) (λX=>.dw [.int .i64 (X.1),.bool (X.2)]) (λX=>[])
theorem Qm3:bj pG Z13:=oS (.cons Zpz (.nil)) Tryz.func263 Tryz.call263 [] Qv8 3 (λ_ _ _=>by kernel_rfl) (λa r=>Qwx (jF a 0)) (λ_ X=>by kernel_rfl)
def NS(s:List UInt8):Tree Bool:=
.lv (Qlq s) λ(x0:Int×Bool)=>.br (decide ((s.length:Int)>=(1:Int))) (.br (decide ((s.length:Int)<=(12:Int))) (.cn (decide ((0:Int)<=(0:Int)/\0<(s.length:Int))) (.lv (VZ (↑(iB (s.getD (dA 0) (0:UInt8))):Int)) λ(x1:Bool)=>.br x1 (.lf (!x0.2)) (.lf false))) (.lf false)) (.lf false)
def Z6c s:=(NS s).m
abbrev Xg s:=(NS s).p
def Znh:bb:=mT 229 [] true [.one (.str)] [] (λa r=>NS (jF a 0)) (λX=>.bool X) (λX=>[])
theorem Z2u:bj pG Znh:=oT (.cons Qm3 (.cons Qvy (.nil))) Tryz.func229 Tryz.call229 [] [] 2
def NT(op:Int):Tree (List UInt8):=
let T1:Tree ((List UInt8)):=let T3:Tree ((List UInt8)):=.br (op==48) (.lf ([(106:UInt8),97,108])) (.br (op==49) (.lf ([(106:UInt8),97,108,114])) (.br (decide (op>=56)) (.br (decide (op<=64)) (.cn (bX 1 1&&bN 0 1&&decide (0<=wrap i64 (op-56)/\wrap i64 (op-56)<(↑9:Int))) (.lf (aV [[(101:UInt8),99,97,108,108],[(101:UInt8),114,101,116],[(99:UInt8),115,114,114],[(99:UInt8),115,114,119],[(105:UInt8),110],[(111:UInt8),117,116],[(119:UInt8),102,105],[(102:UInt8),108,117,115,104],[(104:UInt8),97,108,116]] (dA (wrap i64 (op-56))) (RK.dx RK.str)))) (.lf ([]))) (.lf ([]))));.br (decide (op>=40)) (.br (decide (op<=45)) (.cn (bX 1 1&&bN 0 1&&decide (0<=wrap i64 (op-40)/\wrap i64 (op-40)<(↑6:Int))) (.lf (aV [[(98:UInt8),101,113],[(98:UInt8),110,101],[(98:UInt8),108,116],[(98:UInt8),103,101],[(98:UInt8),108,116,117],[(98:UInt8),103,101,117]] (dA (wrap i64 (op-40))) (RK.dx RK.str)))) T3) T3;let T2:Tree ((List UInt8)):=let T4:Tree ((List UInt8)):=.br (decide (op>=32)) (.br (decide (op<=36)) (.cn (bX 1 1&&bN 0 1&&decide (0<=wrap i64 (op-32)/\wrap i64 (op-32)<(↑5:Int))) (.lf (aV [[(108:UInt8),119],[(108:UInt8),98],[(108:UInt8),98,117],[(115:UInt8),119],[(115:UInt8),98]] (dA (wrap i64 (op-32))) (RK.dx RK.str)))) T1) T1;.br (decide (op>=16)) (.br (decide (op<=24)) (.cn (bX 1 1&&bN 0 1&&decide (0<=wrap i64 (op-16)/\wrap i64 (op-16)<(↑9:Int))) (.lf (aV [[(97:UInt8),100,100,105],[(97:UInt8),110,100,105],[(111:UInt8),114,105],[(120:UInt8),111,114,105],[(115:UInt8),104,108,105],[(115:UInt8),104,114,105],[(115:UInt8),97,114,105],[(115:UInt8),108,116,105],[(108:UInt8),117,105]] (dA (wrap i64 (op-16))) (RK.dx RK.str)))) T4) T4;.br (decide (op>=1)) (.br (decide (op<=13)) (.cn (bX 1 1&&bN 0 1&&decide (0<=wrap i64 (op-1)/\wrap i64 (op-1)<(↑13:Int))) (.lf (aV [[(97:UInt8),100,100],[(115:UInt8),117,98],[(97:UInt8),110,100],[(111:UInt8),114],[(120:UInt8),111,114],[(115:UInt8),104,108],[(115:UInt8),104,114],[(115:UInt8),97,114],[(109:UInt8),117,108],[(100:UInt8),105,118],[(114:UInt8),101,109],[(115:UInt8),108,116],[(115:UInt8),108,116,117]] (dA (wrap i64 (op-1))) (RK.dx RK.str)))) T2) T2
def Qxz op:=(NT op).m
abbrev Qg0 op:=(NT op).p
def Z7u:bb:=mT 265 [] true [.one (.int .i64)] [] (λa r=>NT (au a 0)) (λX=>.str X) (λX=>[])
theorem Z4f:bj pG Z7u:=oT (.nil) Tryz.func265 Tryz.call265 [] [] 2
def Qup(s:List UInt8)(z:(Int)):Nat:=(65-z).toNat
def NU(s:List UInt8):Tree Int:=
.lp inferInstance (Qup s 1+1) ((rE (s:List UInt8)/\rE (1:Int)/\True)/\True) 1 λ(v0:Int)=>.br (decide (v0<=64)) (.lv (oO v0) λ(x0:Int)=>.br (decide (x0>0)) (.an (Qg0 v0) (.lv (Qxz v0) λ(x1:List UInt8)=>.br (decide (x1=s)) (.lf (Sum.inr v0)) (.nx ((rE (s:List UInt8)/\rE ((wrap i64 (v0+1)):Int)/\True)/\True) (Sum.inl (wrap i64 (v0+1)))))) (.nx ((rE (s:List UInt8)/\rE ((wrap i64 (v0+1)):Int)/\True)/\True) (Sum.inl (wrap i64 (v0+1))))) (.lf (Sum.inr 0))
def Sy s:=(NU s).m
abbrev KS s:=(NU s).p
def Z1c:bu:={
 α:=(Int)
 F:=λst a=>([(0,(lk st 0)),(3,.int i64 a)],[])
 a0:=λst=>(lk st 3).toInt
 iZ:=λst=>[]++[]}
def Qx5:List (Nat×bu):=[(2,Z1c)]
def Z54:bb:=mT 232 [] true [.one (.str)] [] (λa r=>NU (jF a 0)) (λX=>.int .i64 X) (λX=>[])
theorem Qnw:bj pG Z54:=oT (.cons Sv (.cons Z4f (.nil))) Tryz.func232 Tryz.call232 [] Qx5 3
def NW(ed:List UInt8):Tree ((List UInt8)×Bool):=
.an (KS ed) (.lv (Sy ed) λ(x0:Int)=>.br (decide (ed=[(46:UInt8),119,111,114,100])) (.lf ([(120:UInt8)],true)) (.br (decide (ed=[(46:UInt8),115,112,97,99,101])) (.lf ([(110:UInt8)],true)) (.br (decide (ed=[(108:UInt8),105])) (.lf ([(114:UInt8),44,120],true)) (.br (decide (ed=[(109:UInt8),118])) (.lf ([(114:UInt8),44,114],true)) (.br (decide (ed=[(110:UInt8),111,112])) (.lf ([],true)) (.br (x0==0) (.lf ([],false)) (let T1:Tree (((List UInt8)×Bool)):=.br (x0==48) (.lf ([(114:UInt8),44,120],true)) (.lv (oO x0) λ(x1:Int)=>.br (x1==1) (.lf ([],true)) (.br (x1==2) (.lf ([(114:UInt8),44,114,44,114],true)) (.br (decide (x1>=6)) (.lf ([(114:UInt8),44,110],true)) (.lf ([(114:UInt8),44,114,44,110],true)))));let T2:Tree (((List UInt8)×Bool)):=.br (decide (x0>=40)) (.br (decide (x0<=45)) (.lf ([(114:UInt8),44,114,44,120],true)) T1) T1;.br (decide (x0>=32)) (.br (decide (x0<=36)) (.lf ([(114:UInt8),44,110,40,114,41],true)) T2) T2)))))))
def V1 ed:=(NW ed).m
abbrev NV ed:=(NW ed).p
def Zbw:bb:=mT 230 [] true [.one (.str)] [] (λa r=>NW (jF a 0)) (λX=>.dw [.str (X.1),.bool (X.2)]) (λX=>[])
theorem Z7v:bj pG Zbw:=oT (.cons Qnw (.cons Sv (.nil))) Tryz.func230 Tryz.call230 [] [] 2
def Z2m(s:List UInt8)(z:(Int)×(Int)):Nat:=(s.length-z.2).toNat
def Qoh(s:List UInt8)(z:(Int)×(Int)):Nat:=(s.length-z.2).toNat
def NX(s:List UInt8):Tree (Int×Bool):=
let E7:=decide ((0:Int)<=(0:Int)/\0<(s.length:Int));let E8:=(↑(iB (s.getD (dA 0) (0:UInt8))):Int);let T1:Tree ((Int×Bool)):=let T2:Tree ((Int×Bool)):=.br (decide (wrap i64 ((s.length:Int)-(0:Int))<1)) (.lf (0,false)) (.br (decide (wrap i64 ((s.length:Int)-(0:Int))>10)) (.lf (0,false)) (.lp inferInstance (Qoh s (0,0)+1) ((rE (s:List UInt8)/\rE (0:Int)/\rE (0:Int)/\rE (0:Int)/\True)/\True) (0,0) λ(v0:Int×Int)=>.br (decide (v0.2<(s.length:Int))) (let E9:=decide (0<=v0.2/\v0.2<(s.length:Int));.cn E9 (let E5:=(↑(iB (s.getD v0.2.toNat (0:UInt8))):Int);.lv (MZ E5) λ(x2:Bool)=>.br (!x2) (.lf (Sum.inr (0,false))) (.cn E9 (.nx ((rE (s:List UInt8)/\rE (0:Int)/\rE ((wrap i64 (wrap i64 (10*v0.1)+wrap i64 (wrap u8 ((↑(iB (s.getD v0.2.toNat (0:UInt8))):Int)-(48:Int))))):Int)/\rE ((wrap i64 (v0.2+1)):Int)/\True)/\True) (Sum.inl (wrap i64 (wrap i64 (10*v0.1)+wrap i64 (wrap u8 (E5-(48:Int)))),wrap i64 (v0.2+1))))))) (.br (decide (v0.1>=(-2147483648))) (.lf (Sum.inr (v0.1,decide (v0.1<=4294967295)))) (.lf (Sum.inr (v0.1,false))))));.br (decide ((s.length:Int)>(0:Int))) (.cn E7 (.br (E8==(45:Int)) (.br (decide (wrap i64 ((s.length:Int)-(1:Int))<1)) (.lf (0,false)) (.br (decide (wrap i64 ((s.length:Int)-(1:Int))>10)) (.lf (0,false)) (.lp inferInstance (Qoh s (0,1)+1) ((rE (s:List UInt8)/\rE (1:Int)/\rE (0:Int)/\rE (1:Int)/\True)/\True) (0,1) λ(v0:Int×Int)=>.br (decide (v0.2<(s.length:Int))) (let nb:=decide (0<=v0.2/\v0.2<(s.length:Int));.cn nb (let E6:=(↑(iB (s.getD v0.2.toNat (0:UInt8))):Int);.lv (MZ E6) λ(x1:Bool)=>.br (!x1) (.lf (Sum.inr (0,false))) (.cn nb (.nx ((rE (s:List UInt8)/\rE (1:Int)/\rE ((wrap i64 (wrap i64 (10*v0.1)+wrap i64 (wrap u8 ((↑(iB (s.getD v0.2.toNat (0:UInt8))):Int)-(48:Int))))):Int)/\rE ((wrap i64 (v0.2+1)):Int)/\True)/\True) (Sum.inl (wrap i64 (wrap i64 (10*v0.1)+wrap i64 (wrap u8 (E6-(48:Int)))),wrap i64 (v0.2+1))))))) (.br (decide (wrap i64 (0-v0.1)>=(-2147483648))) (.lf (Sum.inr (wrap i64 (0-v0.1),decide (wrap i64 (0-v0.1)<=4294967295)))) (.lf (Sum.inr (wrap i64 (0-v0.1),false))))))) T2)) T2;.br (decide ((s.length:Int)>(2:Int))) (.cn E7 (.br (E8==(48:Int)) (.cn (decide ((0:Int)<=(1:Int)/\1<(s.length:Int))) (.br ((↑(iB (s.getD (dA 1) (0:UInt8))):Int)==(120:Int)) (.br (decide ((s.length:Int)>(10:Int))) (.lf (0,false)) (.lp inferInstance (Z2m s (0,2)+1) ((rE (s:List UInt8)/\rE (0:Int)/\rE (2:Int)/\True)/\True) (0,2) λ(v0:Int×Int)=>.br (decide (v0.2<(s.length:Int))) (let E4:=decide (0<=v0.2/\v0.2<(s.length:Int));.cn E4 (let E3:=(↑(iB (s.getD v0.2.toNat (0:UInt8))):Int);.lv (MZ E3) λ(x0:Bool)=>.br x0 (.cn E4 (.nx ((rE (s:List UInt8)/\rE ((wrap i64 (wrap i64 (16*v0.1)+wrap i64 (wrap u8 ((↑(iB (s.getD v0.2.toNat (0:UInt8))):Int)-(48:Int))))):Int)/\rE ((wrap i64 (v0.2+1)):Int)/\True)/\True) (Sum.inl (wrap i64 (wrap i64 (16*v0.1)+wrap i64 (wrap u8 (E3-(48:Int)))),wrap i64 (v0.2+1))))) (.cn E4 (.br (decide (E3>=(97:Int))) (.cn E4 (.br (decide (E3<=(102:Int))) (.cn E4 (.nx ((rE (s:List UInt8)/\rE ((wrap i64 (wrap i64 (wrap i64 (16*v0.1)+wrap i64 (wrap u8 ((↑(iB (s.getD v0.2.toNat (0:UInt8))):Int)-(97:Int))))+10)):Int)/\rE ((wrap i64 (v0.2+1)):Int)/\True)/\True) (Sum.inl (wrap i64 (wrap i64 (wrap i64 (16*v0.1)+wrap i64 (wrap u8 (E3-(97:Int))))+10),wrap i64 (v0.2+1))))) (.lf (Sum.inr (0,false))))) (.lf (Sum.inr (0,false))))))) (.lf (Sum.inr (v0.1,true))))) T1)) T1)) T1
def Z68 s:=(NX s).m
abbrev Ql2 s:=(NX s).p
def Zbf:bu:={
 α:=(Int)×(Int)
 F:=λst a=>([(0,(lk st 0)),(4,.int i64 a.1),(5,.int i64 a.2)],[])
 a0:=λst=>((lk st 4).toInt,(lk st 5).toInt)
 iZ:=λst=>[]++[]}
def Zc7:bu:={
 α:=(Int)×(Int)
 F:=λst a=>([(0,(lk st 0)),(6,(lk st 6)),(7,.int i64 a.1),(8,.int i64 a.2)],[])
 a0:=λst=>((lk st 7).toInt,(lk st 8).toInt)
 iZ:=λst=>[]++[]}
def Z4g:List (Nat×bu):=[(6,Zbf),(21,Zc7)]
def Zhd:bb:=mT 264 [] true [.one (.str)] [] (λa r=>NX (jF a 0)) (λX=>.dw [.int .i64 (X.1),.bool (X.2)]) (λX=>[])
theorem Zaw:bj pG Zhd:=oT (.cons Qz0 (.nil)) Tryz.func264 Tryz.call264 [] Z4g 3
def Qxu(l:List lj)(p:List UInt8)(z:(Int)×(List nE)):Nat:=(l.length-z.1).toNat
def NZ(l:List lj)(p:List UInt8):Tree ((List nE)×Bool):=
.br ((l.length:Int) !=(p.length:Int)) (.lf ([],false)) (.lp inferInstance (Qxu l p (0,[])+1) ((nR RK.aw 3 l/\rE (p:List UInt8)/\True/\rE (0:Int)/\True)/\rE ([]:List (RK.T RK.ax))/\True) (0,[]) λ(v0:Int×List nE)=>.br (decide (v0.1<(l.length:Int))) (.cn (bX 3 3&&bN 0 3&&decide (0<=v0.1/\v0.1<(l.length:Int))) (let E6:=decide (0<=v0.1/\v0.1<(p.length:Int));.cn E6 (let E3:=l.getD v0.1.toNat (RK.dx RK.aw);let E4:=(↑(iB (p.getD v0.1.toNat (0:UInt8))):Int);let E5:=decide (32*(v0.2.length+1)<=140737488355328);.br (E4==(114:Int)) (.lv (Qlq E3.F2) λ(x0:Int×Bool)=>.br (E3.kind !=1) (.lf (Sum.inr ([],false))) (.br (!x0.2) (.lf (Sum.inr ([],false))) (.cn E5 (.nx ((nR RK.aw 3 l/\rE (p:List UInt8)/\True/\rE ((wrap i64 (v0.1+1)):Int)/\True)/\rE ((v0.2++[{kC:=x0.1,num:=0,label:=[]}]):List (RK.T RK.ax))/\True) (Sum.inl (wrap i64 (v0.1+1),v0.2++[{kC:=x0.1,num:=0,label:=[]}])))))) (let T1:Tree ((Int×List nE)⊕(((List nE)×Bool))):=.an (Ql2 E3.F2) (.lv (Z68 E3.F2) λ(x2:Int×Bool)=>.br (E3.kind !=2) (.lf (Sum.inr ([],false))) (.br (!x2.2) (.lf (Sum.inr ([],false))) (.cn E5 (.nx ((nR RK.aw 3 l/\rE (p:List UInt8)/\True/\rE ((wrap i64 (v0.1+1)):Int)/\True)/\rE ((v0.2++[{kC:=0,num:=x2.1,label:=[]}]):List (RK.T RK.ax))/\True) (Sum.inl (wrap i64 (v0.1+1),v0.2++[{kC:=0,num:=x2.1,label:=[]}]))))));let T2:Tree ((Int×List nE)⊕(((List nE)×Bool))):=.cn E6 (.br (E4==(120:Int)) (.br (E3.kind==1) (.an (Xg E3.F2) (.lv (Z6c E3.F2) λ(x1:Bool)=>.br x1 (.cn E5 (.nx ((nR RK.aw 3 l/\rE (p:List UInt8)/\True/\rE ((wrap i64 (v0.1+1)):Int)/\True)/\rE ((v0.2++[{kC:=0,num:=0,label:=(l.getD v0.1.toNat (RK.dx RK.aw)).F2}]):List (RK.T RK.ax))/\True) (Sum.inl (wrap i64 (v0.1+1),v0.2++[{kC:=0,num:=0,label:=E3.F2}])))) T1)) T1) T1);.br (E4==(110:Int)) T2 (.br (E4==(120:Int)) T2 (.br (E3.kind !=3) (.lf (Sum.inr ([],false))) (.cn (decide (0<=v0.1/\v0.1<=wrap i64 (v0.1+1)/\wrap i64 (v0.1+1)<=(p.length:Int))) (.br (!decide (E3.F2=cU (dA (wrap i64 (v0.1+1))-dA v0.1) (cV v0.1.toNat p))) (.lf (Sum.inr ([],false))) (.nx ((nR RK.aw 3 l/\rE (p:List UInt8)/\True/\rE ((wrap i64 (v0.1+1)):Int)/\True)/\rE v0.2/\True) (Sum.inl (wrap i64 (v0.1+1),v0.2))))))))))) (.lf (Sum.inr (v0.2,true))))
def Qh l p:=(NZ l p).m
abbrev NY l p:=(NZ l p).p
def Z98:bu:={
 α:=(Int)×(List nE)
 F:=λst a=>([(0,(lk st 0)),(1,(lk st 1)),(6,.all 0),(7,.int i64 a.1)],[⟨false,179,3,.ah RK.ax a.2⟩])
 a0:=λst=>((lk st 7).toInt,(tD RK.ax st.rows (rN st 6)))
 iZ:=λst=>[]++[(rX st 6 0)]}
def Z0g:List (Nat×bu):=[(5,Z98)]
def Zcj:bb:=mT 231 [] true [.one (.ah .aw),.one (.str)] [] (λa r=>NZ (jh .aw a 0) (jF a 1)) (λX=>.dw [.all 0,.bool (X.2)]) (λX=>[⟨false,179,3,.ah .ax (X.1)⟩])
theorem Za6:bj pG Zcj:=oT (.cons Qm3 (.cons Z2u (.cons Zaw (.nil)))) Tryz.func231 Tryz.call231 [.row 179 3 (.ah .ax)] Z0g 3
def Z29(s:List UInt8)(z:(List UInt8)×(Int)):Nat:=(s.length-z.2).toNat
def N0(s:List UInt8):Tree ((List UInt8)×kz×Bool):=
.lp inferInstance (Z29 s (s,0)+1) ((rE (s:List UInt8)/\rE ([]:List UInt8)/\rZ/\rE (false:Bool)/\rE (0:Int)/\True)/\(rE ([]:List UInt8)/\rE (0:Int)/\True/\rE (0:Int)/\rE (0:Int)/\rE (0:Int)/\True)/\True) (s,0) λ(v0:List UInt8×Int)=>.br (decide (v0.2<(v0.1.length:Int))) (.cn (decide (0<=v0.2/\v0.2<(v0.1.length:Int))) (.br ((↑(iB (v0.1.getD v0.2.toNat (0:UInt8))):Int)==(59:Int)) (.cn (decide ((0:Int)<=(0:Int)/\0<=v0.2/\v0.2<=(v0.1.length:Int))) (.nx ((rE ((cU (dA v0.2-dA 0) (cV (dA 0) v0.1)):List UInt8)/\rE ([]:List UInt8)/\rZ/\rE (false:Bool)/\rE ((wrap i64 (v0.2+1)):Int)/\True)/\(rE ([]:List UInt8)/\rE (0:Int)/\True/\rE (0:Int)/\rE (0:Int)/\rE (0:Int)/\True)/\True) (Sum.inl (cU (dA v0.2-dA 0) (cV (dA 0) v0.1),wrap i64 (v0.2+1))))) (.nx ((rE v0.1/\rE ([]:List UInt8)/\rZ/\rE (false:Bool)/\rE ((wrap i64 (v0.2+1)):Int)/\True)/\(rE ([]:List UInt8)/\rE (0:Int)/\True/\rE (0:Int)/\rE (0:Int)/\rE (0:Int)/\True)/\True) (Sum.inl (v0.1,wrap i64 (v0.2+1)))))) (.an (Qku v0.1) (.lv (Za1 v0.1) λ(x0:List lj×Bool)=>.br (!x0.2) (.lf (Sum.inr ([],{ed:=[],op:=0,l:=[],F3:=0,at_:=0,size:=0},false))) (let E9:=x0.1.getD (dA 0) (RK.dx RK.aw);let T1:Tree ((List UInt8×Int)⊕(((List UInt8)×kz×Bool))):=.an (NV E9.F2) (.lv (V1 E9.F2) λ(P0:List UInt8×Bool)=>.br (!P0.2) (.lf (Sum.inr ([],{ed:=[],op:=0,l:=[],F3:=0,at_:=0,size:=0},false))) (let E20:=dA (x0.1.length:Int)-dA 1;let T6:Tree ((List UInt8×Int)⊕(((List UInt8)×kz×Bool))):=let E31:=cU E20 (cV (dA 1) x0.1);.an (NY E31 P0.1) (.lv (Qh E31 P0.1) λ(Ha:List nE×Bool)=>.br (!Ha.2) (.lf (Sum.inr ([],{ed:=[],op:=0,l:=[],F3:=0,at_:=0,size:=0},false))) (.an (KS E9.F2) (.lv (Sy E9.F2) λ(P1:Int)=>.br (decide (E9.F2=[(108:UInt8),105])) (.lf (Sum.inr ([],{ed:=E9.F2,op:=P1,l:=Ha.1,F3:=0,at_:=0,size:=2},true))) (.br (decide (E9.F2=[(46:UInt8),115,112,97,99,101])) (let Bt:=bX 3 3&&bN 0 3&&decide ((0:Int)<=(0:Int)/\0<(Ha.1.length:Int));.cn Bt (let E21:=Ha.1.getD (dA 0) (RK.dx RK.ax);.br (decide (E21.num<0)) (.lf (Sum.inr ([],{ed:=[],op:=0,l:=[],F3:=0,at_:=0,size:=0},false))) (.cn Bt (.br (decide (E21.num>1024)) (.lf (Sum.inr ([],{ed:=[],op:=0,l:=[],F3:=0,at_:=0,size:=0},false))) (.cn Bt (.lf (Sum.inr ([],{ed:=E9.F2,op:=P1,l:=Ha.1,F3:=0,at_:=0,size:=E21.num},true)))))))) (.lf (Sum.inr ([],{ed:=E9.F2,op:=P1,l:=Ha.1,F3:=0,at_:=0,size:=1},true)))))));.br (decide ((↑E20:Int)>(0:Int))) (.cn (bX 3 3&&bN 0 3&&decide ((0:Int)<=(0:Int)/\0<(↑E20:Int))) (.br (!(x0.1.getD (dA 1+dA 0) (RK.dx RK.aw)).Aa) (.lf (Sum.inr ([],{ed:=[],op:=0,l:=[],F3:=0,at_:=0,size:=0},false))) T6)) T6));let E25:=dA (x0.1.length:Int)-dA 2;let E8:=(↑E25:Int);let nb:=x0.1.getD (dA 2+dA 0) (RK.dx RK.aw);let oU:=x0.1.getD (dA 1) (RK.dx RK.aw);let E16:=bX 3 3&&bN 0 3&&decide ((0:Int)<=(0:Int)/\0<(x0.1.length:Int));let E17:=bX 3 3&&bN 0 3&&decide ((0:Int)<=(1:Int)/\1<(x0.1.length:Int));let E19:=bX 3 3&&bN 0 3&&decide ((0:Int)<=(2:Int)/\2<=(x0.1.length:Int)/\(x0.1.length:Int)<=(x0.1.length:Int));let E28:=bX 3 3&&bN 0 3&&decide ((0:Int)<=(0:Int)/\0<E8);let E30:=decide ((x0.1.length:Int)>=(2:Int));let T3:Tree ((List UInt8×Int)⊕(((List UInt8)×kz×Bool))):=.br ((x0.1.length:Int)==(0:Int)) (.lf (Sum.inr ([],{ed:=[],op:=0,l:=[],F3:=0,at_:=0,size:=0},true))) (.cn E16 (.cn (bX 3 3&&bN 0 3&&decide ((0:Int)<=(1:Int)/\1<=(x0.1.length:Int)/\(x0.1.length:Int)<=(x0.1.length:Int))) (.br (decide (E9.F2=[(46:UInt8)])) (.br E30 (.cn E17 (.br (!oU.Aa) (.cn E17 (.cn (decide (1+dF oU.F2<=maxLen)) (.cn E19 (.an (NV ((46:UInt8)::oU.F2)) (.lv (V1 ([(46:UInt8)]++oU.F2)) λ(Mn:List UInt8×Bool)=>.br (!Mn.2) (.lf (Sum.inr ([],{ed:=[],op:=0,l:=[],F3:=0,at_:=0,size:=0},false))) (let T7:Tree ((List UInt8×Int)⊕(((List UInt8)×kz×Bool))):=let E32:=cU E25 (cV (dA 2) x0.1);.an (NY E32 Mn.1) (.lv (Qh E32 Mn.1) λ(G9:List nE×Bool)=>.br (!G9.2) (.lf (Sum.inr ([],{ed:=[],op:=0,l:=[],F3:=0,at_:=0,size:=0},false))) (.an (KS ((46:UInt8)::oU.F2)) (.lv (Sy ([(46:UInt8)]++oU.F2)) λ(Aw:Int)=>.br (decide ([(46:UInt8)]++oU.F2=[(46:UInt8),115,112,97,99,101])) (let HR:=bX 3 3&&bN 0 3&&decide ((0:Int)<=(0:Int)/\0<(G9.1.length:Int));.cn HR (let E22:=G9.1.getD (dA 0) (RK.dx RK.ax);.br (decide (E22.num<0)) (.lf (Sum.inr ([],{ed:=[],op:=0,l:=[],F3:=0,at_:=0,size:=0},false))) (.cn HR (.br (decide (E22.num>1024)) (.lf (Sum.inr ([],{ed:=[],op:=0,l:=[],F3:=0,at_:=0,size:=0},false))) (.cn HR (.lf (Sum.inr ([],{ed:=(46:UInt8)::oU.F2,op:=Aw,l:=G9.1,F3:=0,at_:=0,size:=E22.num},true)))))))) (.lf (Sum.inr ([],{ed:=(46:UInt8)::oU.F2,op:=Aw,l:=G9.1,F3:=0,at_:=0,size:=1},true))))));.br (decide (E8>(0:Int))) (.cn E28 (.br (!nb.Aa) (.lf (Sum.inr ([],{ed:=[],op:=0,l:=[],F3:=0,at_:=0,size:=0},false))) T7)) T7)))))) T1)) T1) T1)));.br E30 (.cn E17 (.br (decide (oU.F2=[(58:UInt8)])) (.cn E16 (.cn E16 (.br (E9.kind !=1) (.lf (Sum.inr ([],{ed:=[],op:=0,l:=[],F3:=0,at_:=0,size:=0},false))) (.an (Xg E9.F2) (.lv (Z6c E9.F2) λ(x1:Bool)=>.br (!x1) (.lf (Sum.inr ([],{ed:=[],op:=0,l:=[],F3:=0,at_:=0,size:=0},false))) (.cn E19 (.br (E8==(0:Int)) (.lf (Sum.inr (E9.F2,{ed:=[],op:=0,l:=[],F3:=0,at_:=0,size:=0},true))) (.cn E28 (.cn (bX 3 3&&bN 0 3&&decide ((0:Int)<=(1:Int)/\1<=E8/\E8<=E8)) (let T2:Tree ((List UInt8×Int)⊕(((List UInt8)×kz×Bool))):=.an (NV nb.F2) (.lv (V1 nb.F2) λ(x7:List UInt8×Bool)=>.br (!x7.2) (.lf (Sum.inr ([],{ed:=[],op:=0,l:=[],F3:=0,at_:=0,size:=0},false))) (let T4:Tree ((List UInt8×Int)⊕(((List UInt8)×kz×Bool))):=let E26:=cU (dA E8-dA 1) (cV (dA 2+dA 1) x0.1);.an (NY E26 x7.1) (.lv (Qh E26 x7.1) λ(x8:List nE×Bool)=>.br (!x8.2) (.lf (Sum.inr ([],{ed:=[],op:=0,l:=[],F3:=0,at_:=0,size:=0},false))) (.an (KS nb.F2) (.lv (Sy nb.F2) λ(x9:Int)=>.br (decide (nb.F2=[(108:UInt8),105])) (.lf (Sum.inr (E9.F2,{ed:=nb.F2,op:=x9,l:=x8.1,F3:=0,at_:=0,size:=2},true))) (.br (decide (nb.F2=[(46:UInt8),115,112,97,99,101])) (let HS:=bX 3 3&&bN 0 3&&decide ((0:Int)<=(0:Int)/\0<(x8.1.length:Int));.cn HS (let E23:=x8.1.getD (dA 0) (RK.dx RK.ax);.br (decide (E23.num<0)) (.lf (Sum.inr ([],{ed:=[],op:=0,l:=[],F3:=0,at_:=0,size:=0},false))) (.cn HS (.br (decide (E23.num>1024)) (.lf (Sum.inr ([],{ed:=[],op:=0,l:=[],F3:=0,at_:=0,size:=0},false))) (.cn HS (.lf (Sum.inr (E9.F2,{ed:=nb.F2,op:=x9,l:=x8.1,F3:=0,at_:=0,size:=E23.num},true)))))))) (.lf (Sum.inr (E9.F2,{ed:=nb.F2,op:=x9,l:=x8.1,F3:=0,at_:=0,size:=1},true)))))));.br (decide ((↑(dA E8-dA 1):Int)>(0:Int))) (.cn (bX 3 3&&bN 0 3&&decide ((0:Int)<=(0:Int)/\0<(↑(dA E8-dA 1):Int))) (.br (!(x0.1.getD (dA 2+dA 1+dA 0) (RK.dx RK.aw)).Aa) (.lf (Sum.inr ([],{ed:=[],op:=0,l:=[],F3:=0,at_:=0,size:=0},false))) T4)) T4));.br (decide (nb.F2=[(46:UInt8)])) (.br (decide (E8>=(2:Int))) (let E29:=bX 3 3&&bN 0 3&&decide ((0:Int)<=(1:Int)/\1<E8);.cn E29 (let nT:=x0.1.getD (dA 2+dA 1) (RK.dx RK.aw);.br (!nT.Aa) (.cn E29 (.cn (decide (1+dF nT.F2<=maxLen)) (.cn (bX 3 3&&bN 0 3&&decide ((0:Int)<=(2:Int)/\2<=E8/\E8<=E8)) (.an (NV ((46:UInt8)::nT.F2)) (.lv (V1 ([(46:UInt8)]++nT.F2)) λ(x2:List UInt8×Bool)=>.br (!x2.2) (.lf (Sum.inr ([],{ed:=[],op:=0,l:=[],F3:=0,at_:=0,size:=0},false))) (let T5:Tree ((List UInt8×Int)⊕(((List UInt8)×kz×Bool))):=let E27:=cU (dA E8-dA 2) (cV (dA 2+dA 2) x0.1);.an (NY E27 x2.1) (.lv (Qh E27 x2.1) λ(x3:List nE×Bool)=>.br (!x3.2) (.lf (Sum.inr ([],{ed:=[],op:=0,l:=[],F3:=0,at_:=0,size:=0},false))) (.an (KS ((46:UInt8)::nT.F2)) (.lv (Sy ([(46:UInt8)]++nT.F2)) λ(x4:Int)=>.br (decide ([(46:UInt8)]++nT.F2=[(46:UInt8),115,112,97,99,101])) (let E18:=bX 3 3&&bN 0 3&&decide ((0:Int)<=(0:Int)/\0<(x3.1.length:Int));.cn E18 (let E24:=x3.1.getD (dA 0) (RK.dx RK.ax);.br (decide (E24.num<0)) (.lf (Sum.inr ([],{ed:=[],op:=0,l:=[],F3:=0,at_:=0,size:=0},false))) (.cn E18 (.br (decide (E24.num>1024)) (.lf (Sum.inr ([],{ed:=[],op:=0,l:=[],F3:=0,at_:=0,size:=0},false))) (.cn E18 (.lf (Sum.inr (E9.F2,{ed:=(46:UInt8)::nT.F2,op:=x4,l:=x3.1,F3:=0,at_:=0,size:=E24.num},true)))))))) (.lf (Sum.inr (E9.F2,{ed:=(46:UInt8)::nT.F2,op:=x4,l:=x3.1,F3:=0,at_:=0,size:=1},true))))));.br (decide ((↑(dA E8-dA 2):Int)>(0:Int))) (.cn (bX 3 3&&bN 0 3&&decide ((0:Int)<=(0:Int)/\0<(↑(dA E8-dA 2):Int))) (.br (!(x0.1.getD (dA 2+dA 2+dA 0) (RK.dx RK.aw)).Aa) (.lf (Sum.inr ([],{ed:=[],op:=0,l:=[],F3:=0,at_:=0,size:=0},false))) T5)) T5)))))) T2)) T2) T2)))))))))) T3)) T3)))
def Z7d s:=(N0 s).m
abbrev Qk1 s:=(N0 s).p
def Zc1:bu:={
 α:=(List UInt8)×(Int)
 F:=λst a=>([(0,.str a.1),(2,(lk st 2)),(3,.ptr 0 0 0),(4,(lk st 4)),(5,.int i64 a.2)],[⟨true,177,6,.gen [[(cT st 3 0),(cT st 3 1),(cT st 3 2),(cT st 3 3),(cT st 3 4),(cT st 3 5)]]⟩])
 a0:=λst=>((lk st 0).toStr,(lk st 5).toInt)
 iZ:=λst=>[]++[(rX st 3 0)]}
def Z4x:List (Nat×bu):=[(2,Zc1)]
def Zhi:bb:=mT 176 [] false [.one (.str)] [] (λa r=>N0 (jF a 0)) (λX=>.dw [.str (X.1),.agg (kz.cells (X.2.1)),.bool (X.2.2)]) (λX=>[])
theorem Zbu:bj pG Zhi:=oT (.cons Zb8 (.cons Z2u (.cons Z7v (.cons Za6 (.cons Qnw (.nil)))))) Tryz.func176 Tryz.call176 [.sl (.ah .ax) false] Z4x 3 (jy:=nofun)
def Qoa(l:List oa)(label:List UInt8)(z:(Int)):Prop:=0<=z/\z<=l.length
def Qez(l:List oa)(label:List UInt8)(z:(Int)):Nat:=(l.length-z).toNat
def V2(l:List oa)(label:List UInt8):Tree (Int×Bool):=
.lp inferInstance (Qez l label 0+1) ((nR RK.dm 2 l/\rE (label:List UInt8)/\rE (0:Int)/\True)/\True) 0 λ(v0:Int)=>.br (decide (v0<(l.length:Int))) (let E1:=bX 2 2&&bN 0 2&&decide (0<=v0/\v0<(l.length:Int));.cn E1 (let E2:=l.getD v0.toNat (RK.dx RK.dm);.br (decide (E2.Name=label)) (.cn E1 (.lf (Sum.inr (E2.Addr,true)))) (.nx ((nR RK.dm 2 l/\rE (label:List UInt8)/\rE ((wrap i64 (v0+1)):Int)/\True)/\True) (Sum.inl (wrap i64 (v0+1)))))) (.lf (Sum.inr (0,false)))
def Qt8 l label:=(V2 l label).m
def GB(l:List oa)(label:List UInt8):Prop:=
l.length<=1000000000000
theorem Z45(l:List oa)(label:List UInt8)(hw:GB l label):(V2 l label).p:=by
 simp only[GB]at hw
 unfold Tree.p V2
 repeat'(first|refine eu (inv:=Qoa l label) (μ:=Qez l label) ?_ (cN _) (λ_ _=>?_)|exact trivial|refine ae (λ_=>?_) (λ_=>?_)|refine av ?_ ?_|refine cg ?_ ?_|refine aq (λ_ _=>?_)|refine ee ?_|refine ba ?_|refine And.intro ?_ ?_)
 all_goals((try simp only[Qoa,Qez]at*);exact lU)
def Z9j:bu:={
 α:=(Int)
 F:=λst a=>([(0,(lk st 0)),(1,(lk st 1)),(6,.int i64 a)],[])
 a0:=λst=>(lk st 6).toInt
 iZ:=λst=>[]++[]}
def Z00:List (Nat×bu):=[(2,Z9j)]
def Zc0:bb:=kH 124 [] true [.one (.ah .dm),.one (.str)] [] (λa r=>GB (jh .dm a 0) (jF a 1)) (λa r=>Qt8 (jh .dm a 0) (jF a 1)) (λX=>.dw [.int .u32 (X.1),.bool (X.2)]) (λX=>[])
theorem Qs8:bj pG Zc0:=rU drawn jt (.nil) Tryz.func124 Tryz.call124 (λa r=>V2 (jh .dm a 0) (jF a 1)) [] Z00 3 (hp:=λa r h=>Z45 (jh .dm a 0) (jF a 1) h)
def Z60(src:List UInt8)(z:(Int)×(Int)×(List oa)×(List kz)):Nat:=((Z1q src).length-z.2.1).toNat
def N1(src:List UInt8):Tree ((List oa)×(List kz)×tA):=
.br (decide ((src.length:Int)>(8192:Int))) (.lf ([],[],{w9:=300,nD:=0})) (.an (Qnf src) (.lv (Z1q src) λ(x0:List (List UInt8))=>.lp inferInstance (Z60 src (0,0,[],[])+1) ((rZ/\True/\True/\rE (0:Int)/\True/\rE (0:Int)/\True)/\(rE (0:Int)/\rE (0:Int)/\True)/\rE (x0:List (RK.T RK.str))/\rE ([]:List (RK.T RK.dm))/\rE ([]:List (RK.T RK.ak))/\True) (0,0,[],[]) λ(v0:Int×Int×List oa×List kz)=>.br (decide (v0.2.1<(x0.length:Int))) (.cn (bX 1 1&&bN 0 1&&decide (0<=v0.2.1/\v0.2.1<(x0.length:Int))) (let E3:=x0.getD v0.2.1.toNat (RK.dx RK.str);.an (Qk1 E3) (.lv (Z7d E3) λ(x1:List UInt8×kz×Bool)=>.br (!x1.2.2) (.lf (Sum.inr ([],[],{w9:=301,nD:=wrap i64 (v0.2.1+1)}))) (let E1:=({w9:=305,nD:=wrap i64 (v0.2.1+1)}:tA);let E2:=decide (72*(v0.2.2.2.length+1)<=140737488355328);let E4:=decide (wrap i64 (v0.1+x1.2.1.size)>1024);.br (!decide (x1.1=[])) (.an (GB v0.2.2.1 x1.1) (.lv (Qt8 v0.2.2.1 x1.1) λ(x2:Int×Bool)=>.br x2.2 (.lf (Sum.inr ([],[],{w9:=303,nD:=wrap i64 (v0.2.1+1)}))) (.cn (decide (24*(v0.2.2.1.length+1)<=140737488355328)) (let E5:=({Name:=x1.1,Addr:=wrap u32 (wrap i64 (4*v0.1))}:oa);.br (!decide (x1.2.1.ed=[])) (.cn E2 (.br E4 (.lf (Sum.inr ([],[],E1))) (.nx ((rZ/\True/\True/\rE ((wrap i64 (v0.1+x1.2.1.size)):Int)/\True/\rE ((wrap i64 (v0.2.1+1)):Int)/\True)/\(rE (0:Int)/\rE (0:Int)/\True)/\rE (x0:List (RK.T RK.str))/\rE ((v0.2.2.1++[{Name:=x1.1,Addr:=wrap u32 (wrap i64 (4*v0.1))}]):List (RK.T RK.dm))/\rE ((v0.2.2.2++[{ed:=x1.2.1.ed,op:=x1.2.1.op,l:=x1.2.1.l,F3:=wrap i64 (v0.2.1+1),at_:=v0.1,size:=x1.2.1.size}]):List (RK.T RK.ak))/\True) (Sum.inl (wrap i64 (v0.1+x1.2.1.size),wrap i64 (v0.2.1+1),v0.2.2.1++[E5],v0.2.2.2++[{ed:=x1.2.1.ed,op:=x1.2.1.op,l:=x1.2.1.l,F3:=wrap i64 (v0.2.1+1),at_:=v0.1,size:=x1.2.1.size}]))))) (.br (decide (v0.1>1024)) (.lf (Sum.inr ([],[],E1))) (.nx ((rZ/\True/\True/\rE v0.1/\True/\rE ((wrap i64 (v0.2.1+1)):Int)/\True)/\(rE (0:Int)/\rE (0:Int)/\True)/\rE (x0:List (RK.T RK.str))/\rE ((v0.2.2.1++[{Name:=x1.1,Addr:=wrap u32 (wrap i64 (4*v0.1))}]):List (RK.T RK.dm))/\rE v0.2.2.2/\True) (Sum.inl (v0.1,wrap i64 (v0.2.1+1),v0.2.2.1++[E5],v0.2.2.2)))))))) (.br (!decide (x1.2.1.ed=[])) (.cn E2 (.br E4 (.lf (Sum.inr ([],[],E1))) (.nx ((rZ/\True/\True/\rE ((wrap i64 (v0.1+x1.2.1.size)):Int)/\True/\rE ((wrap i64 (v0.2.1+1)):Int)/\True)/\(rE (0:Int)/\rE (0:Int)/\True)/\rE (x0:List (RK.T RK.str))/\rE v0.2.2.1/\rE ((v0.2.2.2++[{ed:=x1.2.1.ed,op:=x1.2.1.op,l:=x1.2.1.l,F3:=wrap i64 (v0.2.1+1),at_:=v0.1,size:=x1.2.1.size}]):List (RK.T RK.ak))/\True) (Sum.inl (wrap i64 (v0.1+x1.2.1.size),wrap i64 (v0.2.1+1),v0.2.2.1,v0.2.2.2++[{ed:=x1.2.1.ed,op:=x1.2.1.op,l:=x1.2.1.l,F3:=wrap i64 (v0.2.1+1),at_:=v0.1,size:=x1.2.1.size}]))))) (.br (decide (v0.1>1024)) (.lf (Sum.inr ([],[],E1))) (.nx ((rZ/\True/\True/\rE v0.1/\True/\rE ((wrap i64 (v0.2.1+1)):Int)/\True)/\(rE (0:Int)/\rE (0:Int)/\True)/\rE (x0:List (RK.T RK.str))/\rE v0.2.2.1/\rE v0.2.2.2/\True) (Sum.inl (v0.1,wrap i64 (v0.2.1+1),v0.2.2.1,v0.2.2.2))))))))) (.lf (Sum.inr (v0.2.2.1,v0.2.2.2,{w9:=0,nD:=0})))))
def Z6h src:=(N1 src).m
abbrev Qp7 src:=(N1 src).p
def Zm5:bu:={
 α:=(Int)×(Int)×(List oa)×(List kz)
 F:=λst a=>([(4,.ptr 0 0 0),(5,.all 2),(6,.all 3),(7,.int i64 a.1),(8,.all 1),(9,.int i64 a.2.1)],[⟨true,120,2,.gen [[(cT st 4 0),(cT st 4 1)]]⟩,⟨false,9,1,mU st.rows (rN st 8)⟩,⟨false,243,2,.ah RK.dm a.2.2.1⟩,⟨false,177,6,.ah RK.ak a.2.2.2⟩])
 a0:=λst=>((lk st 7).toInt,(lk st 9).toInt,(tD RK.dm st.rows (rN st 5)),(tD RK.ak st.rows (rN st 6)))
 iZ:=λst=>[]++[(rX st 4 0),(rX st 8 1),(rX st 5 2),(rX st 6 3)]}
def Zat:List (Nat×bu):=[(8,Zm5)]
def Zod:bb:=mT 123 [] false [.one (.str)] [] (λa r=>N1 (jF a 0)) (λX=>.dw [.all 0,.all 1,.agg (tA.cells (X.2.2))]) (λX=>[⟨false,243,2,.ah .dm (X.1)⟩,⟨false,177,6,.ah .ak (X.2.1)⟩])
theorem Zka:bj pG Zod:=oT (.cons Zho (.cons Zbu (.cons Qs8 (.nil)))) Tryz.func123 Tryz.call123 [.row 243 2 (.ah .dm),.row 177 6 (.ah .ak)] Zat 3 (jy:=nofun)
def N2(st:kz)(v:Int):Tree (Int×Bool):=
.lv (oO st.op) λ(x0:Int)=>.lv (XD x0) λ(x1:Int×Int)=>let E7:=st.l.getD (dA 0) (RK.dx RK.ax);let E8:=st.l.getD (dA 1) (RK.dx RK.ax);let E9:=bX 3 3&&bN 0 3&&decide ((0:Int)<=(0:Int)/\0<(st.l.length:Int));let nb:=bX 3 3&&bN 0 3&&decide ((0:Int)<=(1:Int)/\1<(st.l.length:Int));let nT:=st.l.getD (dA 2) (RK.dx RK.ax);let oU:=bX 3 3&&bN 0 3&&decide ((0:Int)<=(2:Int)/\2<(st.l.length:Int));.br (x0==2) (.cn E9 (.cn nb (.cn oU (let T2:Tree ((Int×Bool)):=.br (decide (0<x1.1)) (.lf (0,false)) (.br (decide (0>x1.2)) (.lf (0,false)) (.lv (oL {Op:=st.op,A:=E7.kC,B:=E8.kC,C:=nT.kC,bz:=wrap i32 0}) λ(x2:Int×Bool)=>.lf (x2.1,x2.2)));.br (x0==2) T2 (.br (x0==1) T2 (.br (decide (v<x1.1)) (.lf (0,false)) (.br (decide (v>x1.2)) (.lf (0,false)) (.lv (oL {Op:=st.op,A:=E7.kC,B:=E8.kC,C:=nT.kC,bz:=wrap i32 v}) λ(x4:Int×Bool)=>.lf (x4.1,x4.2))))))))) (let T1:Tree ((Int×Bool)):=.br (decide (x0>=6)) (.cn E9 (let T5:Tree ((Int×Bool)):=.br (decide (0<x1.1)) (.lf (0,false)) (.br (decide (0>x1.2)) (.lf (0,false)) (.lv (oL {Op:=st.op,A:=E7.kC,B:=0,C:=0,bz:=wrap i32 0}) λ(x8:Int×Bool)=>.lf (x8.1,x8.2)));.br (x0==2) T5 (.br (x0==1) T5 (.br (decide (v<x1.1)) (.lf (0,false)) (.br (decide (v>x1.2)) (.lf (0,false)) (.lv (oL {Op:=st.op,A:=E7.kC,B:=0,C:=0,bz:=wrap i32 v}) λ(lI:Int×Bool)=>.lf (lI.1,lI.2))))))) (.br (x0 !=1) (.cn E9 (.cn nb (let T3:Tree ((Int×Bool)):=.br (decide (0<x1.1)) (.lf (0,false)) (.br (decide (0>x1.2)) (.lf (0,false)) (.lv (oL {Op:=st.op,A:=E7.kC,B:=E8.kC,C:=0,bz:=wrap i32 0}) λ(mu:Int×Bool)=>.lf (mu.1,mu.2)));.br (x0==2) T3 (.br (x0==1) T3 (.br (decide (v<x1.1)) (.lf (0,false)) (.br (decide (v>x1.2)) (.lf (0,false)) (.lv (oL {Op:=st.op,A:=E7.kC,B:=E8.kC,C:=0,bz:=wrap i32 v}) λ(tN:Int×Bool)=>.lf (tN.1,tN.2)))))))) (let T6:Tree ((Int×Bool)):=.br (decide (0<x1.1)) (.lf (0,false)) (.br (decide (0>x1.2)) (.lf (0,false)) (.lv (oL {Op:=st.op,A:=0,B:=0,C:=0,bz:=wrap i32 0}) λ(Bj:Int×Bool)=>.lf (Bj.1,Bj.2)));.br (x0==2) T6 (.br (x0==1) T6 (.br (decide (v<x1.1)) (.lf (0,false)) (.br (decide (v>x1.2)) (.lf (0,false)) (.lv (oL {Op:=st.op,A:=0,B:=0,C:=0,bz:=wrap i32 v}) λ(CA:Int×Bool)=>.lf (CA.1,CA.2)))))));.br (decide (st.op>=32)) (.br (decide (st.op<=36)) (.cn E9 (.cn oU (.cn nb (let T4:Tree ((Int×Bool)):=.br (decide (0<x1.1)) (.lf (0,false)) (.br (decide (0>x1.2)) (.lf (0,false)) (.lv (oL {Op:=st.op,A:=E7.kC,B:=nT.kC,C:=0,bz:=wrap i32 0}) λ(x5:Int×Bool)=>.lf (x5.1,x5.2)));.br (x0==2) T4 (.br (x0==1) T4 (.br (decide (E8.num<x1.1)) (.lf (0,false)) (.br (decide (E8.num>x1.2)) (.lf (0,false)) (.lv (oL {Op:=st.op,A:=E7.kC,B:=nT.kC,C:=0,bz:=wrap i32 E8.num}) λ(x7:Int×Bool)=>.lf (x7.1,x7.2))))))))) T1) T1)
def V3 st v:=(N2 st v).m
abbrev Qb st v:=(N2 st v).p
def Znt:bb:=mT 126 [] true [.agg kz.sig,.one (.int .i64)] [] (λa r=>N2 (kz.of (aC a 0)) (au a 1)) (λX=>.dw [.int .u32 (X.1),.bool (X.2)]) (λX=>[])
theorem Zm4:bj pG Znt:=oT (.cons Sv (.cons Qw0 (.cons Qnb (.nil)))) Tryz.func126 Tryz.call126 [] [] 2

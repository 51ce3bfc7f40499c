import Derived.Test.YtaemmjbkndlkeaaGreatMigrateCancelsYz
open UInt8 renaming toNat->hY,ofNat->eD
open List renaming take->cU,drop->cV,length->dF,getD->aV
open Int renaming toNat->dA,tdiv->eF
open Nat renaming lt_succ_self->cN,beq->bX,blt->bN
set_option maxRecDepth 100000
set_option linter.all false
namespace Go.Proofs.YtaemmjbkndlkeaaGreat
open Go Go.GD Go.IntKind
noncomputable section
instance R8 {α β:Type} [Inhabited β]:Inhabited (α⊕β):=⟨.inr default⟩
def Z2o(src:List UInt8)(z:(Int)×(Int)×(List (List UInt8))):Nat:=(src.length-z.2.1).toNat
def NK(src:List UInt8):Tree (List (List UInt8)):=
.lp inferInstance (Z2o src (0,0,[])+1) ((rE (src:List UInt8)/\True/\rE (0:Int)/\rE (0:Int)/\True)/\rE ([]:List (RK.T RK.str))/\True) (0,0,[]) λ(v0:Int×Int×List (List UInt8))=>let E1:=decide (16*(v0.2.2.length+1)<=140737488355328);.br (decide (v0.2.1<(src.length:Int))) (.cn (decide (0<=v0.2.1/\v0.2.1<(src.length:Int))) (.br ((↑(hY (src.getD v0.2.1.toNat (0:UInt8))):Int)==(10:Int)) (.cn (decide (0<=v0.1/\v0.1<=v0.2.1/\v0.2.1<=(src.length:Int))) (.cn E1 (.nx ((rE (src:List UInt8)/\True/\rE ((wrap i64 (v0.2.1+1)):Int)/\rE ((wrap i64 (v0.2.1+1)):Int)/\True)/\rE ((v0.2.2++[cU (dA v0.2.1-dA v0.1) (cV v0.1.toNat src)]):List (RK.T RK.str))/\True) (Sum.inl (wrap i64 (v0.2.1+1),wrap i64 (v0.2.1+1),v0.2.2++[cU (dA v0.2.1-dA v0.1) (cV v0.1.toNat src)]))))) (.nx ((rE (src:List UInt8)/\True/\rE v0.1/\rE ((wrap i64 (v0.2.1+1)):Int)/\True)/\rE v0.2.2/\True) (Sum.inl (v0.1,wrap i64 (v0.2.1+1),v0.2.2))))) (.br (decide (v0.1<(src.length:Int))) (.cn (decide (0<=v0.1/\v0.1<=(src.length:Int)/\(src.length:Int)<=(src.length:Int))) (.cn E1 (.lf (Sum.inr (v0.2.2++[cU (dA (src.length:Int)-dA v0.1) (cV v0.1.toNat src)]))))) (.lf (Sum.inr v0.2.2)))
def Qzr src:=(NK src).m
abbrev Qma src:=(NK src).p
def Zdq:cg:={
 α:=(Int)×(Int)×(List (List UInt8))
 F:=λst a=>([(0,(lk st 0)),(3,.all 0),(4,.int i64 a.1),(5,.int i64 a.2.1)],[⟨false,9,1,.ah RK.str a.2.2⟩])
 a0:=λst=>((lk st 4).toInt,(lk st 5).toInt,(oX RK.str st.rows (rN st 3)))
 jo:=λst=>[]++[(rX st 3 0)]}
def Z8e:List (Nat×cg):=[(4,Zdq)]
def Zit:bc:=mT 175 [] true [.one (.str)] [] (λa r=>NK (jK a 0)) (λX=>.all 0) (λX=>[⟨false,9,1,.ah .str X⟩])
theorem Zf7:bm pG Zit:=oT (.nil) Tryz.func175 Tryz.call175 [.row 9 1 (.ah .str)] Z8e 3
def Qy5(c:Int):Tree Bool:=
.br (decide (c>=97)) (.lf (decide (c<=122))) (.lf false)
def VM c:=(Qy5 c).m
def Zdg:bc:=mS 261 [] true [.one (.int .u8)] [] (λa r=>Qy5 (au a 0)) (λX=>.bool X) (λX=>[])
theorem Qug:bm pG Zdg:=oS (.nil) Tryz.func261 Tryz.call261 [] [] 2
def Z2e(c:Int):Tree Bool:=
.br (decide (c>=48)) (.lf (decide (c<=57))) (.lf false)
def MP c:=(Z2e c).m
def Zhg:bc:=mS 262 [] true [.one (.int .u8)] [] (λa r=>Z2e (au a 0)) (λX=>.bool X) (λX=>[])
theorem Qwb:bm pG Zhg:=oS (.nil) Tryz.func262 Tryz.call262 [] [] 2
def Z0s(s:List UInt8)(z:(Bool)×(Int)×(List ll)):Nat:=(s.length-z.2.1).toNat
def Z03(s:List UInt8)(v0:Bool×Int×List ll)(z:(Int)):Nat:=(s.length-z).toNat
def Qz8(s:List UInt8)(v0:Bool×Int×List ll)(z:(Int)):Nat:=(s.length-z).toNat
def NL(s:List UInt8):Tree ((List ll)×Bool):=
.lp inferInstance (Z0s s (true,0,[])+1) ((rE (s:List UInt8)/\True/\rE (true:Bool)/\rE (0:Int)/\True)/\rE ([]:List (RK.T RK.av))/\True) (true,0,[]) λ(v0:Bool×Int×List ll)=>.br (decide (v0.2.1<(s.length:Int))) (.cn (decide (0<=v0.2.1/\v0.2.1<(s.length:Int))) (let E7:=(↑(hY (s.getD v0.2.1.toNat (0:UInt8))):Int);.br (E7==(32:Int)) (.nx ((rE (s:List UInt8)/\True/\rE (true:Bool)/\rE ((wrap i64 (v0.2.1+1)):Int)/\True)/\rE v0.2.2/\True) (Sum.inl (true,wrap i64 (v0.2.1+1),v0.2.2))) (.lv (VM E7) λ(x0:Bool)=>let nj:=decide (32*(v0.2.2.length+1)<=140737488355328);let Bx:=cV v0.2.1.toNat s;.br x0 (.lp inferInstance (Z03 s v0 v0.2.1+1) ((rE (s:List UInt8)/\True/\rE v0.1/\rE v0.2.1/\rE v0.2.1/\True)/\rE v0.2.2/\True) v0.2.1 λ(v1:Int)=>let T3:Tree ((Int)⊕((Bool×Int×List ll)⊕(((List ll)×Bool)))):=.cn (decide (0<=v0.2.1/\v0.2.1<=v1/\v1<=(s.length:Int))) (.cn nj (.nx ((rE (s:List UInt8)/\True/\rE (false:Bool)/\rE (v1:Int)/\True)/\rE ((v0.2.2++[{kind:=1,F3:=cU (dA v1-dA v0.2.1) (cV v0.2.1.toNat s),Af:=v0.1}]):List (RK.T RK.av))/\True) (Sum.inr (Sum.inl (false,v1,v0.2.2++[{kind:=1,F3:=cU (dA v1-dA v0.2.1) Bx,Af:=v0.1}])))));.br (decide (v1<(s.length:Int))) (let oe:=decide (0<=v1/\v1<(s.length:Int));.cn oe (let E8:=(↑(hY (s.getD v1.toNat (0:UInt8))):Int);.lv (VM E8) λ(x1:Bool)=>let T5:Tree ((Int)⊕((Bool×Int×List ll)⊕(((List ll)×Bool)))):=.nx ((rE (s:List UInt8)/\True/\rE v0.1/\rE ((wrap i64 (v1+1)):Int)/\rE v0.2.1/\True)/\rE v0.2.2/\True) (Sum.inl (wrap i64 (v1+1)));.br x1 T5 (.cn oe (.lv (MP E8) λ(x2:Bool)=>.br x2 T5 (.cn oe (.br (E8==(95:Int)) T5 T3)))))) T3) (.lv (MP E7) λ(x3:Bool)=>let T2:Tree ((Bool×Int×List ll)⊕(((List ll)×Bool))):=.lp inferInstance (Qz8 s v0 (wrap i64 (v0.2.1+1))+1) ((rE (s:List UInt8)/\True/\rE v0.1/\rE ((wrap i64 (v0.2.1+1)):Int)/\rE v0.2.1/\True)/\rE v0.2.2/\True) (wrap i64 (v0.2.1+1)) λ(v1:Int)=>let T4:Tree ((Int)⊕((Bool×Int×List ll)⊕(((List ll)×Bool)))):=.cn (decide (0<=v0.2.1/\v0.2.1<=v1/\v1<=(s.length:Int))) (.cn nj (.nx ((rE (s:List UInt8)/\True/\rE (false:Bool)/\rE (v1:Int)/\True)/\rE ((v0.2.2++[{kind:=2,F3:=cU (dA v1-dA v0.2.1) (cV v0.2.1.toNat s),Af:=v0.1}]):List (RK.T RK.av))/\True) (Sum.inr (Sum.inl (false,v1,v0.2.2++[{kind:=2,F3:=cU (dA v1-dA v0.2.1) Bx,Af:=v0.1}])))));.br (decide (v1<(s.length:Int))) (let pk:=decide (0<=v1/\v1<(s.length:Int));.cn pk (let E9:=(↑(hY (s.getD v1.toNat (0:UInt8))):Int);.lv (VM E9) λ(x4:Bool)=>let T6:Tree ((Int)⊕((Bool×Int×List ll)⊕(((List ll)×Bool)))):=.nx ((rE (s:List UInt8)/\True/\rE v0.1/\rE ((wrap i64 (v1+1)):Int)/\rE v0.2.1/\True)/\rE v0.2.2/\True) (Sum.inl (wrap i64 (v1+1)));.br x4 T6 (.cn pk (.lv (MP E9) λ(x5:Bool)=>.br x5 T6 (.cn pk (.br (E9==(95:Int)) T6 T4)))))) T4;.br x3 T2 (.br (E7==(45:Int)) T2 (let T1:Tree ((Bool×Int×List ll)⊕(((List ll)×Bool))):=.cn (decide (0<=v0.2.1/\v0.2.1<=wrap i64 (v0.2.1+1)/\wrap i64 (v0.2.1+1)<=(s.length:Int))) (.cn nj (.nx ((rE (s:List UInt8)/\True/\rE (false:Bool)/\rE ((wrap i64 (v0.2.1+1)):Int)/\True)/\rE ((v0.2.2++[{kind:=3,F3:=cU (dA (wrap i64 (v0.2.1+1))-dA v0.2.1) (cV v0.2.1.toNat s),Af:=v0.1}]):List (RK.T RK.av))/\True) (Sum.inl (false,wrap i64 (v0.2.1+1),v0.2.2++[{kind:=3,F3:=cU (dA (wrap i64 (v0.2.1+1))-dA v0.2.1) Bx,Af:=v0.1}]))));.br (E7==(44:Int)) T1 (.br (E7==(58:Int)) T1 (.br (E7==(40:Int)) T1 (.br (E7==(41:Int)) T1 (.br (E7==(46:Int)) T1 (.lf (Sum.inr ([],false))))))))))))) (.lf (Sum.inr (v0.2.2,true)))
def Z8b s:=(NL s).m
abbrev Qkm s:=(NL s).p
def Z9y:cg:={
 α:=(Bool)×(Int)×(List ll)
 F:=λst a=>([(0,(lk st 0)),(4,.all 0),(5,.bool a.1),(6,.int i64 a.2.1)],[⟨false,290,3,.ah RK.av a.2.2⟩])
 a0:=λst=>((lk st 5).toBool,(lk st 6).toInt,(oX RK.av st.rows (rN st 4)))
 jo:=λst=>[]++[(rX st 4 0)]}
def Z9c:cg:={
 α:=(Int)
 F:=λst a=>([(0,(lk st 0)),(4,.all 0),(5,(lk st 5)),(6,.int i64 a),(8,(lk st 8))],[⟨false,290,3,na st.rows (rN st 4)⟩])
 a0:=λst=>(lk st 6).toInt
 jo:=λst=>[]++[(rX st 4 0)]}
def Zad:cg:={
 α:=(Int)
 F:=λst a=>([(0,(lk st 0)),(4,.all 0),(5,(lk st 5)),(6,.int i64 a),(8,(lk st 8))],[⟨false,290,3,na st.rows (rN st 4)⟩])
 a0:=λst=>(lk st 6).toInt
 jo:=λst=>[]++[(rX st 4 0)]}
def Z3m:List (Nat×cg):=[(4,Z9y),(12,Z9c),(17,Zad)]
def Zdm:bc:=mT 228 [] true [.one (.str)] [] (λa r=>NL (jK a 0)) (λX=>.ee [.all 0,.bool (X.2)]) (λX=>[⟨false,290,3,.ah .av (X.1)⟩])
theorem Z99:bm pG Zdm:=oT (.cons Qug (.cons Qwb (.nil))) Tryz.func228 Tryz.call228 [.row 290 3 (.ah .av)] Z3m 3
 def R9 (p:Int->Prop) (r:Int->List UInt8) (n:Int):Tree (List UInt8):=
 .br (decide (n<(10:Int))) (.lf ([(λ(n:Int)=>eD n.toNat) (wrap u8 (wrap u64 ((48:Int)+n)))])) (.an (p (wrap u64 (eF n (10:Int)))) (.lv (r (wrap u64 (eF n (10:Int)))) λ(x0:List UInt8)=>.cn (decide (x0.length+dF [(λ(n:Int)=>eD n.toNat) (wrap u8 (wrap u64 ((48:Int)+Int.tmod n (10:Int))))]<=maxLen)) (.lf (x0++[(λ(n:Int)=>eD n.toNat) (wrap u8 (wrap u64 ((48:Int)+Int.tmod n (10:Int))))]))))
 def AT:Nat->Int->List UInt8
  |0,_=>[]
  |k+1,n=>(R9 (λ_=>True) (AT k) n).m
 def Kf (k:Nat) (n:Int):Prop:=0<=n/\n<10^k/\n<18446744073709551616/\0<k/\k<=30
 def Jam (k:Nat):bc:=lF 301 [] true [.one (.int .u64)] [] (λargs rows=>Kf k (au args 0)) (λargs rows=>AT k (au args 0)) (λX=>.str X) (λX=>[])
 theorem oP:∀k n,(AT k n).length<=k
  |0,_=>Nat.le_refl _
  |k+1,n=>by
   show(bif decide (n<10)then _ else e9 (AT k _) λx0=>x0++_).length<=k+1
   have:=oP k (wrap u64 (eF n 10))
   cases decide (n<10)
   ·simp[e9,Tree.m];omega
   ·simp[Tree.m]
 theorem w9:∀k,bm pG (Jam k)
  |0=>FQ Tryz.call301 (λargs rows h=>absurd h.2.2.2.1 (Nat.lt_irrefl 0)) (λ_ X=>by kernel_rfl)
  |k + 1=>by
   refine wa drawn jG (.cons (w9 k) .nil) Tryz.func301 Tryz.call301 (λargs rows=>R9 (Kf k) (AT k) (au args 0)) [] [] 2 (λ_ _ _=>by kernel_rfl) (λ_ _=>rfl) (λargs rows h=>?_) (λ_ X=>by kernel_rfl)
   obtain⟨h0,h1,h2,h3,h4⟩:=h
   generalize au args 0=n at*
   refine ae (λ_=>trivial) (λhn=>?_)
   have hn:=oN hn
   have e:wrap u64 (eF n 10)=n/10:=by rw[wrap_u64,Int.tdiv_eq_ediv_of_nonneg h0];omega
   refine df (show Kf k _ from ?_) (aq λx hx=>aw (dY ?_) trivial)
   ·rw[e]
    rw[Int.pow_succ]at h1
    have hk:0<k:=by
     rcases Nat.eq_zero_or_pos k with rfl|h
     ·simp at h1;omega
     ·exact h
    exact⟨by omega,by omega,by omega,hk,by omega⟩
   ·have:=oP k (wrap u64 (eF n 10))
    rw[<-hx]at this
    simp[maxLen];omega
def MQ(n:Int):(List UInt8):=
AT 20 n
def EG(n:Int):Prop:=
0<=n/\n<18446744073709551616
def Qpz(n:Int):List D:=[.int .u64 n]
def Qq4(n:Int):List Row:=[]
def Qjm(X:List UInt8):D:=.str X
def Qka(X:List UInt8):List Row:=[]
def Qsk:List PT:=[.one (.int .u64)]
def Qq8:List RT:=[]
def Z7q(args:List D)(rows:List Row):(List UInt8):=MQ (au args 0)
def Z4y(args:List D)(rows:List Row):Prop:=EG (au args 0)
def Zg3:bc:=lF 301 [] true Qsk Qq8 Z4y Z7q Qjm Qka
theorem Qzs(n:Int)(hw:EG n):kG pG 301 (Qpz n) (Qq4 n) (Qjm (MQ n)) (Qka (MQ n)):=by
 have YS:(18446744073709551616:Int)<=10^20:=by decide
 exact vB (args:=[.int .u64 n]) (rows:=[]) (w9 20) (by kernel_rfl) ⟨hw.1,Int.lt_of_lt_of_le hw.2 YS,hw.2,by decide,by decide⟩
set_option maxRecDepth 100000 in
theorem Z38(args:List D)(rows:List Row):lg Qsk args 0=Qpz (au args 0):=by kernel_rfl
set_option maxRecDepth 100000 in
theorem Z0r(args:List D)(rows:List Row):kH Qq8 rows 0=Qq4 (au args 0):=by kernel_rfl
set_option maxRecDepth 100000 in
theorem Z9m(X:List UInt8):(tD (Qjm X)&&jC (Qka X))=true:=by kernel_rfl
theorem Z9:bm pG Zg3:=FQ Tryz.call301 (λargs rows hp=>by rw[Z38 args rows,Z0r args rows];exact Qzs (au args 0) hp) (λ_ X=>Z9m X)
def Iu(n:Int):Tree (List UInt8):=
.br (decide (n<0)) (let E1:=wrap u64 (wrap u64 (wrap i64 (0-wrap i64 (n+1)))+1);.an (EG E1) (.lv (MQ E1) λ(x0:List UInt8)=>.cn (decide (1+x0.length<=maxLen)) (.lf ((45:UInt8)::x0)))) (.an (EG (wrap u64 n)) (.lv (MQ (wrap u64 n)) λ(x1:List UInt8)=>.lf x1))
def Qrk n:=(Iu n).m
abbrev Qhf n:=(Iu n).p
def Z92:bc:=mT 298 [] true [.one (.int .i64)] [] (λa r=>Iu (au a 0)) (λX=>.str X) (λX=>[])
theorem Z4u:bm pG Z92:=oT (.cons Z9 (.nil)) Tryz.func298 Tryz.call298 [] [] 2
def Iw(r:Int):Tree (List UInt8):=
.an (Qhf r) (.lv (Qrk r) λ(x0:List UInt8)=>.cn (decide (1+x0.length<=maxLen)) (.lf ((114:UInt8)::x0)))
def Zpy r:=(Iw r).m
abbrev Qrc r:=(Iw r).p
def Zsy:bc:=mT 288 [] true [.one (.int .i64)] [] (λa r=>Iw (au a 0)) (λX=>.str X) (λX=>[])
theorem Zo7:bm pG Zsy:=oT (.cons Z4u (.nil)) Tryz.func288 Tryz.call288 [] [] 2
def Qtu(s:List UInt8)(z:(Int)):Prop:=0<=z/\z<=16
def Qge(s:List UInt8)(z:(Int)):Nat:=(16-z).toNat
def VN(s:List UInt8):Tree (Int×Bool):=
.lp inferInstance (Qge s 0+1) ((rE (s:List UInt8)/\rE (0:Int)/\True)/\True) 0 λ(v0:Int)=>.br (decide (v0<16)) (.an (Qrc v0) (.lv (Zpy v0) λ(x0:List UInt8)=>.br (decide (s=x0)) (.lf (Sum.inr (v0,true))) (.nx ((rE (s:List UInt8)/\rE ((wrap i64 (v0+1)):Int)/\True)/\True) (Sum.inl (wrap i64 (v0+1)))))) (.lf (Sum.inr (0,false)))
def Qja s:=(VN s).m
theorem Qvi(s:List UInt8):(VN s).p:=by
 unfold Tree.p VN
 have dp:∀x,EG (wrap .u64 x):=λx=>by unfold EG;rw[wrap_u64];omega
 have dl:∀x,(MQ x).length<=20:=λx=>oP 20 x
 have hd:∀x,(Iu x).w (λr=>r.length<=21):=λx=>by
  unfold Iu
  refine ae (λ_=>df (dp _) (aq λx0 h0=>aw (dY ?_) ?_)) (λ_=>df (dp _) (aq λx1 h1=>?_))
  ·have:=dl (wrap .u64 (wrap .u64 (wrap .i64 (0-wrap .i64 (x+1)))+1));rw[<-h0]at this;simp[maxLen];omega
  ·have:=dl (wrap .u64 (wrap .u64 (wrap .i64 (0-wrap .i64 (x+1)))+1));rw[<-h0]at this;show(_::x0).length<=21;simp;omega
  ·rw[h1];exact Nat.le_trans (dl _) (by decide)
 have hr:∀x,(Iw x).p:=λx=>by
  unfold Tree.p Iw
  refine df (Tree.pp (hd x)).1 (aq λx0 h0=>aw (dY ?_) trivial)
  have:(Qrk x).length<=21:=(Tree.pp (hd x)).2
  rw[<-h0]at this;simp[maxLen];omega
 refine fv (inv:=Qtu s) (μ:=Qge s) ⟨by decide,by decide⟩ (cN _) (λz hz=>?_)
 obtain⟨z1,z2⟩:=hz
 refine ae (λhb=>df (hr _) (aq λx0 _=>ae (λ_=>trivial) (λ_=>ff ?_))) (λ_=>trivial)
 have hb:=oY hb
 show(0<=i64.wrap (z+1)/\i64.wrap (z+1)<=16)/\(16-i64.wrap (z+1)).toNat<(16-z).toNat
 rw[wrap_i64];omega
def Qxf:cg:={
 α:=(Int)
 F:=λst a=>([(0,(lk st 0)),(4,.int i64 a)],[])
 a0:=λst=>(lk st 4).toInt
 jo:=λst=>[]++[]}
def Qty:List (Nat×cg):=[(2,Qxf)]
def Z0v:bc:=mS 263 [] true [.one (.str)] [] (λa r=>VN (jK a 0)) (λX=>.ee [.int .i64 (X.1),.bool (X.2)]) (λX=>[])
theorem Qlv:bm pG Z0v:=oS (.cons Zo7 (.nil)) Tryz.func263 Tryz.call263 [] Qty 3 (λ_ _ _=>by kernel_rfl) (λa r=>Qvi (jK a 0)) (λ_ X=>by kernel_rfl)
def NM(s:List UInt8):Tree Bool:=
.lv (Qja s) λ(x0:Int×Bool)=>.br (decide ((s.length:Int)>=(1:Int))) (.br (decide ((s.length:Int)<=(12:Int))) (.cn (decide ((0:Int)<=(0:Int)/\0<(s.length:Int))) (.lv (VM (↑(hY (s.getD (dA 0) (0:UInt8))):Int)) λ(x1:Bool)=>.br x1 (.lf (!x0.2)) (.lf false))) (.lf false)) (.lf false)
def Z4n s:=(NM s).m
abbrev W0 s:=(NM s).p
def Zn0:bc:=mT 229 [] true [.one (.str)] [] (λa r=>NM (jK a 0)) (λX=>.bool X) (λX=>[])
theorem Z24:bm pG Zn0:=oT (.cons Qlv (.cons Qug (.nil))) Tryz.func229 Tryz.call229 [] [] 2
def NN(op:Int):Tree (List UInt8):=
let T1:Tree ((List UInt8)):=let T3:Tree ((List UInt8)):=.br (op==48) (.lf ([(106:UInt8),97,108])) (.br (op==49) (.lf ([(106:UInt8),97,108,114])) (.br (decide (op>=56)) (.br (decide (op<=64)) (.cn (bX 1 1&&bN 0 1&&decide (0<=wrap i64 (op-56)/\wrap i64 (op-56)<(↑9:Int))) (.lf (aV [[(101:UInt8),99,97,108,108],[(101:UInt8),114,101,116],[(99:UInt8),115,114,114],[(99:UInt8),115,114,119],[(105:UInt8),110],[(111:UInt8),117,116],[(119:UInt8),102,105],[(102:UInt8),108,117,115,104],[(104:UInt8),97,108,116]] (dA (wrap i64 (op-56))) (RK.fc RK.str)))) (.lf ([]))) (.lf ([]))));.br (decide (op>=40)) (.br (decide (op<=45)) (.cn (bX 1 1&&bN 0 1&&decide (0<=wrap i64 (op-40)/\wrap i64 (op-40)<(↑6:Int))) (.lf (aV [[(98:UInt8),101,113],[(98:UInt8),110,101],[(98:UInt8),108,116],[(98:UInt8),103,101],[(98:UInt8),108,116,117],[(98:UInt8),103,101,117]] (dA (wrap i64 (op-40))) (RK.fc RK.str)))) T3) T3;let T2:Tree ((List UInt8)):=let T4:Tree ((List UInt8)):=.br (decide (op>=32)) (.br (decide (op<=36)) (.cn (bX 1 1&&bN 0 1&&decide (0<=wrap i64 (op-32)/\wrap i64 (op-32)<(↑5:Int))) (.lf (aV [[(108:UInt8),119],[(108:UInt8),98],[(108:UInt8),98,117],[(115:UInt8),119],[(115:UInt8),98]] (dA (wrap i64 (op-32))) (RK.fc RK.str)))) T1) T1;.br (decide (op>=16)) (.br (decide (op<=24)) (.cn (bX 1 1&&bN 0 1&&decide (0<=wrap i64 (op-16)/\wrap i64 (op-16)<(↑9:Int))) (.lf (aV [[(97:UInt8),100,100,105],[(97:UInt8),110,100,105],[(111:UInt8),114,105],[(120:UInt8),111,114,105],[(115:UInt8),104,108,105],[(115:UInt8),104,114,105],[(115:UInt8),97,114,105],[(115:UInt8),108,116,105],[(108:UInt8),117,105]] (dA (wrap i64 (op-16))) (RK.fc RK.str)))) T4) T4;.br (decide (op>=1)) (.br (decide (op<=13)) (.cn (bX 1 1&&bN 0 1&&decide (0<=wrap i64 (op-1)/\wrap i64 (op-1)<(↑13:Int))) (.lf (aV [[(97:UInt8),100,100],[(115:UInt8),117,98],[(97:UInt8),110,100],[(111:UInt8),114],[(120:UInt8),111,114],[(115:UInt8),104,108],[(115:UInt8),104,114],[(115:UInt8),97,114],[(109:UInt8),117,108],[(100:UInt8),105,118],[(114:UInt8),101,109],[(115:UInt8),108,116],[(115:UInt8),108,116,117]] (dA (wrap i64 (op-1))) (RK.fc RK.str)))) T2) T2
def Qxd op:=(NN op).m
abbrev Qex op:=(NN op).p
def Z87:bc:=mT 265 [] true [.one (.int .i64)] [] (λa r=>NN (au a 0)) (λX=>.str X) (λX=>[])
theorem Z2z:bm pG Z87:=oT (.nil) Tryz.func265 Tryz.call265 [] [] 2
def Qu9(s:List UInt8)(z:(Int)):Nat:=(65-z).toNat
def NO(s:List UInt8):Tree Int:=
.lp inferInstance (Qu9 s 1+1) ((rE (s:List UInt8)/\rE (1:Int)/\True)/\True) 1 λ(v0:Int)=>.br (decide (v0<=64)) (.lv (o5 v0) λ(x0:Int)=>.br (decide (x0>0)) (.an (Qex v0) (.lv (Qxd v0) λ(x1:List UInt8)=>.br (decide (x1=s)) (.lf (Sum.inr v0)) (.nx ((rE (s:List UInt8)/\rE ((wrap i64 (v0+1)):Int)/\True)/\True) (Sum.inl (wrap i64 (v0+1)))))) (.nx ((rE (s:List UInt8)/\rE ((wrap i64 (v0+1)):Int)/\True)/\True) (Sum.inl (wrap i64 (v0+1))))) (.lf (Sum.inr 0))
def Sa s:=(NO s).m
abbrev KK s:=(NO s).p
def Z10:cg:={
 α:=(Int)
 F:=λst a=>([(0,(lk st 0)),(3,.int i64 a)],[])
 a0:=λst=>(lk st 3).toInt
 jo:=λst=>[]++[]}
def Qv9:List (Nat×cg):=[(2,Z10)]
def Z37:bc:=mT 232 [] true [.one (.str)] [] (λa r=>NO (jK a 0)) (λX=>.int .i64 X) (λX=>[])
theorem Qnd:bm pG Z37:=oT (.cons R7 (.cons Z2z (.nil))) Tryz.func232 Tryz.call232 [] Qv9 3
def NQ(ey:List UInt8):Tree ((List UInt8)×Bool):=
.an (KK ey) (.lv (Sa ey) λ(x0:Int)=>.br (decide (ey=[(46:UInt8),119,111,114,100])) (.lf ([(120:UInt8)],true)) (.br (decide (ey=[(46:UInt8),115,112,97,99,101])) (.lf ([(110:UInt8)],true)) (.br (decide (ey=[(108:UInt8),105])) (.lf ([(114:UInt8),44,120],true)) (.br (decide (ey=[(109:UInt8),118])) (.lf ([(114:UInt8),44,114],true)) (.br (decide (ey=[(110:UInt8),111,112])) (.lf ([],true)) (.br (x0==0) (.lf ([],false)) (let T1:Tree (((List UInt8)×Bool)):=.br (x0==48) (.lf ([(114:UInt8),44,120],true)) (.lv (o5 x0) λ(x1:Int)=>.br (x1==1) (.lf ([],true)) (.br (x1==2) (.lf ([(114:UInt8),44,114,44,114],true)) (.br (decide (x1>=6)) (.lf ([(114:UInt8),44,110],true)) (.lf ([(114:UInt8),44,114,44,110],true)))));let T2:Tree (((List UInt8)×Bool)):=.br (decide (x0>=40)) (.br (decide (x0<=45)) (.lf ([(114:UInt8),44,114,44,120],true)) T1) T1;.br (decide (x0>=32)) (.br (decide (x0<=36)) (.lf ([(114:UInt8),44,110,40,114,41],true)) T2) T2)))))))
def VO ey:=(NQ ey).m
abbrev NP ey:=(NQ ey).p
def Z9u:bc:=mT 230 [] true [.one (.str)] [] (λa r=>NQ (jK a 0)) (λX=>.ee [.str (X.1),.bool (X.2)]) (λX=>[])
theorem Z6l:bm pG Z9u:=oT (.cons Qnd (.cons R7 (.nil))) Tryz.func230 Tryz.call230 [] [] 2
def Z18(s:List UInt8)(z:(Int)×(Int)):Nat:=(s.length-z.2).toNat
def Qnr(s:List UInt8)(z:(Int)×(Int)):Nat:=(s.length-z.2).toNat
def NR(s:List UInt8):Tree (Int×Bool):=
let E7:=decide ((0:Int)<=(0:Int)/\0<(s.length:Int));let E8:=(↑(hY (s.getD (dA 0) (0:UInt8))):Int);let T1:Tree ((Int×Bool)):=let T2:Tree ((Int×Bool)):=.br (decide (wrap i64 ((s.length:Int)-(0:Int))<1)) (.lf (0,false)) (.br (decide (wrap i64 ((s.length:Int)-(0:Int))>10)) (.lf (0,false)) (.lp inferInstance (Qnr s (0,0)+1) ((rE (s:List UInt8)/\rE (0:Int)/\rE (0:Int)/\rE (0:Int)/\True)/\True) (0,0) λ(v0:Int×Int)=>.br (decide (v0.2<(s.length:Int))) (let E9:=decide (0<=v0.2/\v0.2<(s.length:Int));.cn E9 (let E5:=(↑(hY (s.getD v0.2.toNat (0:UInt8))):Int);.lv (MP E5) λ(x2:Bool)=>.br (!x2) (.lf (Sum.inr (0,false))) (.cn E9 (.nx ((rE (s:List UInt8)/\rE (0:Int)/\rE ((wrap i64 (wrap i64 (10*v0.1)+wrap i64 (wrap u8 ((↑(hY (s.getD v0.2.toNat (0:UInt8))):Int)-(48:Int))))):Int)/\rE ((wrap i64 (v0.2+1)):Int)/\True)/\True) (Sum.inl (wrap i64 (wrap i64 (10*v0.1)+wrap i64 (wrap u8 (E5-(48:Int)))),wrap i64 (v0.2+1))))))) (.br (decide (v0.1>=(-2147483648))) (.lf (Sum.inr (v0.1,decide (v0.1<=4294967295)))) (.lf (Sum.inr (v0.1,false))))));.br (decide ((s.length:Int)>(0:Int))) (.cn E7 (.br (E8==(45:Int)) (.br (decide (wrap i64 ((s.length:Int)-(1:Int))<1)) (.lf (0,false)) (.br (decide (wrap i64 ((s.length:Int)-(1:Int))>10)) (.lf (0,false)) (.lp inferInstance (Qnr s (0,1)+1) ((rE (s:List UInt8)/\rE (1:Int)/\rE (0:Int)/\rE (1:Int)/\True)/\True) (0,1) λ(v0:Int×Int)=>.br (decide (v0.2<(s.length:Int))) (let nj:=decide (0<=v0.2/\v0.2<(s.length:Int));.cn nj (let E6:=(↑(hY (s.getD v0.2.toNat (0:UInt8))):Int);.lv (MP E6) λ(x1:Bool)=>.br (!x1) (.lf (Sum.inr (0,false))) (.cn nj (.nx ((rE (s:List UInt8)/\rE (1:Int)/\rE ((wrap i64 (wrap i64 (10*v0.1)+wrap i64 (wrap u8 ((↑(hY (s.getD v0.2.toNat (0:UInt8))):Int)-(48:Int))))):Int)/\rE ((wrap i64 (v0.2+1)):Int)/\True)/\True) (Sum.inl (wrap i64 (wrap i64 (10*v0.1)+wrap i64 (wrap u8 (E6-(48:Int)))),wrap i64 (v0.2+1))))))) (.br (decide (wrap i64 (0-v0.1)>=(-2147483648))) (.lf (Sum.inr (wrap i64 (0-v0.1),decide (wrap i64 (0-v0.1)<=4294967295)))) (.lf (Sum.inr (wrap i64 (0-v0.1),false))))))) T2)) T2;.br (decide ((s.length:Int)>(2:Int))) (.cn E7 (.br (E8==(48:Int)) (.cn (decide ((0:Int)<=(1:Int)/\1<(s.length:Int))) (.br ((↑(hY (s.getD (dA 1) (0:UInt8))):Int)==(120:Int)) (.br (decide ((s.length:Int)>(10:Int))) (.lf (0,false)) (.lp inferInstance (Z18 s (0,2)+1) ((rE (s:List UInt8)/\rE (0:Int)/\rE (2:Int)/\True)/\True) (0,2) λ(v0:Int×Int)=>.br (decide (v0.2<(s.length:Int))) (let E4:=decide (0<=v0.2/\v0.2<(s.length:Int));.cn E4 (let E3:=(↑(hY (s.getD v0.2.toNat (0:UInt8))):Int);.lv (MP E3) λ(x0:Bool)=>.br x0 (.cn E4 (.nx ((rE (s:List UInt8)/\rE ((wrap i64 (wrap i64 (16*v0.1)+wrap i64 (wrap u8 ((↑(hY (s.getD v0.2.toNat (0:UInt8))):Int)-(48:Int))))):Int)/\rE ((wrap i64 (v0.2+1)):Int)/\True)/\True) (Sum.inl (wrap i64 (wrap i64 (16*v0.1)+wrap i64 (wrap u8 (E3-(48:Int)))),wrap i64 (v0.2+1))))) (.cn E4 (.br (decide (E3>=(97:Int))) (.cn E4 (.br (decide (E3<=(102:Int))) (.cn E4 (.nx ((rE (s:List UInt8)/\rE ((wrap i64 (wrap i64 (wrap i64 (16*v0.1)+wrap i64 (wrap u8 ((↑(hY (s.getD v0.2.toNat (0:UInt8))):Int)-(97:Int))))+10)):Int)/\rE ((wrap i64 (v0.2+1)):Int)/\True)/\True) (Sum.inl (wrap i64 (wrap i64 (wrap i64 (16*v0.1)+wrap i64 (wrap u8 (E3-(97:Int))))+10),wrap i64 (v0.2+1))))) (.lf (Sum.inr (0,false))))) (.lf (Sum.inr (0,false))))))) (.lf (Sum.inr (v0.1,true))))) T1)) T1)) T1
def Z62 s:=(NR s).m
abbrev Qku s:=(NR s).p
def Zaf:cg:={
 α:=(Int)×(Int)
 F:=λst a=>([(0,(lk st 0)),(4,.int i64 a.1),(5,.int i64 a.2)],[])
 a0:=λst=>((lk st 4).toInt,(lk st 5).toInt)
 jo:=λst=>[]++[]}
def Z9d:cg:={
 α:=(Int)×(Int)
 F:=λst a=>([(0,(lk st 0)),(6,(lk st 6)),(7,.int i64 a.1),(8,.int i64 a.2)],[])
 a0:=λst=>((lk st 7).toInt,(lk st 8).toInt)
 jo:=λst=>[]++[]}
def Z2x:List (Nat×cg):=[(6,Zaf),(21,Z9d)]
def Zgz:bc:=mT 264 [] true [.one (.str)] [] (λa r=>NR (jK a 0)) (λX=>.ee [.int .i64 (X.1),.bool (X.2)]) (λX=>[])
theorem Zar:bm pG Zgz:=oT (.cons Qwb (.nil)) Tryz.func264 Tryz.call264 [] Z2x 3
def Qwu(l:List ll)(p:List UInt8)(z:(Int)×(List nM)):Nat:=(l.length-z.1).toNat
def NT(l:List ll)(p:List UInt8):Tree ((List nM)×Bool):=
.br ((l.length:Int) !=(p.length:Int)) (.lf ([],false)) (.lp inferInstance (Qwu l p (0,[])+1) ((nR RK.av 3 l/\rE (p:List UInt8)/\True/\rE (0:Int)/\True)/\rE ([]:List (RK.T RK.ax))/\True) (0,[]) λ(v0:Int×List nM)=>.br (decide (v0.1<(l.length:Int))) (.cn (bX 3 3&&bN 0 3&&decide (0<=v0.1/\v0.1<(l.length:Int))) (let E6:=decide (0<=v0.1/\v0.1<(p.length:Int));.cn E6 (let E3:=l.getD v0.1.toNat (RK.fc RK.av);let E4:=(↑(hY (p.getD v0.1.toNat (0:UInt8))):Int);let E5:=decide (32*(v0.2.length+1)<=140737488355328);.br (E4==(114:Int)) (.lv (Qja E3.F3) λ(x0:Int×Bool)=>.br (E3.kind !=1) (.lf (Sum.inr ([],false))) (.br (!x0.2) (.lf (Sum.inr ([],false))) (.cn E5 (.nx ((nR RK.av 3 l/\rE (p:List UInt8)/\True/\rE ((wrap i64 (v0.1+1)):Int)/\True)/\rE ((v0.2++[{kJ:=x0.1,num:=0,label:=[]}]):List (RK.T RK.ax))/\True) (Sum.inl (wrap i64 (v0.1+1),v0.2++[{kJ:=x0.1,num:=0,label:=[]}])))))) (let T1:Tree ((Int×List nM)⊕(((List nM)×Bool))):=.an (Qku E3.F3) (.lv (Z62 E3.F3) λ(x2:Int×Bool)=>.br (E3.kind !=2) (.lf (Sum.inr ([],false))) (.br (!x2.2) (.lf (Sum.inr ([],false))) (.cn E5 (.nx ((nR RK.av 3 l/\rE (p:List UInt8)/\True/\rE ((wrap i64 (v0.1+1)):Int)/\True)/\rE ((v0.2++[{kJ:=0,num:=x2.1,label:=[]}]):List (RK.T RK.ax))/\True) (Sum.inl (wrap i64 (v0.1+1),v0.2++[{kJ:=0,num:=x2.1,label:=[]}]))))));let T2:Tree ((Int×List nM)⊕(((List nM)×Bool))):=.cn E6 (.br (E4==(120:Int)) (.br (E3.kind==1) (.an (W0 E3.F3) (.lv (Z4n E3.F3) λ(x1:Bool)=>.br x1 (.cn E5 (.nx ((nR RK.av 3 l/\rE (p:List UInt8)/\True/\rE ((wrap i64 (v0.1+1)):Int)/\True)/\rE ((v0.2++[{kJ:=0,num:=0,label:=(l.getD v0.1.toNat (RK.fc RK.av)).F3}]):List (RK.T RK.ax))/\True) (Sum.inl (wrap i64 (v0.1+1),v0.2++[{kJ:=0,num:=0,label:=E3.F3}])))) T1)) T1) T1);.br (E4==(110:Int)) T2 (.br (E4==(120:Int)) T2 (.br (E3.kind !=3) (.lf (Sum.inr ([],false))) (.cn (decide (0<=v0.1/\v0.1<=wrap i64 (v0.1+1)/\wrap i64 (v0.1+1)<=(p.length:Int))) (.br (!decide (E3.F3=cU (dA (wrap i64 (v0.1+1))-dA v0.1) (cV v0.1.toNat p))) (.lf (Sum.inr ([],false))) (.nx ((nR RK.av 3 l/\rE (p:List UInt8)/\True/\rE ((wrap i64 (v0.1+1)):Int)/\True)/\rE v0.2/\True) (Sum.inl (wrap i64 (v0.1+1),v0.2))))))))))) (.lf (Sum.inr (v0.2,true))))
def VP l p:=(NT l p).m
abbrev NS l p:=(NT l p).p
def Z8:cg:={
 α:=(Int)×(List nM)
 F:=λst a=>([(0,(lk st 0)),(1,(lk st 1)),(6,.all 0),(7,.int i64 a.1)],[⟨false,179,3,.ah RK.ax a.2⟩])
 a0:=λst=>((lk st 7).toInt,(oX RK.ax st.rows (rN st 6)))
 jo:=λst=>[]++[(rX st 6 0)]}
def Z0:List (Nat×cg):=[(5,Z8)]
def Zac:bc:=mT 231 [] true [.one (.ah .av),.one (.str)] [] (λa r=>NT (kM .av a 0) (jK a 1)) (λX=>.ee [.all 0,.bool (X.2)]) (λX=>[⟨false,179,3,.ah .ax (X.1)⟩])
theorem Z83:bm pG Zac:=oT (.cons Qlv (.cons Z24 (.cons Zar (.nil)))) Tryz.func231 Tryz.call231 [.row 179 3 (.ah .ax)] Z0 3
def Z15(s:List UInt8)(z:(List UInt8)×(Int)):Nat:=(s.length-z.2).toNat
def NU(s:List UInt8):Tree ((List UInt8)×kE×Bool):=
.lp inferInstance (Z15 s (s,0)+1) ((rE (s:List UInt8)/\rE ([]:List UInt8)/\rZ/\rE (false:Bool)/\rE (0:Int)/\True)/\(rE ([]:List UInt8)/\rE (0:Int)/\True/\rE (0:Int)/\rE (0:Int)/\rE (0:Int)/\True)/\True) (s,0) λ(v0:List UInt8×Int)=>.br (decide (v0.2<(v0.1.length:Int))) (.cn (decide (0<=v0.2/\v0.2<(v0.1.length:Int))) (.br ((↑(hY (v0.1.getD v0.2.toNat (0:UInt8))):Int)==(59:Int)) (.cn (decide ((0:Int)<=(0:Int)/\0<=v0.2/\v0.2<=(v0.1.length:Int))) (.nx ((rE ((cU (dA v0.2-dA 0) (cV (dA 0) v0.1)):List UInt8)/\rE ([]:List UInt8)/\rZ/\rE (false:Bool)/\rE ((wrap i64 (v0.2+1)):Int)/\True)/\(rE ([]:List UInt8)/\rE (0:Int)/\True/\rE (0:Int)/\rE (0:Int)/\rE (0:Int)/\True)/\True) (Sum.inl (cU (dA v0.2-dA 0) (cV (dA 0) v0.1),wrap i64 (v0.2+1))))) (.nx ((rE v0.1/\rE ([]:List UInt8)/\rZ/\rE (false:Bool)/\rE ((wrap i64 (v0.2+1)):Int)/\True)/\(rE ([]:List UInt8)/\rE (0:Int)/\True/\rE (0:Int)/\rE (0:Int)/\rE (0:Int)/\True)/\True) (Sum.inl (v0.1,wrap i64 (v0.2+1)))))) (.an (Qkm v0.1) (.lv (Z8b v0.1) λ(x0:List ll×Bool)=>.br (!x0.2) (.lf (Sum.inr ([],{ey:=[],op:=0,l:=[],F4:=0,at_:=0,size:=0},false))) (let E9:=x0.1.getD (dA 0) (RK.fc RK.av);let T1:Tree ((List UInt8×Int)⊕(((List UInt8)×kE×Bool))):=.an (NP E9.F3) (.lv (VO E9.F3) λ(x27:List UInt8×Bool)=>.br (!x27.2) (.lf (Sum.inr ([],{ey:=[],op:=0,l:=[],F4:=0,at_:=0,size:=0},false))) (let E20:=dA (x0.1.length:Int)-dA 1;let T6:Tree ((List UInt8×Int)⊕(((List UInt8)×kE×Bool))):=let E31:=cU E20 (cV (dA 1) x0.1);.an (NS E31 x27.1) (.lv (VP E31 x27.1) λ(MR:List nM×Bool)=>.br (!MR.2) (.lf (Sum.inr ([],{ey:=[],op:=0,l:=[],F4:=0,at_:=0,size:=0},false))) (.an (KK E9.F3) (.lv (Sa E9.F3) λ(x29:Int)=>.br (decide (E9.F3=[(108:UInt8),105])) (.lf (Sum.inr ([],{ey:=E9.F3,op:=x29,l:=MR.1,F4:=0,at_:=0,size:=2},true))) (.br (decide (E9.F3=[(46:UInt8),115,112,97,99,101])) (let Bx:=bX 3 3&&bN 0 3&&decide ((0:Int)<=(0:Int)/\0<(MR.1.length:Int));.cn Bx (let E21:=MR.1.getD (dA 0) (RK.fc RK.ax);.br (decide (E21.num<0)) (.lf (Sum.inr ([],{ey:=[],op:=0,l:=[],F4:=0,at_:=0,size:=0},false))) (.cn Bx (.br (decide (E21.num>1024)) (.lf (Sum.inr ([],{ey:=[],op:=0,l:=[],F4:=0,at_:=0,size:=0},false))) (.cn Bx (.lf (Sum.inr ([],{ey:=E9.F3,op:=x29,l:=MR.1,F4:=0,at_:=0,size:=E21.num},true)))))))) (.lf (Sum.inr ([],{ey:=E9.F3,op:=x29,l:=MR.1,F4:=0,at_:=0,size:=1},true)))))));.br (decide ((↑E20:Int)>(0:Int))) (.cn (bX 3 3&&bN 0 3&&decide ((0:Int)<=(0:Int)/\0<(↑E20:Int))) (.br (!(x0.1.getD (dA 1+dA 0) (RK.fc RK.av)).Af) (.lf (Sum.inr ([],{ey:=[],op:=0,l:=[],F4:=0,at_:=0,size:=0},false))) T6)) T6));let E25:=dA (x0.1.length:Int)-dA 2;let E8:=(↑E25:Int);let nj:=x0.1.getD (dA 2+dA 0) (RK.fc RK.av);let pk:=x0.1.getD (dA 1) (RK.fc RK.av);let E16:=bX 3 3&&bN 0 3&&decide ((0:Int)<=(0:Int)/\0<(x0.1.length:Int));let E17:=bX 3 3&&bN 0 3&&decide ((0:Int)<=(1:Int)/\1<(x0.1.length:Int));let E19:=bX 3 3&&bN 0 3&&decide ((0:Int)<=(2:Int)/\2<=(x0.1.length:Int)/\(x0.1.length:Int)<=(x0.1.length:Int));let E28:=bX 3 3&&bN 0 3&&decide ((0:Int)<=(0:Int)/\0<E8);let E30:=decide ((x0.1.length:Int)>=(2:Int));let T3:Tree ((List UInt8×Int)⊕(((List UInt8)×kE×Bool))):=.br ((x0.1.length:Int)==(0:Int)) (.lf (Sum.inr ([],{ey:=[],op:=0,l:=[],F4:=0,at_:=0,size:=0},true))) (.cn E16 (.cn (bX 3 3&&bN 0 3&&decide ((0:Int)<=(1:Int)/\1<=(x0.1.length:Int)/\(x0.1.length:Int)<=(x0.1.length:Int))) (.br (decide (E9.F3=[(46:UInt8)])) (.br E30 (.cn E17 (.br (!pk.Af) (.cn E17 (.cn (decide (1+dF pk.F3<=maxLen)) (.cn E19 (.an (NP ((46:UInt8)::pk.F3)) (.lv (VO ([(46:UInt8)]++pk.F3)) λ(x22:List UInt8×Bool)=>.br (!x22.2) (.lf (Sum.inr ([],{ey:=[],op:=0,l:=[],F4:=0,at_:=0,size:=0},false))) (let T7:Tree ((List UInt8×Int)⊕(((List UInt8)×kE×Bool))):=let E32:=cU E25 (cV (dA 2) x0.1);.an (NS E32 x22.1) (.lv (VP E32 x22.1) λ(Sb:List nM×Bool)=>.br (!Sb.2) (.lf (Sum.inr ([],{ey:=[],op:=0,l:=[],F4:=0,at_:=0,size:=0},false))) (.an (KK ((46:UInt8)::pk.F3)) (.lv (Sa ([(46:UInt8)]++pk.F3)) λ(En:Int)=>.br (decide ([(46:UInt8)]++pk.F3=[(46:UInt8),115,112,97,99,101])) (let HL:=bX 3 3&&bN 0 3&&decide ((0:Int)<=(0:Int)/\0<(Sb.1.length:Int));.cn HL (let E22:=Sb.1.getD (dA 0) (RK.fc RK.ax);.br (decide (E22.num<0)) (.lf (Sum.inr ([],{ey:=[],op:=0,l:=[],F4:=0,at_:=0,size:=0},false))) (.cn HL (.br (decide (E22.num>1024)) (.lf (Sum.inr ([],{ey:=[],op:=0,l:=[],F4:=0,at_:=0,size:=0},false))) (.cn HL (.lf (Sum.inr ([],{ey:=(46:UInt8)::pk.F3,op:=En,l:=Sb.1,F4:=0,at_:=0,size:=E22.num},true)))))))) (.lf (Sum.inr ([],{ey:=(46:UInt8)::pk.F3,op:=En,l:=Sb.1,F4:=0,at_:=0,size:=1},true))))));.br (decide (E8>(0:Int))) (.cn E28 (.br (!nj.Af) (.lf (Sum.inr ([],{ey:=[],op:=0,l:=[],F4:=0,at_:=0,size:=0},false))) T7)) T7)))))) T1)) T1) T1)));.br E30 (.cn E17 (.br (decide (pk.F3=[(58:UInt8)])) (.cn E16 (.cn E16 (.br (E9.kind !=1) (.lf (Sum.inr ([],{ey:=[],op:=0,l:=[],F4:=0,at_:=0,size:=0},false))) (.an (W0 E9.F3) (.lv (Z4n E9.F3) λ(x1:Bool)=>.br (!x1) (.lf (Sum.inr ([],{ey:=[],op:=0,l:=[],F4:=0,at_:=0,size:=0},false))) (.cn E19 (.br (E8==(0:Int)) (.lf (Sum.inr (E9.F3,{ey:=[],op:=0,l:=[],F4:=0,at_:=0,size:=0},true))) (.cn E28 (.cn (bX 3 3&&bN 0 3&&decide ((0:Int)<=(1:Int)/\1<=E8/\E8<=E8)) (let T2:Tree ((List UInt8×Int)⊕(((List UInt8)×kE×Bool))):=.an (NP nj.F3) (.lv (VO nj.F3) λ(x7:List UInt8×Bool)=>.br (!x7.2) (.lf (Sum.inr ([],{ey:=[],op:=0,l:=[],F4:=0,at_:=0,size:=0},false))) (let T4:Tree ((List UInt8×Int)⊕(((List UInt8)×kE×Bool))):=let E26:=cU (dA E8-dA 1) (cV (dA 2+dA 1) x0.1);.an (NS E26 x7.1) (.lv (VP E26 x7.1) λ(x8:List nM×Bool)=>.br (!x8.2) (.lf (Sum.inr ([],{ey:=[],op:=0,l:=[],F4:=0,at_:=0,size:=0},false))) (.an (KK nj.F3) (.lv (Sa nj.F3) λ(x9:Int)=>.br (decide (nj.F3=[(108:UInt8),105])) (.lf (Sum.inr (E9.F3,{ey:=nj.F3,op:=x9,l:=x8.1,F4:=0,at_:=0,size:=2},true))) (.br (decide (nj.F3=[(46:UInt8),115,112,97,99,101])) (let HM:=bX 3 3&&bN 0 3&&decide ((0:Int)<=(0:Int)/\0<(x8.1.length:Int));.cn HM (let E23:=x8.1.getD (dA 0) (RK.fc RK.ax);.br (decide (E23.num<0)) (.lf (Sum.inr ([],{ey:=[],op:=0,l:=[],F4:=0,at_:=0,size:=0},false))) (.cn HM (.br (decide (E23.num>1024)) (.lf (Sum.inr ([],{ey:=[],op:=0,l:=[],F4:=0,at_:=0,size:=0},false))) (.cn HM (.lf (Sum.inr (E9.F3,{ey:=nj.F3,op:=x9,l:=x8.1,F4:=0,at_:=0,size:=E23.num},true)))))))) (.lf (Sum.inr (E9.F3,{ey:=nj.F3,op:=x9,l:=x8.1,F4:=0,at_:=0,size:=1},true)))))));.br (decide ((↑(dA E8-dA 1):Int)>(0:Int))) (.cn (bX 3 3&&bN 0 3&&decide ((0:Int)<=(0:Int)/\0<(↑(dA E8-dA 1):Int))) (.br (!(x0.1.getD (dA 2+dA 1+dA 0) (RK.fc RK.av)).Af) (.lf (Sum.inr ([],{ey:=[],op:=0,l:=[],F4:=0,at_:=0,size:=0},false))) T4)) T4));.br (decide (nj.F3=[(46:UInt8)])) (.br (decide (E8>=(2:Int))) (let E29:=bX 3 3&&bN 0 3&&decide ((0:Int)<=(1:Int)/\1<E8);.cn E29 (let oe:=x0.1.getD (dA 2+dA 1) (RK.fc RK.av);.br (!oe.Af) (.cn E29 (.cn (decide (1+dF oe.F3<=maxLen)) (.cn (bX 3 3&&bN 0 3&&decide ((0:Int)<=(2:Int)/\2<=E8/\E8<=E8)) (.an (NP ((46:UInt8)::oe.F3)) (.lv (VO ([(46:UInt8)]++oe.F3)) λ(x2:List UInt8×Bool)=>.br (!x2.2) (.lf (Sum.inr ([],{ey:=[],op:=0,l:=[],F4:=0,at_:=0,size:=0},false))) (let T5:Tree ((List UInt8×Int)⊕(((List UInt8)×kE×Bool))):=let E27:=cU (dA E8-dA 2) (cV (dA 2+dA 2) x0.1);.an (NS E27 x2.1) (.lv (VP E27 x2.1) λ(x3:List nM×Bool)=>.br (!x3.2) (.lf (Sum.inr ([],{ey:=[],op:=0,l:=[],F4:=0,at_:=0,size:=0},false))) (.an (KK ((46:UInt8)::oe.F3)) (.lv (Sa ([(46:UInt8)]++oe.F3)) λ(x4:Int)=>.br (decide ([(46:UInt8)]++oe.F3=[(46:UInt8),115,112,97,99,101])) (let E18:=bX 3 3&&bN 0 3&&decide ((0:Int)<=(0:Int)/\0<(x3.1.length:Int));.cn E18 (let E24:=x3.1.getD (dA 0) (RK.fc RK.ax);.br (decide (E24.num<0)) (.lf (Sum.inr ([],{ey:=[],op:=0,l:=[],F4:=0,at_:=0,size:=0},false))) (.cn E18 (.br (decide (E24.num>1024)) (.lf (Sum.inr ([],{ey:=[],op:=0,l:=[],F4:=0,at_:=0,size:=0},false))) (.cn E18 (.lf (Sum.inr (E9.F3,{ey:=(46:UInt8)::oe.F3,op:=x4,l:=x3.1,F4:=0,at_:=0,size:=E24.num},true)))))))) (.lf (Sum.inr (E9.F3,{ey:=(46:UInt8)::oe.F3,op:=x4,l:=x3.1,F4:=0,at_:=0,size:=1},true))))));.br (decide ((↑(dA E8-dA 2):Int)>(0:Int))) (.cn (bX 3 3&&bN 0 3&&decide ((0:Int)<=(0:Int)/\0<(↑(dA E8-dA 2):Int))) (.br (!(x0.1.getD (dA 2+dA 2+dA 0) (RK.fc RK.av)).Af) (.lf (Sum.inr ([],{ey:=[],op:=0,l:=[],F4:=0,at_:=0,size:=0},false))) T5)) T5)))))) T2)) T2) T2)))))))))) T3)) T3)))
def Z4m s:=(NU s).m
abbrev Qj5 s:=(NU s).p
def Zay:cg:={
 α:=(List UInt8)×(Int)
 F:=λst a=>([(0,.str a.1),(2,(lk st 2)),(3,.ptr 0 0 0),(4,(lk st 4)),(5,.int i64 a.2)],[⟨true,177,6,.gen [[(cT st 3 0),(cT st 3 1),(cT st 3 2),(cT st 3 3),(cT st 3 4),(cT st 3 5)]]⟩])
 a0:=λst=>((lk st 0).toStr,(lk st 5).toInt)
 jo:=λst=>[]++[(rX st 3 0)]}
def Z2l:List (Nat×cg):=[(2,Zay)]
def Zgu:bc:=mT 176 [] false [.one (.str)] [] (λa r=>NU (jK a 0)) (λX=>.ee [.str (X.1),.agg (kE.cells (X.2.1)),.bool (X.2.2)]) (λX=>[])
theorem Z9k:bm pG Zgu:=oT (.cons Z99 (.cons Z24 (.cons Z6l (.cons Z83 (.cons Qnd (.nil)))))) Tryz.func176 Tryz.call176 [.sl (.ah .ax) false] Z2l 3 (jB:=nofun)
def Qmy(l:List ot)(label:List UInt8)(z:(Int)):Prop:=0<=z/\z<=l.length
def Qdw(l:List ot)(label:List UInt8)(z:(Int)):Nat:=(l.length-z).toNat
def VQ(l:List ot)(label:List UInt8):Tree (Int×Bool):=
.lp inferInstance (Qdw l label 0+1) ((nR RK.dx 2 l/\rE (label:List UInt8)/\rE (0:Int)/\True)/\True) 0 λ(v0:Int)=>.br (decide (v0<(l.length:Int))) (let E1:=bX 2 2&&bN 0 2&&decide (0<=v0/\v0<(l.length:Int));.cn E1 (let E2:=l.getD v0.toNat (RK.fc RK.dx);.br (decide (E2.Name=label)) (.cn E1 (.lf (Sum.inr (E2.Addr,true)))) (.nx ((nR RK.dx 2 l/\rE (label:List UInt8)/\rE ((wrap i64 (v0+1)):Int)/\True)/\True) (Sum.inl (wrap i64 (v0+1)))))) (.lf (Sum.inr (0,false)))
def Qrr l label:=(VQ l label).m
def GC(l:List ot)(label:List UInt8):Prop:=
l.length<=1000000000000
theorem Z3o(l:List ot)(label:List UInt8)(hw:GC l label):(VQ l label).p:=by
 simp only[GC]at hw
 unfold Tree.p VQ
 repeat'(first|refine fv (inv:=Qmy l label) (μ:=Qdw l label) ?_ (cN _) (λ_ _=>?_)|exact trivial|refine ae (λ_=>?_) (λ_=>?_)|refine aw ?_ ?_|refine df ?_ ?_|refine aq (λ_ _=>?_)|refine ff ?_|refine bh ?_|refine And.intro ?_ ?_)
 all_goals((try simp only[Qmy,Qdw]at*);exact nY)
def Z4h:cg:={
 α:=(Int)
 F:=λst a=>([(0,(lk st 0)),(1,(lk st 1)),(6,.int i64 a)],[])
 a0:=λst=>(lk st 6).toInt
 jo:=λst=>[]++[]}
def Z0g:List (Nat×cg):=[(2,Z4h)]
def Z97:bc:=lF 124 [] true [.one (.ah .dx),.one (.str)] [] (λa r=>GC (kM .dx a 0) (jK a 1)) (λa r=>Qrr (kM .dx a 0) (jK a 1)) (λX=>.ee [.int .u32 (X.1),.bool (X.2)]) (λX=>[])
theorem Qsu:bm pG Z97:=wa drawn jG (.nil) Tryz.func124 Tryz.call124 (λa r=>VQ (kM .dx a 0) (jK a 1)) [] Z0g 3 (hp:=λa r h=>Z3o (kM .dx a 0) (jK a 1) h)
def Z8v(src:List UInt8)(z:(Int)×(Int)×(List ot)×(List kE)):Nat:=((Qzr src).length-z.2.1).toNat
def NV(src:List UInt8):Tree ((List ot)×(List kE)×tG):=
.br (decide ((src.length:Int)>(8192:Int))) (.lf ([],[],{Ae:=300,nL:=0})) (.an (Qma src) (.lv (Qzr src) λ(x0:List (List UInt8))=>.lp inferInstance (Z8v src (0,0,[],[])+1) ((rZ/\True/\True/\rE (0:Int)/\True/\rE (0:Int)/\True)/\(rE (0:Int)/\rE (0:Int)/\True)/\rE (x0:List (RK.T RK.str))/\rE ([]:List (RK.T RK.dx))/\rE ([]:List (RK.T RK.ak))/\True) (0,0,[],[]) λ(v0:Int×Int×List ot×List kE)=>.br (decide (v0.2.1<(x0.length:Int))) (.cn (bX 1 1&&bN 0 1&&decide (0<=v0.2.1/\v0.2.1<(x0.length:Int))) (let E3:=x0.getD v0.2.1.toNat (RK.fc RK.str);.an (Qj5 E3) (.lv (Z4m E3) λ(x1:List UInt8×kE×Bool)=>.br (!x1.2.2) (.lf (Sum.inr ([],[],{Ae:=301,nL:=wrap i64 (v0.2.1+1)}))) (let E1:=({Ae:=305,nL:=wrap i64 (v0.2.1+1)}:tG);let E2:=decide (72*(v0.2.2.2.length+1)<=140737488355328);let E4:=decide (wrap i64 (v0.1+x1.2.1.size)>1024);.br (!decide (x1.1=[])) (.an (GC v0.2.2.1 x1.1) (.lv (Qrr v0.2.2.1 x1.1) λ(x2:Int×Bool)=>.br x2.2 (.lf (Sum.inr ([],[],{Ae:=303,nL:=wrap i64 (v0.2.1+1)}))) (.cn (decide (24*(v0.2.2.1.length+1)<=140737488355328)) (let E5:=({Name:=x1.1,Addr:=wrap u32 (wrap i64 (4*v0.1))}:ot);.br (!decide (x1.2.1.ey=[])) (.cn E2 (.br E4 (.lf (Sum.inr ([],[],E1))) (.nx ((rZ/\True/\True/\rE ((wrap i64 (v0.1+x1.2.1.size)):Int)/\True/\rE ((wrap i64 (v0.2.1+1)):Int)/\True)/\(rE (0:Int)/\rE (0:Int)/\True)/\rE (x0:List (RK.T RK.str))/\rE ((v0.2.2.1++[{Name:=x1.1,Addr:=wrap u32 (wrap i64 (4*v0.1))}]):List (RK.T RK.dx))/\rE ((v0.2.2.2++[{ey:=x1.2.1.ey,op:=x1.2.1.op,l:=x1.2.1.l,F4:=wrap i64 (v0.2.1+1),at_:=v0.1,size:=x1.2.1.size}]):List (RK.T RK.ak))/\True) (Sum.inl (wrap i64 (v0.1+x1.2.1.size),wrap i64 (v0.2.1+1),v0.2.2.1++[E5],v0.2.2.2++[{ey:=x1.2.1.ey,op:=x1.2.1.op,l:=x1.2.1.l,F4:=wrap i64 (v0.2.1+1),at_:=v0.1,size:=x1.2.1.size}]))))) (.br (decide (v0.1>1024)) (.lf (Sum.inr ([],[],E1))) (.nx ((rZ/\True/\True/\rE v0.1/\True/\rE ((wrap i64 (v0.2.1+1)):Int)/\True)/\(rE (0:Int)/\rE (0:Int)/\True)/\rE (x0:List (RK.T RK.str))/\rE ((v0.2.2.1++[{Name:=x1.1,Addr:=wrap u32 (wrap i64 (4*v0.1))}]):List (RK.T RK.dx))/\rE v0.2.2.2/\True) (Sum.inl (v0.1,wrap i64 (v0.2.1+1),v0.2.2.1++[E5],v0.2.2.2)))))))) (.br (!decide (x1.2.1.ey=[])) (.cn E2 (.br E4 (.lf (Sum.inr ([],[],E1))) (.nx ((rZ/\True/\True/\rE ((wrap i64 (v0.1+x1.2.1.size)):Int)/\True/\rE ((wrap i64 (v0.2.1+1)):Int)/\True)/\(rE (0:Int)/\rE (0:Int)/\True)/\rE (x0:List (RK.T RK.str))/\rE v0.2.2.1/\rE ((v0.2.2.2++[{ey:=x1.2.1.ey,op:=x1.2.1.op,l:=x1.2.1.l,F4:=wrap i64 (v0.2.1+1),at_:=v0.1,size:=x1.2.1.size}]):List (RK.T RK.ak))/\True) (Sum.inl (wrap i64 (v0.1+x1.2.1.size),wrap i64 (v0.2.1+1),v0.2.2.1,v0.2.2.2++[{ey:=x1.2.1.ey,op:=x1.2.1.op,l:=x1.2.1.l,F4:=wrap i64 (v0.2.1+1),at_:=v0.1,size:=x1.2.1.size}]))))) (.br (decide (v0.1>1024)) (.lf (Sum.inr ([],[],E1))) (.nx ((rZ/\True/\True/\rE v0.1/\True/\rE ((wrap i64 (v0.2.1+1)):Int)/\True)/\(rE (0:Int)/\rE (0:Int)/\True)/\rE (x0:List (RK.T RK.str))/\rE v0.2.2.1/\rE v0.2.2.2/\True) (Sum.inl (v0.1,wrap i64 (v0.2.1+1),v0.2.2.1,v0.2.2.2))))))))) (.lf (Sum.inr (v0.2.2.1,v0.2.2.2,{Ae:=0,nL:=0})))))
def Z5c src:=(NV src).m
abbrev Qo0 src:=(NV src).p
def Zia:cg:={
 α:=(Int)×(Int)×(List ot)×(List kE)
 F:=λst a=>([(4,.ptr 0 0 0),(5,.all 2),(6,.all 3),(7,.int i64 a.1),(8,.all 1),(9,.int i64 a.2.1)],[⟨true,120,2,.gen [[(cT st 4 0),(cT st 4 1)]]⟩,⟨false,9,1,na st.rows (rN st 8)⟩,⟨false,243,2,.ah RK.dx a.2.2.1⟩,⟨false,177,6,.ah RK.ak a.2.2.2⟩])
 a0:=λst=>((lk st 7).toInt,(lk st 9).toInt,(oX RK.dx st.rows (rN st 5)),(oX RK.ak st.rows (rN st 6)))
 jo:=λst=>[]++[(rX st 4 0),(rX st 8 1),(rX st 5 2),(rX st 6 3)]}
def Zam:List (Nat×cg):=[(8,Zia)]
def Zm5:bc:=mT 123 [] false [.one (.str)] [] (λa r=>NV (jK a 0)) (λX=>.ee [.all 0,.all 1,.agg (tG.cells (X.2.2))]) (λX=>[⟨false,243,2,.ah .dx (X.1)⟩,⟨false,177,6,.ah .ak (X.2.1)⟩])
theorem Zjo:bm pG Zm5:=oT (.cons Zf7 (.cons Z9k (.cons Qsu (.nil)))) Tryz.func123 Tryz.call123 [.row 243 2 (.ah .dx),.row 177 6 (.ah .ak)] Zam 3 (jB:=nofun)
def NX(st:kE)(v:Int):Tree (Int×Bool):=
.lv (o5 st.op) λ(x0:Int)=>.lv (Xo x0) λ(x1:Int×Int)=>let E7:=st.l.getD (dA 0) (RK.fc RK.ax);let E8:=st.l.getD (dA 1) (RK.fc RK.ax);let E9:=bX 3 3&&bN 0 3&&decide ((0:Int)<=(0:Int)/\0<(st.l.length:Int));let nj:=bX 3 3&&bN 0 3&&decide ((0:Int)<=(1:Int)/\1<(st.l.length:Int));let oe:=st.l.getD (dA 2) (RK.fc RK.ax);let pk:=bX 3 3&&bN 0 3&&decide ((0:Int)<=(2:Int)/\2<(st.l.length:Int));.br (x0==2) (.cn E9 (.cn nj (.cn pk (let T2:Tree ((Int×Bool)):=.br (decide (0<x1.1)) (.lf (0,false)) (.br (decide (0>x1.2)) (.lf (0,false)) (.lv (oZ {Op:=st.op,A:=E7.kJ,B:=E8.kJ,C:=oe.kJ,bz:=wrap i32 0}) λ(x2:Int×Bool)=>.lf (x2.1,x2.2)));.br (x0==2) T2 (.br (x0==1) T2 (.br (decide (v<x1.1)) (.lf (0,false)) (.br (decide (v>x1.2)) (.lf (0,false)) (.lv (oZ {Op:=st.op,A:=E7.kJ,B:=E8.kJ,C:=oe.kJ,bz:=wrap i32 v}) λ(x4:Int×Bool)=>.lf (x4.1,x4.2))))))))) (let T1:Tree ((Int×Bool)):=.br (decide (x0>=6)) (.cn E9 (let T5:Tree ((Int×Bool)):=.br (decide (0<x1.1)) (.lf (0,false)) (.br (decide (0>x1.2)) (.lf (0,false)) (.lv (oZ {Op:=st.op,A:=E7.kJ,B:=0,C:=0,bz:=wrap i32 0}) λ(x8:Int×Bool)=>.lf (x8.1,x8.2)));.br (x0==2) T5 (.br (x0==1) T5 (.br (decide (v<x1.1)) (.lf (0,false)) (.br (decide (v>x1.2)) (.lf (0,false)) (.lv (oZ {Op:=st.op,A:=E7.kJ,B:=0,C:=0,bz:=wrap i32 v}) λ(kj:Int×Bool)=>.lf (kj.1,kj.2))))))) (.br (x0 !=1) (.cn E9 (.cn nj (let T3:Tree ((Int×Bool)):=.br (decide (0<x1.1)) (.lf (0,false)) (.br (decide (0>x1.2)) (.lf (0,false)) (.lv (oZ {Op:=st.op,A:=E7.kJ,B:=E8.kJ,C:=0,bz:=wrap i32 0}) λ(lY:Int×Bool)=>.lf (lY.1,lY.2)));.br (x0==2) T3 (.br (x0==1) T3 (.br (decide (v<x1.1)) (.lf (0,false)) (.br (decide (v>x1.2)) (.lf (0,false)) (.lv (oZ {Op:=st.op,A:=E7.kJ,B:=E8.kJ,C:=0,bz:=wrap i32 v}) λ(oD:Int×Bool)=>.lf (oD.1,oD.2)))))))) (let T6:Tree ((Int×Bool)):=.br (decide (0<x1.1)) (.lf (0,false)) (.br (decide (0>x1.2)) (.lf (0,false)) (.lv (oZ {Op:=st.op,A:=0,B:=0,C:=0,bz:=wrap i32 0}) λ(nE:Int×Bool)=>.lf (nE.1,nE.2)));.br (x0==2) T6 (.br (x0==1) T6 (.br (decide (v<x1.1)) (.lf (0,false)) (.br (decide (v>x1.2)) (.lf (0,false)) (.lv (oZ {Op:=st.op,A:=0,B:=0,C:=0,bz:=wrap i32 v}) λ(pI:Int×Bool)=>.lf (pI.1,pI.2)))))));.br (decide (st.op>=32)) (.br (decide (st.op<=36)) (.cn E9 (.cn pk (.cn nj (let T4:Tree ((Int×Bool)):=.br (decide (0<x1.1)) (.lf (0,false)) (.br (decide (0>x1.2)) (.lf (0,false)) (.lv (oZ {Op:=st.op,A:=E7.kJ,B:=oe.kJ,C:=0,bz:=wrap i32 0}) λ(x5:Int×Bool)=>.lf (x5.1,x5.2)));.br (x0==2) T4 (.br (x0==1) T4 (.br (decide (E8.num<x1.1)) (.lf (0,false)) (.br (decide (E8.num>x1.2)) (.lf (0,false)) (.lv (oZ {Op:=st.op,A:=E7.kJ,B:=oe.kJ,C:=0,bz:=wrap i32 E8.num}) λ(x7:Int×Bool)=>.lf (x7.1,x7.2))))))))) T1) T1)
def VR st v:=(NX st v).m
abbrev NW st v:=(NX st v).p
def Zmh:bc:=mT 126 [] true [.agg kE.sig,.one (.int .i64)] [] (λa r=>NX (kE.of (aC a 0)) (au a 1)) (λX=>.ee [.int .u32 (X.1),.bool (X.2)]) (λX=>[])
theorem Zik:bm pG Zmh:=oT (.cons R7 (.cons Quy (.cons Qmg (.nil)))) Tryz.func126 Tryz.call126 [] [] 2

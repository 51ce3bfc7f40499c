import Derived.Test.YthjfindbamdacaaGreatDoorAuditFindsYz
open UInt8 renaming toNat->eW,ofNat->eX
open List renaming take->dB,drop->dC,length->dK,getD->aK
open Int renaming toNat->dF,tdiv->eU
open Nat renaming lt_succ_self->cO,beq->bT,blt->bJ
set_option maxRecDepth 100000
set_option linter.all false
namespace Go.Proofs.YthjfindbamdacaaGreatDoor
open Go Go.GD Go.IntKind
noncomputable section
instance RZ {α β:Type} [Inhabited β]:Inhabited (α⊕β):=⟨.inr default⟩
def Qzv(src:List UInt8)(z:(Int)×(Int)×(List (List UInt8))):Nat:=(src.length-z.2.1).toNat
def NG(src:List UInt8):Tree (List (List UInt8)):=
.lp inferInstance (Qzv src (0,0,[])+1) ((rE (src:List UInt8)/\True/\rE (0:Int)/\rE (0:Int)/\True)/\rE ([]:List (RK.T RK.str))/\True) (0,0,[]) λ(v0:Int×Int×List (List UInt8))=>let E1:=decide (16*(v0.2.2.length+1)<=140737488355328);.br (decide (v0.2.1<(src.length:Int))) (.cn (decide (0<=v0.2.1/\v0.2.1<(src.length:Int))) (.br ((↑(eW (src.getD v0.2.1.toNat (0:UInt8))):Int)==(10:Int)) (.cn (decide (0<=v0.1/\v0.1<=v0.2.1/\v0.2.1<=(src.length:Int))) (.cn E1 (.nx ((rE (src:List UInt8)/\True/\rE ((wrap i64 (v0.2.1+1)):Int)/\rE ((wrap i64 (v0.2.1+1)):Int)/\True)/\rE ((v0.2.2++[dB (dF v0.2.1-dF v0.1) (dC v0.1.toNat src)]):List (RK.T RK.str))/\True) (Sum.inl (wrap i64 (v0.2.1+1),wrap i64 (v0.2.1+1),v0.2.2++[dB (dF v0.2.1-dF v0.1) (dC v0.1.toNat src)]))))) (.nx ((rE (src:List UInt8)/\True/\rE v0.1/\rE ((wrap i64 (v0.2.1+1)):Int)/\True)/\rE v0.2.2/\True) (Sum.inl (v0.1,wrap i64 (v0.2.1+1),v0.2.2))))) (.br (decide (v0.1<(src.length:Int))) (.cn (decide (0<=v0.1/\v0.1<=(src.length:Int)/\(src.length:Int)<=(src.length:Int))) (.cn E1 (.lf (Sum.inr (v0.2.2++[dB (dF (src.length:Int)-dF v0.1) (dC v0.1.toNat src)]))))) (.lf (Sum.inr v0.2.2)))
def Qwn src:=(NG src).m
abbrev Qjs src:=(NG src).p
def Ze1:bu:={
 α:=(Int)×(Int)×(List (List UInt8))
 F:=λst a=>([(0,(lk st 0)),(3,.all 0),(4,.int i64 a.1),(5,.int i64 a.2.1)],[⟨false,9,1,.av RK.str a.2.2⟩])
 a0:=λst=>((lk st 4).toInt,(lk st 5).toInt,(tz RK.str st.rows (rN st 3)))
 jn:=λst=>[]++[(rX st 3 0)]}
def Z5:List (Nat×bu):=[(4,Ze1)]
def Zey:bc:=mT 151 [] true [.one (.str)] [] (λa r=>NG (il a 0)) (λX=>.all 0) (λX=>[⟨false,9,1,.av .str X⟩])
theorem Ze3:bj pG Zey:=oT (.nil) Tryz.func151 Tryz.call151 [.row 9 1 (.av .str)] Z5 3
def Quz(c:Int):Tree Bool:=
.br (decide (c>=97)) (.lf (decide (c<=122))) (.lf false)
def VA c:=(Quz c).m
def Zcv:bc:=mS 287 [] true [.one (.int .u8)] [] (λa r=>Quz (aq a 0)) (λX=>.bool X) (λX=>[])
theorem Qrd:bj pG Zcv:=oS (.nil) Tryz.func287 Tryz.call287 [] [] 2
def Qzi(c:Int):Tree Bool:=
.br (decide (c>=48)) (.lf (decide (c<=57))) (.lf false)
def MR c:=(Qzi c).m
def Zfa:bc:=mS 288 [] true [.one (.int .u8)] [] (λa r=>Qzi (aq a 0)) (λX=>.bool X) (λX=>[])
theorem Qur:bj pG Zfa:=oS (.nil) Tryz.func288 Tryz.call288 [] [] 2
def Qy4(s:List UInt8)(z:(Bool)×(Int)×(List ly)):Nat:=(s.length-z.2.1).toNat
def Qw1(s:List UInt8)(v0:Bool×Int×List ly)(z:(Int)):Nat:=(s.length-z).toNat
def Qwf(s:List UInt8)(v0:Bool×Int×List ly)(z:(Int)):Nat:=(s.length-z).toNat
def NH(s:List UInt8):Tree ((List ly)×Bool):=
.lp inferInstance (Qy4 s (true,0,[])+1) ((rE (s:List UInt8)/\True/\rE (true:Bool)/\rE (0:Int)/\True)/\rE ([]:List (RK.T RK.ax))/\True) (true,0,[]) λ(v0:Bool×Int×List ly)=>.br (decide (v0.2.1<(s.length:Int))) (.cn (decide (0<=v0.2.1/\v0.2.1<(s.length:Int))) (let E7:=(↑(eW (s.getD v0.2.1.toNat (0:UInt8))):Int);.br (E7==(32:Int)) (.nx ((rE (s:List UInt8)/\True/\rE (true:Bool)/\rE ((wrap i64 (v0.2.1+1)):Int)/\True)/\rE v0.2.2/\True) (Sum.inl (true,wrap i64 (v0.2.1+1),v0.2.2))) (.lv (VA E7) λ(x0:Bool)=>let nh:=decide (32*(v0.2.2.length+1)<=140737488355328);let Bz:=dC v0.2.1.toNat s;.br x0 (.lp inferInstance (Qw1 s v0 v0.2.1+1) ((rE (s:List UInt8)/\True/\rE v0.1/\rE v0.2.1/\rE v0.2.1/\True)/\rE v0.2.2/\True) v0.2.1 λ(v1:Int)=>let T3:Tree ((Int)⊕((Bool×Int×List ly)⊕(((List ly)×Bool)))):=.cn (decide (0<=v0.2.1/\v0.2.1<=v1/\v1<=(s.length:Int))) (.cn nh (.nx ((rE (s:List UInt8)/\True/\rE (false:Bool)/\rE (v1:Int)/\True)/\rE ((v0.2.2++[{kind:=1,text:=dB (dF v1-dF v0.2.1) (dC v0.2.1.toNat s),Ah:=v0.1}]):List (RK.T RK.ax))/\True) (Sum.inr (Sum.inl (false,v1,v0.2.2++[{kind:=1,text:=dB (dF v1-dF v0.2.1) Bz,Ah:=v0.1}])))));.br (decide (v1<(s.length:Int))) (let nW:=decide (0<=v1/\v1<(s.length:Int));.cn nW (let E8:=(↑(eW (s.getD v1.toNat (0:UInt8))):Int);.lv (VA E8) λ(x1:Bool)=>let T5:Tree ((Int)⊕((Bool×Int×List ly)⊕(((List ly)×Bool)))):=.nx ((rE (s:List UInt8)/\True/\rE v0.1/\rE ((wrap i64 (v1+1)):Int)/\rE v0.2.1/\True)/\rE v0.2.2/\True) (Sum.inl (wrap i64 (v1+1)));.br x1 T5 (.cn nW (.lv (MR E8) λ(x2:Bool)=>.br x2 T5 (.cn nW (.br (E8==(95:Int)) T5 T3)))))) T3) (.lv (MR E7) λ(x3:Bool)=>let T2:Tree ((Bool×Int×List ly)⊕(((List ly)×Bool))):=.lp inferInstance (Qwf s v0 (wrap i64 (v0.2.1+1))+1) ((rE (s:List UInt8)/\True/\rE v0.1/\rE ((wrap i64 (v0.2.1+1)):Int)/\rE v0.2.1/\True)/\rE v0.2.2/\True) (wrap i64 (v0.2.1+1)) λ(v1:Int)=>let T4:Tree ((Int)⊕((Bool×Int×List ly)⊕(((List ly)×Bool)))):=.cn (decide (0<=v0.2.1/\v0.2.1<=v1/\v1<=(s.length:Int))) (.cn nh (.nx ((rE (s:List UInt8)/\True/\rE (false:Bool)/\rE (v1:Int)/\True)/\rE ((v0.2.2++[{kind:=2,text:=dB (dF v1-dF v0.2.1) (dC v0.2.1.toNat s),Ah:=v0.1}]):List (RK.T RK.ax))/\True) (Sum.inr (Sum.inl (false,v1,v0.2.2++[{kind:=2,text:=dB (dF v1-dF v0.2.1) Bz,Ah:=v0.1}])))));.br (decide (v1<(s.length:Int))) (let oW:=decide (0<=v1/\v1<(s.length:Int));.cn oW (let E9:=(↑(eW (s.getD v1.toNat (0:UInt8))):Int);.lv (VA E9) λ(x4:Bool)=>let T6:Tree ((Int)⊕((Bool×Int×List ly)⊕(((List ly)×Bool)))):=.nx ((rE (s:List UInt8)/\True/\rE v0.1/\rE ((wrap i64 (v1+1)):Int)/\rE v0.2.1/\True)/\rE v0.2.2/\True) (Sum.inl (wrap i64 (v1+1)));.br x4 T6 (.cn oW (.lv (MR E9) λ(x5:Bool)=>.br x5 T6 (.cn oW (.br (E9==(95:Int)) T6 T4)))))) T4;.br x3 T2 (.br (E7==(45:Int)) T2 (let T1:Tree ((Bool×Int×List ly)⊕(((List ly)×Bool))):=.cn (decide (0<=v0.2.1/\v0.2.1<=wrap i64 (v0.2.1+1)/\wrap i64 (v0.2.1+1)<=(s.length:Int))) (.cn nh (.nx ((rE (s:List UInt8)/\True/\rE (false:Bool)/\rE ((wrap i64 (v0.2.1+1)):Int)/\True)/\rE ((v0.2.2++[{kind:=3,text:=dB (dF (wrap i64 (v0.2.1+1))-dF v0.2.1) (dC v0.2.1.toNat s),Ah:=v0.1}]):List (RK.T RK.ax))/\True) (Sum.inl (false,wrap i64 (v0.2.1+1),v0.2.2++[{kind:=3,text:=dB (dF (wrap i64 (v0.2.1+1))-dF v0.2.1) Bz,Ah:=v0.1}]))));.br (E7==(44:Int)) T1 (.br (E7==(58:Int)) T1 (.br (E7==(40:Int)) T1 (.br (E7==(41:Int)) T1 (.br (E7==(46:Int)) T1 (.lf (Sum.inr ([],false))))))))))))) (.lf (Sum.inr (v0.2.2,true)))
def Z30 s:=(NH s).m
abbrev Qig s:=(NH s).p
def Z67:bu:={
 α:=(Bool)×(Int)×(List ly)
 F:=λst a=>([(0,(lk st 0)),(4,.all 0),(5,.bool a.1),(6,.int i64 a.2.1)],[⟨false,303,3,.av RK.ax a.2.2⟩])
 a0:=λst=>((lk st 5).toBool,(lk st 6).toInt,(tz RK.ax st.rows (rN st 4)))
 jn:=λst=>[]++[(rX st 4 0)]}
def Z6l:bu:={
 α:=(Int)
 F:=λst a=>([(0,(lk st 0)),(4,.all 0),(5,(lk st 5)),(6,.int i64 a),(8,(lk st 8))],[⟨false,303,3,ph st.rows (rN st 4)⟩])
 a0:=λst=>(lk st 6).toInt
 jn:=λst=>[]++[(rX st 4 0)]}
def Z7g:bu:={
 α:=(Int)
 F:=λst a=>([(0,(lk st 0)),(4,.all 0),(5,(lk st 5)),(6,.int i64 a),(8,(lk st 8))],[⟨false,303,3,ph st.rows (rN st 4)⟩])
 a0:=λst=>(lk st 6).toInt
 jn:=λst=>[]++[(rX st 4 0)]}
def Z0s:List (Nat×bu):=[(4,Z67),(12,Z6l),(17,Z7g)]
def Zcz:bc:=mT 231 [] true [.one (.str)] [] (λa r=>NH (il a 0)) (λX=>.dt [.all 0,.bool (X.2)]) (λX=>[⟨false,303,3,.av .ax (X.1)⟩])
theorem Z60:bj pG Zcz:=oT (.cons Qrd (.cons Qur (.nil))) Tryz.func231 Tryz.call231 [.row 303 3 (.av .ax)] Z0s 3
 def R3 (p:Int->Prop) (r:Int->List UInt8) (n:Int):Tree (List UInt8):=
 .br (decide (n<(10:Int))) (.lf ([(λ(n:Int)=>eX n.toNat) (wrap u8 (wrap u64 ((48:Int)+n)))])) (.an (p (wrap u64 (eU n (10:Int)))) (.lv (r (wrap u64 (eU n (10:Int)))) λ(x0:List UInt8)=>.cn (decide (x0.length+dK [(λ(n:Int)=>eX n.toNat) (wrap u8 (wrap u64 ((48:Int)+Int.tmod n (10:Int))))]<=maxLen)) (.lf (x0++[(λ(n:Int)=>eX n.toNat) (wrap u8 (wrap u64 ((48:Int)+Int.tmod n (10:Int))))]))))
 def Bf:Nat->Int->List UInt8
  |0,_=>[]
  |k+1,n=>(R3 (λ_=>True) (Bf k) n).m
 def Ki (k:Nat) (n:Int):Prop:=0<=n/\n<10^k/\n<18446744073709551616/\0<k/\k<=30
 def Jam (k:Nat):bc:=mM 225 [] true [.one (.int .u64)] [] (λargs rows=>Ki k (aq args 0)) (λargs rows=>Bf k (aq args 0)) (λX=>.str X) (λX=>[])
 theorem oK:∀k n,(Bf k n).length<=k
  |0,_=>Nat.le_refl _
  |k+1,n=>by
   show(bif decide (n<10)then _ else dd (Bf k _) λx0=>x0++_).length<=k+1
   have:=oK k (wrap u64 (eU n 10))
   cases decide (n<10)
   ·simp[dd,Tree.m];omega
   ·simp[Tree.m]
 theorem Ab:∀k,bj pG (Jam k)
  |0=>ML Tryz.call225 (λargs rows h=>absurd h.2.2.2.1 (Nat.lt_irrefl 0)) (λ_ X=>by kernel_rfl)
  |k + 1=>by
   refine u5 drawn mN (.cons (Ab k) .nil) Tryz.func225 Tryz.call225 (λargs rows=>R3 (Ki k) (Bf k) (aq args 0)) [] [] 2 (λ_ _ _=>by kernel_rfl) (λ_ _=>rfl) (λargs rows h=>?_) (λ_ X=>by kernel_rfl)
   obtain⟨h0,h1,h2,h3,h4⟩:=h
   generalize aq args 0=n at*
   refine aa (λ_=>trivial) (λhn=>?_)
   have hn:=oN hn
   have e:wrap u64 (eU n 10)=n/10:=by rw[wrap_u64,Int.tdiv_eq_ediv_of_nonneg h0];omega
   refine cz (show Ki k _ from ?_) (ar λx hx=>ba (dY ?_) trivial)
   ·rw[e]
    rw[Int.pow_succ]at h1
    have hk:0<k:=by
     rcases Nat.eq_zero_or_pos k with rfl|h
     ·simp at h1;omega
     ·exact h
    exact⟨by omega,by omega,by omega,hk,by omega⟩
   ·have:=oK k (wrap u64 (eU n 10))
    rw[<-hx]at this
    simp[maxLen];omega
def MS(n:Int):(List UInt8):=
Bf 20 n
def Fe(n:Int):Prop:=
0<=n/\n<18446744073709551616
def Qmq(n:Int):List D:=[.int .u64 n]
def Qmo(n:Int):List Row:=[]
def Qha(X:List UInt8):D:=.str X
def Qim(X:List UInt8):List Row:=[]
def Qp:List PT:=[.one (.int .u64)]
def Qn2:List RT:=[]
def Z33(args:List D)(rows:List Row):(List UInt8):=MS (aq args 0)
def Z28(args:List D)(rows:List Row):Prop:=Fe (aq args 0)
def Zay:bc:=mM 225 [] true Qp Qn2 Z28 Z33 Qha Qim
theorem Qxc(n:Int)(hw:Fe n):Q3 pG 225 (Qmq n) (Qmo n) (Qha (MS n)) (Qim (MS n)):=by
 have h20:(18446744073709551616:Int)<=10^20:=by decide
 exact xC (args:=[.int .u64 n]) (rows:=[]) (Ab 20) (by kernel_rfl) ⟨hw.1,Int.lt_of_lt_of_le hw.2 h20,hw.2,by decide,by decide⟩
set_option maxRecDepth 100000 in
theorem Qzt(args:List D)(rows:List Row):me Qp args 0=Qmq (aq args 0):=by kernel_rfl
set_option maxRecDepth 100000 in
theorem Qx0(args:List D)(rows:List Row):lr Qn2 rows 0=Qmo (aq args 0):=by kernel_rfl
set_option maxRecDepth 100000 in
theorem Z6w(X:List UInt8):(uZ (Qha X)&&jH (Qim X))=true:=by kernel_rfl
theorem Z73:bj pG Zay:=ML Tryz.call225 (λargs rows hp=>by rw[Qzt args rows,Qx0 args rows];exact Qxc (aq args 0) hp) (λ_ X=>Z6w X)
def IL(n:Int):Tree (List UInt8):=
.br (decide (n<0)) (let E1:=wrap u64 (wrap u64 (wrap i64 (0-wrap i64 (n+1)))+1);.an (Fe E1) (.lv (MS E1) λ(x0:List UInt8)=>.cn (decide (1+x0.length<=maxLen)) (.lf ((45:UInt8)::x0)))) (.an (Fe (wrap u64 n)) (.lv (MS (wrap u64 n)) λ(x1:List UInt8)=>.lf x1))
def Qoy n:=(IL n).m
abbrev Qfi n:=(IL n).p
def Z7a:bc:=mT 148 [] true [.one (.int .i64)] [] (λa r=>IL (aq a 0)) (λX=>.str X) (λX=>[])
theorem Z1x:bj pG Z7a:=oT (.cons Z73 (.nil)) Tryz.func148 Tryz.call148 [] [] 2
def IM(r:Int):Tree (List UInt8):=
.an (Qfi r) (.lv (Qoy r) λ(x0:List UInt8)=>.cn (decide (1+x0.length<=maxLen)) (.lf ((114:UInt8)::x0)))
def Zmj r:=(IM r).m
abbrev Qnu r:=(IM r).p
def Zqj:bc:=mT 309 [] true [.one (.int .i64)] [] (λa r=>IM (aq a 0)) (λX=>.str X) (λX=>[])
theorem Zj3:bj pG Zqj:=oT (.cons Z1x (.nil)) Tryz.func309 Tryz.call309 [] [] 2
def Qqz(s:List UInt8)(z:(Int)):Prop:=0<=z/\z<=16
def Qec(s:List UInt8)(z:(Int)):Nat:=(16-z).toNat
def VB(s:List UInt8):Tree (Int×Bool):=
.lp inferInstance (Qec s 0+1) ((rE (s:List UInt8)/\rE (0:Int)/\True)/\True) 0 λ(v0:Int)=>.br (decide (v0<16)) (.an (Qnu v0) (.lv (Zmj v0) λ(x0:List UInt8)=>.br (decide (s=x0)) (.lf (Sum.inr (v0,true))) (.nx ((rE (s:List UInt8)/\rE ((wrap i64 (v0+1)):Int)/\True)/\True) (Sum.inl (wrap i64 (v0+1)))))) (.lf (Sum.inr (0,false)))
def Qil s:=(VB s).m
theorem Qsb(s:List UInt8):(VB s).p:=by
 unfold Tree.p VB
 have dp:∀x,Fe (wrap .u64 x):=λx=>by unfold Fe;rw[wrap_u64];omega
 have dl:∀x,(MS x).length<=20:=λx=>oK 20 x
 have hd:∀x,(IL x).w (λr=>r.length<=21):=λx=>by
  unfold IL
  refine aa (λ_=>cz (dp _) (ar λx0 h0=>ba (dY ?_) ?_)) (λ_=>cz (dp _) (ar λx1 h1=>?_))
  ·have:=dl (wrap .u64 (wrap .u64 (wrap .i64 (0-wrap .i64 (x+1)))+1));rw[<-h0]at this;simp[maxLen];omega
  ·have:=dl (wrap .u64 (wrap .u64 (wrap .i64 (0-wrap .i64 (x+1)))+1));rw[<-h0]at this;show(_::x0).length<=21;simp;omega
  ·rw[h1];exact Nat.le_trans (dl _) (by decide)
 have hr:∀x,(IM x).p:=λx=>by
  unfold Tree.p IM
  refine cz (Tree.pp (hd x)).1 (ar λx0 h0=>ba (dY ?_) trivial)
  have:(Qoy x).length<=21:=(Tree.pp (hd x)).2
  rw[<-h0]at this;simp[maxLen];omega
 refine fy (inv:=Qqz s) (μ:=Qec s) ⟨by decide,by decide⟩ (cO _) (λz hz=>?_)
 obtain⟨z1,z2⟩:=hz
 refine aa (λhb=>cz (hr _) (ar λx0 _=>aa (λ_=>trivial) (λ_=>fg ?_))) (λ_=>trivial)
 have hb:=oY hb
 show(0<=i64.wrap (z+1)/\i64.wrap (z+1)<=16)/\(16-i64.wrap (z+1)).toNat<(16-z).toNat
 rw[wrap_i64];omega
def Qv7:bu:={
 α:=(Int)
 F:=λst a=>([(0,(lk st 0)),(4,.int i64 a)],[])
 a0:=λst=>(lk st 4).toInt
 jn:=λst=>[]++[]}
def Qqr:List (Nat×bu):=[(2,Qv7)]
def Qx2:bc:=mS 289 [] true [.one (.str)] [] (λa r=>VB (il a 0)) (λX=>.dt [.int .i64 (X.1),.bool (X.2)]) (λX=>[])
theorem Qj8:bj pG Qx2:=oS (.cons Zj3 (.nil)) Tryz.func289 Tryz.call289 [] Qqr 3 (λ_ _ _=>by kernel_rfl) (λa r=>Qsb (il a 0)) (λ_ X=>by kernel_rfl)
def NI(s:List UInt8):Tree Bool:=
.lv (Qil s) λ(x0:Int×Bool)=>.br (decide ((s.length:Int)>=(1:Int))) (.br (decide ((s.length:Int)<=(12:Int))) (.cn (decide ((0:Int)<=(0:Int)/\0<(s.length:Int))) (.lv (VA (↑(eW (s.getD (dF 0) (0:UInt8))):Int)) λ(x1:Bool)=>.br x1 (.lf (!x0.2)) (.lf false))) (.lf false)) (.lf false)
def Z4j s:=(NI s).m
abbrev WU s:=(NI s).p
def Zl6:bc:=mT 232 [] true [.one (.str)] [] (λa r=>NI (il a 0)) (λX=>.bool X) (λX=>[])
theorem Qyb:bj pG Zl6:=oT (.cons Qj8 (.cons Qrd (.nil))) Tryz.func232 Tryz.call232 [] [] 2
def NJ(op:Int):Tree (List UInt8):=
let T1:Tree ((List UInt8)):=let T3:Tree ((List UInt8)):=.br (op==48) (.lf ([(106:UInt8),97,108])) (.br (op==49) (.lf ([(106:UInt8),97,108,114])) (.br (decide (op>=56)) (.br (decide (op<=64)) (.cn (bT 1 1&&bJ 0 1&&decide (0<=wrap i64 (op-56)/\wrap i64 (op-56)<(↑9:Int))) (.lf (aK [[(101:UInt8),99,97,108,108],[(101:UInt8),114,101,116],[(99:UInt8),115,114,114],[(99:UInt8),115,114,119],[(105:UInt8),110],[(111:UInt8),117,116],[(119:UInt8),102,105],[(102:UInt8),108,117,115,104],[(104:UInt8),97,108,116]] (dF (wrap i64 (op-56))) (RK.cq RK.str)))) (.lf ([]))) (.lf ([]))));.br (decide (op>=40)) (.br (decide (op<=45)) (.cn (bT 1 1&&bJ 0 1&&decide (0<=wrap i64 (op-40)/\wrap i64 (op-40)<(↑6:Int))) (.lf (aK [[(98:UInt8),101,113],[(98:UInt8),110,101],[(98:UInt8),108,116],[(98:UInt8),103,101],[(98:UInt8),108,116,117],[(98:UInt8),103,101,117]] (dF (wrap i64 (op-40))) (RK.cq RK.str)))) T3) T3;let T2:Tree ((List UInt8)):=let T4:Tree ((List UInt8)):=.br (decide (op>=32)) (.br (decide (op<=36)) (.cn (bT 1 1&&bJ 0 1&&decide (0<=wrap i64 (op-32)/\wrap i64 (op-32)<(↑5:Int))) (.lf (aK [[(108:UInt8),119],[(108:UInt8),98],[(108:UInt8),98,117],[(115:UInt8),119],[(115:UInt8),98]] (dF (wrap i64 (op-32))) (RK.cq RK.str)))) T1) T1;.br (decide (op>=16)) (.br (decide (op<=24)) (.cn (bT 1 1&&bJ 0 1&&decide (0<=wrap i64 (op-16)/\wrap i64 (op-16)<(↑9:Int))) (.lf (aK [[(97:UInt8),100,100,105],[(97:UInt8),110,100,105],[(111:UInt8),114,105],[(120:UInt8),111,114,105],[(115:UInt8),104,108,105],[(115:UInt8),104,114,105],[(115:UInt8),97,114,105],[(115:UInt8),108,116,105],[(108:UInt8),117,105]] (dF (wrap i64 (op-16))) (RK.cq RK.str)))) T4) T4;.br (decide (op>=1)) (.br (decide (op<=13)) (.cn (bT 1 1&&bJ 0 1&&decide (0<=wrap i64 (op-1)/\wrap i64 (op-1)<(↑13:Int))) (.lf (aK [[(97:UInt8),100,100],[(115:UInt8),117,98],[(97:UInt8),110,100],[(111:UInt8),114],[(120:UInt8),111,114],[(115:UInt8),104,108],[(115:UInt8),104,114],[(115:UInt8),97,114],[(109:UInt8),117,108],[(100:UInt8),105,118],[(114:UInt8),101,109],[(115:UInt8),108,116],[(115:UInt8),108,116,117]] (dF (wrap i64 (op-1))) (RK.cq RK.str)))) T2) T2
def Quo op:=(NJ op).m
abbrev Qdf op:=(NJ op).p
def Z5g:bc:=mT 291 [] true [.one (.int .i64)] [] (λa r=>NJ (aq a 0)) (λX=>.str X) (λX=>[])
theorem Z00:bj pG Z5g:=oT (.nil) Tryz.func291 Tryz.call291 [] [] 2
def Qqv(s:List UInt8)(z:(Int)):Nat:=(65-z).toNat
def NK(s:List UInt8):Tree Int:=
.lp inferInstance (Qqv s 1+1) ((rE (s:List UInt8)/\rE (1:Int)/\True)/\True) 1 λ(v0:Int)=>.br (decide (v0<=64)) (.lv (oR v0) λ(x0:Int)=>.br (decide (x0>0)) (.an (Qdf v0) (.lv (Quo v0) λ(x1:List UInt8)=>.br (decide (x1=s)) (.lf (Sum.inr v0)) (.nx ((rE (s:List UInt8)/\rE ((wrap i64 (v0+1)):Int)/\True)/\True) (Sum.inl (wrap i64 (v0+1)))))) (.nx ((rE (s:List UInt8)/\rE ((wrap i64 (v0+1)):Int)/\True)/\True) (Sum.inl (wrap i64 (v0+1))))) (.lf (Sum.inr 0))
def R4 s:=(NK s).m
abbrev KK s:=(NK s).p
def Qxq:bu:={
 α:=(Int)
 F:=λst a=>([(0,(lk st 0)),(3,.int i64 a)],[])
 a0:=λst=>(lk st 3).toInt
 jn:=λst=>[]++[]}
def Qsd:List (Nat×bu):=[(2,Qxq)]
def Z0t:bc:=mT 235 [] true [.one (.str)] [] (λa r=>NK (il a 0)) (λX=>.int .i64 X) (λX=>[])
theorem Ql:bj pG Z0t:=oT (.cons RX (.cons Z00 (.nil))) Tryz.func235 Tryz.call235 [] Qsd 3
def NM(ee:List UInt8):Tree ((List UInt8)×Bool):=
.an (KK ee) (.lv (R4 ee) λ(x0:Int)=>.br (decide (ee=[(46:UInt8),119,111,114,100])) (.lf ([(120:UInt8)],true)) (.br (decide (ee=[(46:UInt8),115,112,97,99,101])) (.lf ([(110:UInt8)],true)) (.br (decide (ee=[(108:UInt8),105])) (.lf ([(114:UInt8),44,120],true)) (.br (decide (ee=[(109:UInt8),118])) (.lf ([(114:UInt8),44,114],true)) (.br (decide (ee=[(110:UInt8),111,112])) (.lf ([],true)) (.br (x0==0) (.lf ([],false)) (let T1:Tree (((List UInt8)×Bool)):=.br (x0==48) (.lf ([(114:UInt8),44,120],true)) (.lv (oR x0) λ(x1:Int)=>.br (x1==1) (.lf ([],true)) (.br (x1==2) (.lf ([(114:UInt8),44,114,44,114],true)) (.br (decide (x1>=6)) (.lf ([(114:UInt8),44,110],true)) (.lf ([(114:UInt8),44,114,44,110],true)))));let T2:Tree (((List UInt8)×Bool)):=.br (decide (x0>=40)) (.br (decide (x0<=45)) (.lf ([(114:UInt8),44,114,44,120],true)) T1) T1;.br (decide (x0>=32)) (.br (decide (x0<=36)) (.lf ([(114:UInt8),44,110,40,114,41],true)) T2) T2)))))))
def VC ee:=(NM ee).m
abbrev NL ee:=(NM ee).p
def Z63:bc:=mT 233 [] true [.one (.str)] [] (λa r=>NM (il a 0)) (λX=>.dt [.str (X.1),.bool (X.2)]) (λX=>[])
theorem Z2b:bj pG Z63:=oT (.cons Ql (.cons RX (.nil))) Tryz.func233 Tryz.call233 [] [] 2
def Qx5(s:List UInt8)(z:(Int)×(Int)):Nat:=(s.length-z.2).toNat
def Qkw(s:List UInt8)(z:(Int)×(Int)):Nat:=(s.length-z.2).toNat
def NN(s:List UInt8):Tree (Int×Bool):=
let E7:=decide ((0:Int)<=(0:Int)/\0<(s.length:Int));let E8:=(↑(eW (s.getD (dF 0) (0:UInt8))):Int);let T1:Tree ((Int×Bool)):=let T2:Tree ((Int×Bool)):=.br (decide (wrap i64 ((s.length:Int)-(0:Int))<1)) (.lf (0,false)) (.br (decide (wrap i64 ((s.length:Int)-(0:Int))>10)) (.lf (0,false)) (.lp inferInstance (Qkw s (0,0)+1) ((rE (s:List UInt8)/\rE (0:Int)/\rE (0:Int)/\rE (0:Int)/\True)/\True) (0,0) λ(v0:Int×Int)=>.br (decide (v0.2<(s.length:Int))) (let E9:=decide (0<=v0.2/\v0.2<(s.length:Int));.cn E9 (let E5:=(↑(eW (s.getD v0.2.toNat (0:UInt8))):Int);.lv (MR E5) λ(x2:Bool)=>.br (!x2) (.lf (Sum.inr (0,false))) (.cn E9 (.nx ((rE (s:List UInt8)/\rE (0:Int)/\rE ((wrap i64 (wrap i64 (10*v0.1)+wrap i64 (wrap u8 ((↑(eW (s.getD v0.2.toNat (0:UInt8))):Int)-(48:Int))))):Int)/\rE ((wrap i64 (v0.2+1)):Int)/\True)/\True) (Sum.inl (wrap i64 (wrap i64 (10*v0.1)+wrap i64 (wrap u8 (E5-(48:Int)))),wrap i64 (v0.2+1))))))) (.br (decide (v0.1>=(-2147483648))) (.lf (Sum.inr (v0.1,decide (v0.1<=4294967295)))) (.lf (Sum.inr (v0.1,false))))));.br (decide ((s.length:Int)>(0:Int))) (.cn E7 (.br (E8==(45:Int)) (.br (decide (wrap i64 ((s.length:Int)-(1:Int))<1)) (.lf (0,false)) (.br (decide (wrap i64 ((s.length:Int)-(1:Int))>10)) (.lf (0,false)) (.lp inferInstance (Qkw s (0,1)+1) ((rE (s:List UInt8)/\rE (1:Int)/\rE (0:Int)/\rE (1:Int)/\True)/\True) (0,1) λ(v0:Int×Int)=>.br (decide (v0.2<(s.length:Int))) (let nh:=decide (0<=v0.2/\v0.2<(s.length:Int));.cn nh (let E6:=(↑(eW (s.getD v0.2.toNat (0:UInt8))):Int);.lv (MR E6) λ(x1:Bool)=>.br (!x1) (.lf (Sum.inr (0,false))) (.cn nh (.nx ((rE (s:List UInt8)/\rE (1:Int)/\rE ((wrap i64 (wrap i64 (10*v0.1)+wrap i64 (wrap u8 ((↑(eW (s.getD v0.2.toNat (0:UInt8))):Int)-(48:Int))))):Int)/\rE ((wrap i64 (v0.2+1)):Int)/\True)/\True) (Sum.inl (wrap i64 (wrap i64 (10*v0.1)+wrap i64 (wrap u8 (E6-(48:Int)))),wrap i64 (v0.2+1))))))) (.br (decide (wrap i64 (0-v0.1)>=(-2147483648))) (.lf (Sum.inr (wrap i64 (0-v0.1),decide (wrap i64 (0-v0.1)<=4294967295)))) (.lf (Sum.inr (wrap i64 (0-v0.1),false))))))) T2)) T2;.br (decide ((s.length:Int)>(2:Int))) (.cn E7 (.br (E8==(48:Int)) (.cn (decide ((0:Int)<=(1:Int)/\1<(s.length:Int))) (.br ((↑(eW (s.getD (dF 1) (0:UInt8))):Int)==(120:Int)) (.br (decide ((s.length:Int)>(10:Int))) (.lf (0,false)) (.lp inferInstance (Qx5 s (0,2)+1) ((rE (s:List UInt8)/\rE (0:Int)/\rE (2:Int)/\True)/\True) (0,2) λ(v0:Int×Int)=>.br (decide (v0.2<(s.length:Int))) (let E4:=decide (0<=v0.2/\v0.2<(s.length:Int));.cn E4 (let E3:=(↑(eW (s.getD v0.2.toNat (0:UInt8))):Int);.lv (MR E3) λ(x0:Bool)=>.br x0 (.cn E4 (.nx ((rE (s:List UInt8)/\rE ((wrap i64 (wrap i64 (16*v0.1)+wrap i64 (wrap u8 ((↑(eW (s.getD v0.2.toNat (0:UInt8))):Int)-(48:Int))))):Int)/\rE ((wrap i64 (v0.2+1)):Int)/\True)/\True) (Sum.inl (wrap i64 (wrap i64 (16*v0.1)+wrap i64 (wrap u8 (E3-(48:Int)))),wrap i64 (v0.2+1))))) (.cn E4 (.br (decide (E3>=(97:Int))) (.cn E4 (.br (decide (E3<=(102:Int))) (.cn E4 (.nx ((rE (s:List UInt8)/\rE ((wrap i64 (wrap i64 (wrap i64 (16*v0.1)+wrap i64 (wrap u8 ((↑(eW (s.getD v0.2.toNat (0:UInt8))):Int)-(97:Int))))+10)):Int)/\rE ((wrap i64 (v0.2+1)):Int)/\True)/\True) (Sum.inl (wrap i64 (wrap i64 (wrap i64 (16*v0.1)+wrap i64 (wrap u8 (E3-(97:Int))))+10),wrap i64 (v0.2+1))))) (.lf (Sum.inr (0,false))))) (.lf (Sum.inr (0,false))))))) (.lf (Sum.inr (v0.1,true))))) T1)) T1)) T1
def Z2d s:=(NN s).m
abbrev Qih s:=(NN s).p
def Z7t:bu:={
 α:=(Int)×(Int)
 F:=λst a=>([(0,(lk st 0)),(4,.int i64 a.1),(5,.int i64 a.2)],[])
 a0:=λst=>((lk st 4).toInt,(lk st 5).toInt)
 jn:=λst=>[]++[]}
def Z6p:bu:={
 α:=(Int)×(Int)
 F:=λst a=>([(0,(lk st 0)),(6,(lk st 6)),(7,.int i64 a.1),(8,.int i64 a.2)],[])
 a0:=λst=>((lk st 7).toInt,(lk st 8).toInt)
 jn:=λst=>[]++[]}
def Z0j:List (Nat×bu):=[(6,Z7t),(21,Z6p)]
def Zct:bc:=mT 290 [] true [.one (.str)] [] (λa r=>NN (il a 0)) (λX=>.dt [.int .i64 (X.1),.bool (X.2)]) (λX=>[])
theorem Z6s:bj pG Zct:=oT (.cons Qur (.nil)) Tryz.func290 Tryz.call290 [] Z0j 3
def Quw(l:List ly)(p:List UInt8)(z:(Int)×(List nC)):Nat:=(l.length-z.1).toNat
def NP(l:List ly)(p:List UInt8):Tree ((List nC)×Bool):=
.br ((l.length:Int) !=(p.length:Int)) (.lf ([],false)) (.lp inferInstance (Quw l p (0,[])+1) ((nR RK.ax 3 l/\rE (p:List UInt8)/\True/\rE (0:Int)/\True)/\rE ([]:List (RK.T RK.bb))/\True) (0,[]) λ(v0:Int×List nC)=>.br (decide (v0.1<(l.length:Int))) (.cn (bT 3 3&&bJ 0 3&&decide (0<=v0.1/\v0.1<(l.length:Int))) (let E6:=decide (0<=v0.1/\v0.1<(p.length:Int));.cn E6 (let E3:=l.getD v0.1.toNat (RK.cq RK.ax);let E4:=(↑(eW (p.getD v0.1.toNat (0:UInt8))):Int);let E5:=decide (32*(v0.2.length+1)<=140737488355328);.br (E4==(114:Int)) (.lv (Qil E3.text) λ(x0:Int×Bool)=>.br (E3.kind !=1) (.lf (Sum.inr ([],false))) (.br (!x0.2) (.lf (Sum.inr ([],false))) (.cn E5 (.nx ((nR RK.ax 3 l/\rE (p:List UInt8)/\True/\rE ((wrap i64 (v0.1+1)):Int)/\True)/\rE ((v0.2++[{kF:=x0.1,num:=0,label:=[]}]):List (RK.T RK.bb))/\True) (Sum.inl (wrap i64 (v0.1+1),v0.2++[{kF:=x0.1,num:=0,label:=[]}])))))) (let T1:Tree ((Int×List nC)⊕(((List nC)×Bool))):=.an (Qih E3.text) (.lv (Z2d E3.text) λ(x2:Int×Bool)=>.br (E3.kind !=2) (.lf (Sum.inr ([],false))) (.br (!x2.2) (.lf (Sum.inr ([],false))) (.cn E5 (.nx ((nR RK.ax 3 l/\rE (p:List UInt8)/\True/\rE ((wrap i64 (v0.1+1)):Int)/\True)/\rE ((v0.2++[{kF:=0,num:=x2.1,label:=[]}]):List (RK.T RK.bb))/\True) (Sum.inl (wrap i64 (v0.1+1),v0.2++[{kF:=0,num:=x2.1,label:=[]}]))))));let T2:Tree ((Int×List nC)⊕(((List nC)×Bool))):=.cn E6 (.br (E4==(120:Int)) (.br (E3.kind==1) (.an (WU E3.text) (.lv (Z4j E3.text) λ(x1:Bool)=>.br x1 (.cn E5 (.nx ((nR RK.ax 3 l/\rE (p:List UInt8)/\True/\rE ((wrap i64 (v0.1+1)):Int)/\True)/\rE ((v0.2++[{kF:=0,num:=0,label:=(l.getD v0.1.toNat (RK.cq RK.ax)).text}]):List (RK.T RK.bb))/\True) (Sum.inl (wrap i64 (v0.1+1),v0.2++[{kF:=0,num:=0,label:=E3.text}])))) T1)) T1) T1);.br (E4==(110:Int)) T2 (.br (E4==(120:Int)) T2 (.br (E3.kind !=3) (.lf (Sum.inr ([],false))) (.cn (decide (0<=v0.1/\v0.1<=wrap i64 (v0.1+1)/\wrap i64 (v0.1+1)<=(p.length:Int))) (.br (!decide (E3.text=dB (dF (wrap i64 (v0.1+1))-dF v0.1) (dC v0.1.toNat p))) (.lf (Sum.inr ([],false))) (.nx ((nR RK.ax 3 l/\rE (p:List UInt8)/\True/\rE ((wrap i64 (v0.1+1)):Int)/\True)/\rE v0.2/\True) (Sum.inl (wrap i64 (v0.1+1),v0.2))))))))))) (.lf (Sum.inr (v0.2,true))))
def VD l p:=(NP l p).m
abbrev NO l p:=(NP l p).p
def Z3o:bu:={
 α:=(Int)×(List nC)
 F:=λst a=>([(0,(lk st 0)),(1,(lk st 1)),(6,.all 0),(7,.int i64 a.1)],[⟨false,177,3,.av RK.bb a.2⟩])
 a0:=λst=>((lk st 7).toInt,(tz RK.bb st.rows (rN st 6)))
 jn:=λst=>[]++[(rX st 6 0)]}
def Qwr:List (Nat×bu):=[(5,Z3o)]
def Z5r:bc:=mT 234 [] true [.one (.av .ax),.one (.str)] [] (λa r=>NP (jh .ax a 0) (il a 1)) (λX=>.dt [.all 0,.bool (X.2)]) (λX=>[⟨false,177,3,.av .bb (X.1)⟩])
theorem Z2e:bj pG Z5r:=oT (.cons Qj8 (.cons Qyb (.cons Z6s (.nil)))) Tryz.func234 Tryz.call234 [.row 177 3 (.av .bb)] Qwr 3
def Qx9(s:List UInt8)(z:(List UInt8)×(Int)):Nat:=(s.length-z.2).toNat
def NQ(s:List UInt8):Tree ((List UInt8)×kz×Bool):=
.lp inferInstance (Qx9 s (s,0)+1) ((rE (s:List UInt8)/\rE ([]:List UInt8)/\rZ/\rE (false:Bool)/\rE (0:Int)/\True)/\(rE ([]:List UInt8)/\rE (0:Int)/\True/\rE (0:Int)/\rE (0:Int)/\rE (0:Int)/\True)/\True) (s,0) λ(v0:List UInt8×Int)=>.br (decide (v0.2<(v0.1.length:Int))) (.cn (decide (0<=v0.2/\v0.2<(v0.1.length:Int))) (.br ((↑(eW (v0.1.getD v0.2.toNat (0:UInt8))):Int)==(59:Int)) (.cn (decide ((0:Int)<=(0:Int)/\0<=v0.2/\v0.2<=(v0.1.length:Int))) (.nx ((rE ((dB (dF v0.2-dF 0) (dC (dF 0) v0.1)):List UInt8)/\rE ([]:List UInt8)/\rZ/\rE (false:Bool)/\rE ((wrap i64 (v0.2+1)):Int)/\True)/\(rE ([]:List UInt8)/\rE (0:Int)/\True/\rE (0:Int)/\rE (0:Int)/\rE (0:Int)/\True)/\True) (Sum.inl (dB (dF v0.2-dF 0) (dC (dF 0) v0.1),wrap i64 (v0.2+1))))) (.nx ((rE v0.1/\rE ([]:List UInt8)/\rZ/\rE (false:Bool)/\rE ((wrap i64 (v0.2+1)):Int)/\True)/\(rE ([]:List UInt8)/\rE (0:Int)/\True/\rE (0:Int)/\rE (0:Int)/\rE (0:Int)/\True)/\True) (Sum.inl (v0.1,wrap i64 (v0.2+1)))))) (.an (Qig v0.1) (.lv (Z30 v0.1) λ(x0:List ly×Bool)=>.br (!x0.2) (.lf (Sum.inr ([],{ee:=[],op:=0,l:=[],D7:=0,at_:=0,size:=0},false))) (let E9:=x0.1.getD (dF 0) (RK.cq RK.ax);let T1:Tree ((List UInt8×Int)⊕(((List UInt8)×kz×Bool))):=.an (NL E9.text) (.lv (VC E9.text) λ(x27:List UInt8×Bool)=>.br (!x27.2) (.lf (Sum.inr ([],{ee:=[],op:=0,l:=[],D7:=0,at_:=0,size:=0},false))) (let E20:=dF (x0.1.length:Int)-dF 1;let T6:Tree ((List UInt8×Int)⊕(((List UInt8)×kz×Bool))):=let E31:=dB E20 (dC (dF 1) x0.1);.an (NO E31 x27.1) (.lv (VD E31 x27.1) λ(MT:List nC×Bool)=>.br (!MT.2) (.lf (Sum.inr ([],{ee:=[],op:=0,l:=[],D7:=0,at_:=0,size:=0},false))) (.an (KK E9.text) (.lv (R4 E9.text) λ(x29:Int)=>.br (decide (E9.text=[(108:UInt8),105])) (.lf (Sum.inr ([],{ee:=E9.text,op:=x29,l:=MT.1,D7:=0,at_:=0,size:=2},true))) (.br (decide (E9.text=[(46:UInt8),115,112,97,99,101])) (let Bz:=bT 3 3&&bJ 0 3&&decide ((0:Int)<=(0:Int)/\0<(MT.1.length:Int));.cn Bz (let E21:=MT.1.getD (dF 0) (RK.cq RK.bb);.br (decide (E21.num<0)) (.lf (Sum.inr ([],{ee:=[],op:=0,l:=[],D7:=0,at_:=0,size:=0},false))) (.cn Bz (.br (decide (E21.num>1024)) (.lf (Sum.inr ([],{ee:=[],op:=0,l:=[],D7:=0,at_:=0,size:=0},false))) (.cn Bz (.lf (Sum.inr ([],{ee:=E9.text,op:=x29,l:=MT.1,D7:=0,at_:=0,size:=E21.num},true)))))))) (.lf (Sum.inr ([],{ee:=E9.text,op:=x29,l:=MT.1,D7:=0,at_:=0,size:=1},true)))))));.br (decide ((↑E20:Int)>(0:Int))) (.cn (bT 3 3&&bJ 0 3&&decide ((0:Int)<=(0:Int)/\0<(↑E20:Int))) (.br (!(x0.1.getD (dF 1+dF 0) (RK.cq RK.ax)).Ah) (.lf (Sum.inr ([],{ee:=[],op:=0,l:=[],D7:=0,at_:=0,size:=0},false))) T6)) T6));let E25:=dF (x0.1.length:Int)-dF 2;let E8:=(↑E25:Int);let nh:=x0.1.getD (dF 2+dF 0) (RK.cq RK.ax);let oW:=x0.1.getD (dF 1) (RK.cq RK.ax);let E16:=bT 3 3&&bJ 0 3&&decide ((0:Int)<=(0:Int)/\0<(x0.1.length:Int));let E17:=bT 3 3&&bJ 0 3&&decide ((0:Int)<=(1:Int)/\1<(x0.1.length:Int));let E19:=bT 3 3&&bJ 0 3&&decide ((0:Int)<=(2:Int)/\2<=(x0.1.length:Int)/\(x0.1.length:Int)<=(x0.1.length:Int));let E28:=bT 3 3&&bJ 0 3&&decide ((0:Int)<=(0:Int)/\0<E8);let E30:=decide ((x0.1.length:Int)>=(2:Int));let T3:Tree ((List UInt8×Int)⊕(((List UInt8)×kz×Bool))):=.br ((x0.1.length:Int)==(0:Int)) (.lf (Sum.inr ([],{ee:=[],op:=0,l:=[],D7:=0,at_:=0,size:=0},true))) (.cn E16 (.cn (bT 3 3&&bJ 0 3&&decide ((0:Int)<=(1:Int)/\1<=(x0.1.length:Int)/\(x0.1.length:Int)<=(x0.1.length:Int))) (.br (decide (E9.text=[(46:UInt8)])) (.br E30 (.cn E17 (.br (!oW.Ah) (.cn E17 (.cn (decide (1+dK oW.text<=maxLen)) (.cn E19 (.an (NL ((46:UInt8)::oW.text)) (.lv (VC ([(46:UInt8)]++oW.text)) λ(FD:List UInt8×Bool)=>.br (!FD.2) (.lf (Sum.inr ([],{ee:=[],op:=0,l:=[],D7:=0,at_:=0,size:=0},false))) (let T7:Tree ((List UInt8×Int)⊕(((List UInt8)×kz×Bool))):=let E32:=dB E25 (dC (dF 2) x0.1);.an (NO E32 FD.1) (.lv (VD E32 FD.1) λ(R5:List nC×Bool)=>.br (!R5.2) (.lf (Sum.inr ([],{ee:=[],op:=0,l:=[],D7:=0,at_:=0,size:=0},false))) (.an (KK ((46:UInt8)::oW.text)) (.lv (R4 ([(46:UInt8)]++oW.text)) λ(EA:Int)=>.br (decide ([(46:UInt8)]++oW.text=[(46:UInt8),115,112,97,99,101])) (let H4:=bT 3 3&&bJ 0 3&&decide ((0:Int)<=(0:Int)/\0<(R5.1.length:Int));.cn H4 (let E22:=R5.1.getD (dF 0) (RK.cq RK.bb);.br (decide (E22.num<0)) (.lf (Sum.inr ([],{ee:=[],op:=0,l:=[],D7:=0,at_:=0,size:=0},false))) (.cn H4 (.br (decide (E22.num>1024)) (.lf (Sum.inr ([],{ee:=[],op:=0,l:=[],D7:=0,at_:=0,size:=0},false))) (.cn H4 (.lf (Sum.inr ([],{ee:=(46:UInt8)::oW.text,op:=EA,l:=R5.1,D7:=0,at_:=0,size:=E22.num},true)))))))) (.lf (Sum.inr ([],{ee:=(46:UInt8)::oW.text,op:=EA,l:=R5.1,D7:=0,at_:=0,size:=1},true))))));.br (decide (E8>(0:Int))) (.cn E28 (.br (!nh.Ah) (.lf (Sum.inr ([],{ee:=[],op:=0,l:=[],D7:=0,at_:=0,size:=0},false))) T7)) T7)))))) T1)) T1) T1)));.br E30 (.cn E17 (.br (decide (oW.text=[(58:UInt8)])) (.cn E16 (.cn E16 (.br (E9.kind !=1) (.lf (Sum.inr ([],{ee:=[],op:=0,l:=[],D7:=0,at_:=0,size:=0},false))) (.an (WU E9.text) (.lv (Z4j E9.text) λ(x1:Bool)=>.br (!x1) (.lf (Sum.inr ([],{ee:=[],op:=0,l:=[],D7:=0,at_:=0,size:=0},false))) (.cn E19 (.br (E8==(0:Int)) (.lf (Sum.inr (E9.text,{ee:=[],op:=0,l:=[],D7:=0,at_:=0,size:=0},true))) (.cn E28 (.cn (bT 3 3&&bJ 0 3&&decide ((0:Int)<=(1:Int)/\1<=E8/\E8<=E8)) (let T2:Tree ((List UInt8×Int)⊕(((List UInt8)×kz×Bool))):=.an (NL nh.text) (.lv (VC nh.text) λ(x7:List UInt8×Bool)=>.br (!x7.2) (.lf (Sum.inr ([],{ee:=[],op:=0,l:=[],D7:=0,at_:=0,size:=0},false))) (let T4:Tree ((List UInt8×Int)⊕(((List UInt8)×kz×Bool))):=let E26:=dB (dF E8-dF 1) (dC (dF 2+dF 1) x0.1);.an (NO E26 x7.1) (.lv (VD E26 x7.1) λ(x8:List nC×Bool)=>.br (!x8.2) (.lf (Sum.inr ([],{ee:=[],op:=0,l:=[],D7:=0,at_:=0,size:=0},false))) (.an (KK nh.text) (.lv (R4 nh.text) λ(x9:Int)=>.br (decide (nh.text=[(108:UInt8),105])) (.lf (Sum.inr (E9.text,{ee:=nh.text,op:=x9,l:=x8.1,D7:=0,at_:=0,size:=2},true))) (.br (decide (nh.text=[(46:UInt8),115,112,97,99,101])) (let H5:=bT 3 3&&bJ 0 3&&decide ((0:Int)<=(0:Int)/\0<(x8.1.length:Int));.cn H5 (let E23:=x8.1.getD (dF 0) (RK.cq RK.bb);.br (decide (E23.num<0)) (.lf (Sum.inr ([],{ee:=[],op:=0,l:=[],D7:=0,at_:=0,size:=0},false))) (.cn H5 (.br (decide (E23.num>1024)) (.lf (Sum.inr ([],{ee:=[],op:=0,l:=[],D7:=0,at_:=0,size:=0},false))) (.cn H5 (.lf (Sum.inr (E9.text,{ee:=nh.text,op:=x9,l:=x8.1,D7:=0,at_:=0,size:=E23.num},true)))))))) (.lf (Sum.inr (E9.text,{ee:=nh.text,op:=x9,l:=x8.1,D7:=0,at_:=0,size:=1},true)))))));.br (decide ((↑(dF E8-dF 1):Int)>(0:Int))) (.cn (bT 3 3&&bJ 0 3&&decide ((0:Int)<=(0:Int)/\0<(↑(dF E8-dF 1):Int))) (.br (!(x0.1.getD (dF 2+dF 1+dF 0) (RK.cq RK.ax)).Ah) (.lf (Sum.inr ([],{ee:=[],op:=0,l:=[],D7:=0,at_:=0,size:=0},false))) T4)) T4));.br (decide (nh.text=[(46:UInt8)])) (.br (decide (E8>=(2:Int))) (let E29:=bT 3 3&&bJ 0 3&&decide ((0:Int)<=(1:Int)/\1<E8);.cn E29 (let nW:=x0.1.getD (dF 2+dF 1) (RK.cq RK.ax);.br (!nW.Ah) (.cn E29 (.cn (decide (1+dK nW.text<=maxLen)) (.cn (bT 3 3&&bJ 0 3&&decide ((0:Int)<=(2:Int)/\2<=E8/\E8<=E8)) (.an (NL ((46:UInt8)::nW.text)) (.lv (VC ([(46:UInt8)]++nW.text)) λ(x2:List UInt8×Bool)=>.br (!x2.2) (.lf (Sum.inr ([],{ee:=[],op:=0,l:=[],D7:=0,at_:=0,size:=0},false))) (let T5:Tree ((List UInt8×Int)⊕(((List UInt8)×kz×Bool))):=let E27:=dB (dF E8-dF 2) (dC (dF 2+dF 2) x0.1);.an (NO E27 x2.1) (.lv (VD E27 x2.1) λ(x3:List nC×Bool)=>.br (!x3.2) (.lf (Sum.inr ([],{ee:=[],op:=0,l:=[],D7:=0,at_:=0,size:=0},false))) (.an (KK ((46:UInt8)::nW.text)) (.lv (R4 ([(46:UInt8)]++nW.text)) λ(x4:Int)=>.br (decide ([(46:UInt8)]++nW.text=[(46:UInt8),115,112,97,99,101])) (let E18:=bT 3 3&&bJ 0 3&&decide ((0:Int)<=(0:Int)/\0<(x3.1.length:Int));.cn E18 (let E24:=x3.1.getD (dF 0) (RK.cq RK.bb);.br (decide (E24.num<0)) (.lf (Sum.inr ([],{ee:=[],op:=0,l:=[],D7:=0,at_:=0,size:=0},false))) (.cn E18 (.br (decide (E24.num>1024)) (.lf (Sum.inr ([],{ee:=[],op:=0,l:=[],D7:=0,at_:=0,size:=0},false))) (.cn E18 (.lf (Sum.inr (E9.text,{ee:=(46:UInt8)::nW.text,op:=x4,l:=x3.1,D7:=0,at_:=0,size:=E24.num},true)))))))) (.lf (Sum.inr (E9.text,{ee:=(46:UInt8)::nW.text,op:=x4,l:=x3.1,D7:=0,at_:=0,size:=1},true))))));.br (decide ((↑(dF E8-dF 2):Int)>(0:Int))) (.cn (bT 3 3&&bJ 0 3&&decide ((0:Int)<=(0:Int)/\0<(↑(dF E8-dF 2):Int))) (.br (!(x0.1.getD (dF 2+dF 2+dF 0) (RK.cq RK.ax)).Ah) (.lf (Sum.inr ([],{ee:=[],op:=0,l:=[],D7:=0,at_:=0,size:=0},false))) T5)) T5)))))) T2)) T2) T2)))))))))) T3)) T3)))
def Z2l s:=(NQ s).m
abbrev Qhy s:=(NQ s).p
def Z7b:bu:={
 α:=(List UInt8)×(Int)
 F:=λst a=>([(0,.str a.1),(2,(lk st 2)),(3,.ptr 0 0 0),(4,(lk st 4)),(5,.int i64 a.2)],[⟨true,175,6,.gen [[(cT st 3 0),(cT st 3 1),(cT st 3 2),(cT st 3 3),(cT st 3 4),(cT st 3 5)]]⟩])
 a0:=λst=>((lk st 0).toStr,(lk st 5).toInt)
 jn:=λst=>[]++[(rX st 3 0)]}
def Z0e:List (Nat×bu):=[(2,Z7b)]
def Zae:bc:=mT 152 [] false [.one (.str)] [] (λa r=>NQ (il a 0)) (λX=>.dt [.str (X.1),.agg (kz.cells (X.2.1)),.bool (X.2.2)]) (λX=>[])
theorem Z77:bj pG Zae:=oT (.cons Z60 (.cons Qyb (.cons Z2b (.cons Z2e (.cons Ql (.nil)))))) Tryz.func152 Tryz.call152 [.sl (.av .bb) false] Z0e 3 (jS:=nofun)
def Qlg(l:List ob)(label:List UInt8)(z:(Int)):Prop:=0<=z/\z<=l.length
def Qcp(l:List ob)(label:List UInt8)(z:(Int)):Nat:=(l.length-z).toNat
def VE(l:List ob)(label:List UInt8):Tree (Int×Bool):=
.lp inferInstance (Qcp l label 0+1) ((nR RK.dk 2 l/\rE (label:List UInt8)/\rE (0:Int)/\True)/\True) 0 λ(v0:Int)=>.br (decide (v0<(l.length:Int))) (let E1:=bT 2 2&&bJ 0 2&&decide (0<=v0/\v0<(l.length:Int));.cn E1 (let E2:=l.getD v0.toNat (RK.cq RK.dk);.br (decide (E2.Name=label)) (.cn E1 (.lf (Sum.inr (E2.Addr,true)))) (.nx ((nR RK.dk 2 l/\rE (label:List UInt8)/\rE ((wrap i64 (v0+1)):Int)/\True)/\True) (Sum.inl (wrap i64 (v0+1)))))) (.lf (Sum.inr (0,false)))
def Qpb l label:=(VE l label).m
def GB(l:List ob)(label:List UInt8):Prop:=
l.length<=1000000000000
theorem Z0g(l:List ob)(label:List UInt8)(hw:GB l label):(VE l label).p:=by
 simp only[GB]at hw
 unfold Tree.p VE
 repeat'(first|refine fy (inv:=Qlg l label) (μ:=Qcp l label) ?_ (cO _) (λ_ _=>?_)|exact trivial|refine aa (λ_=>?_) (λ_=>?_)|refine ba ?_ ?_|refine cz ?_ ?_|refine ar (λ_ _=>?_)|refine fg ?_|refine ey ?_|refine And.intro ?_ ?_)
 all_goals((try simp only[Qlg,Qcp]at*);exact oI)
def Z41:bu:={
 α:=(Int)
 F:=λst a=>([(0,(lk st 0)),(1,(lk st 1)),(6,.int i64 a)],[])
 a0:=λst=>(lk st 6).toInt
 jn:=λst=>[]++[]}
def Qwh:List (Nat×bu):=[(2,Z41)]
def Z6x:bc:=mM 95 [] true [.one (.av .dk),.one (.str)] [] (λa r=>GB (jh .dk a 0) (il a 1)) (λa r=>Qpb (jh .dk a 0) (il a 1)) (λX=>.dt [.int .u32 (X.1),.bool (X.2)]) (λX=>[])
theorem Qnq:bj pG Z6x:=u5 drawn mN (.nil) Tryz.func95 Tryz.call95 (λa r=>VE (jh .dk a 0) (il a 1)) [] Qwh 3 (hp:=λa r h=>Z0g (jh .dk a 0) (il a 1) h)
def Z3t(src:List UInt8)(z:(Int)×(Int)×(List ob)×(List kz)):Nat:=((Qwn src).length-z.2.1).toNat
def NR(src:List UInt8):Tree ((List ob)×(List kz)×tq):=
.br (decide ((src.length:Int)>(8192:Int))) (.lf ([],[],{Af:=300,nB:=0})) (.an (Qjs src) (.lv (Qwn src) λ(x0:List (List UInt8))=>.lp inferInstance (Z3t src (0,0,[],[])+1) ((rZ/\True/\True/\rE (0:Int)/\True/\rE (0:Int)/\True)/\(rE (0:Int)/\rE (0:Int)/\True)/\rE (x0:List (RK.T RK.str))/\rE ([]:List (RK.T RK.dk))/\rE ([]:List (RK.T RK.ai))/\True) (0,0,[],[]) λ(v0:Int×Int×List ob×List kz)=>.br (decide (v0.2.1<(x0.length:Int))) (.cn (bT 1 1&&bJ 0 1&&decide (0<=v0.2.1/\v0.2.1<(x0.length:Int))) (let E3:=x0.getD v0.2.1.toNat (RK.cq RK.str);.an (Qhy E3) (.lv (Z2l E3) λ(x1:List UInt8×kz×Bool)=>.br (!x1.2.2) (.lf (Sum.inr ([],[],{Af:=301,nB:=wrap i64 (v0.2.1+1)}))) (let E1:=({Af:=305,nB:=wrap i64 (v0.2.1+1)}:tq);let E2:=decide (72*(v0.2.2.2.length+1)<=140737488355328);let E4:=decide (wrap i64 (v0.1+x1.2.1.size)>1024);.br (!decide (x1.1=[])) (.an (GB v0.2.2.1 x1.1) (.lv (Qpb v0.2.2.1 x1.1) λ(x2:Int×Bool)=>.br x2.2 (.lf (Sum.inr ([],[],{Af:=303,nB:=wrap i64 (v0.2.1+1)}))) (.cn (decide (24*(v0.2.2.1.length+1)<=140737488355328)) (let E5:=({Name:=x1.1,Addr:=wrap u32 (wrap i64 (4*v0.1))}:ob);.br (!decide (x1.2.1.ee=[])) (.cn E2 (.br E4 (.lf (Sum.inr ([],[],E1))) (.nx ((rZ/\True/\True/\rE ((wrap i64 (v0.1+x1.2.1.size)):Int)/\True/\rE ((wrap i64 (v0.2.1+1)):Int)/\True)/\(rE (0:Int)/\rE (0:Int)/\True)/\rE (x0:List (RK.T RK.str))/\rE ((v0.2.2.1++[{Name:=x1.1,Addr:=wrap u32 (wrap i64 (4*v0.1))}]):List (RK.T RK.dk))/\rE ((v0.2.2.2++[{ee:=x1.2.1.ee,op:=x1.2.1.op,l:=x1.2.1.l,D7:=wrap i64 (v0.2.1+1),at_:=v0.1,size:=x1.2.1.size}]):List (RK.T RK.ai))/\True) (Sum.inl (wrap i64 (v0.1+x1.2.1.size),wrap i64 (v0.2.1+1),v0.2.2.1++[E5],v0.2.2.2++[{ee:=x1.2.1.ee,op:=x1.2.1.op,l:=x1.2.1.l,D7:=wrap i64 (v0.2.1+1),at_:=v0.1,size:=x1.2.1.size}]))))) (.br (decide (v0.1>1024)) (.lf (Sum.inr ([],[],E1))) (.nx ((rZ/\True/\True/\rE v0.1/\True/\rE ((wrap i64 (v0.2.1+1)):Int)/\True)/\(rE (0:Int)/\rE (0:Int)/\True)/\rE (x0:List (RK.T RK.str))/\rE ((v0.2.2.1++[{Name:=x1.1,Addr:=wrap u32 (wrap i64 (4*v0.1))}]):List (RK.T RK.dk))/\rE v0.2.2.2/\True) (Sum.inl (v0.1,wrap i64 (v0.2.1+1),v0.2.2.1++[E5],v0.2.2.2)))))))) (.br (!decide (x1.2.1.ee=[])) (.cn E2 (.br E4 (.lf (Sum.inr ([],[],E1))) (.nx ((rZ/\True/\True/\rE ((wrap i64 (v0.1+x1.2.1.size)):Int)/\True/\rE ((wrap i64 (v0.2.1+1)):Int)/\True)/\(rE (0:Int)/\rE (0:Int)/\True)/\rE (x0:List (RK.T RK.str))/\rE v0.2.2.1/\rE ((v0.2.2.2++[{ee:=x1.2.1.ee,op:=x1.2.1.op,l:=x1.2.1.l,D7:=wrap i64 (v0.2.1+1),at_:=v0.1,size:=x1.2.1.size}]):List (RK.T RK.ai))/\True) (Sum.inl (wrap i64 (v0.1+x1.2.1.size),wrap i64 (v0.2.1+1),v0.2.2.1,v0.2.2.2++[{ee:=x1.2.1.ee,op:=x1.2.1.op,l:=x1.2.1.l,D7:=wrap i64 (v0.2.1+1),at_:=v0.1,size:=x1.2.1.size}]))))) (.br (decide (v0.1>1024)) (.lf (Sum.inr ([],[],E1))) (.nx ((rZ/\True/\True/\rE v0.1/\True/\rE ((wrap i64 (v0.2.1+1)):Int)/\True)/\(rE (0:Int)/\rE (0:Int)/\True)/\rE (x0:List (RK.T RK.str))/\rE v0.2.2.1/\rE v0.2.2.2/\True) (Sum.inl (v0.1,wrap i64 (v0.2.1+1),v0.2.2.1,v0.2.2.2))))))))) (.lf (Sum.inr (v0.2.2.1,v0.2.2.2,{Af:=0,nB:=0})))))
def Z3r src:=(NR src).m
abbrev Qml src:=(NR src).p
def Zhy:bu:={
 α:=(Int)×(Int)×(List ob)×(List kz)
 F:=λst a=>([(4,.ptr 0 0 0),(5,.all 2),(6,.all 3),(7,.int i64 a.1),(8,.all 1),(9,.int i64 a.2.1)],[⟨true,112,2,.gen [[(cT st 4 0),(cT st 4 1)]]⟩,⟨false,9,1,ph st.rows (rN st 8)⟩,⟨false,238,2,.av RK.dk a.2.2.1⟩,⟨false,175,6,.av RK.ai a.2.2.2⟩])
 a0:=λst=>((lk st 7).toInt,(lk st 9).toInt,(tz RK.dk st.rows (rN st 5)),(tz RK.ai st.rows (rN st 6)))
 jn:=λst=>[]++[(rX st 4 0),(rX st 8 1),(rX st 5 2),(rX st 6 3)]}
def Z65:List (Nat×bu):=[(8,Zhy)]
def Zlf:bc:=mT 94 [] false [.one (.str)] [] (λa r=>NR (il a 0)) (λX=>.dt [.all 0,.all 1,.agg (tq.cells (X.2.2))]) (λX=>[⟨false,238,2,.av .dk (X.1)⟩,⟨false,175,6,.av .ai (X.2.1)⟩])
theorem Zet:bj pG Zlf:=oT (.cons Ze3 (.cons Z77 (.cons Qnq (.nil)))) Tryz.func94 Tryz.call94 [.row 238 2 (.av .dk),.row 175 6 (.av .ai)] Z65 3 (jS:=nofun)
def NT(st:kz)(v:Int):Tree (Int×Bool):=
.lv (oR st.op) λ(x0:Int)=>.lv (Xk x0) λ(x1:Int×Int)=>let E7:=st.l.getD (dF 0) (RK.cq RK.bb);let E8:=st.l.getD (dF 1) (RK.cq RK.bb);let E9:=bT 3 3&&bJ 0 3&&decide ((0:Int)<=(0:Int)/\0<(st.l.length:Int));let nh:=bT 3 3&&bJ 0 3&&decide ((0:Int)<=(1:Int)/\1<(st.l.length:Int));let nW:=st.l.getD (dF 2) (RK.cq RK.bb);let oW:=bT 3 3&&bJ 0 3&&decide ((0:Int)<=(2:Int)/\2<(st.l.length:Int));.br (x0==2) (.cn E9 (.cn nh (.cn oW (let T2:Tree ((Int×Bool)):=.br (decide (0<x1.1)) (.lf (0,false)) (.br (decide (0>x1.2)) (.lf (0,false)) (.lv (oQ {Op:=st.op,A:=E7.kF,B:=E8.kF,C:=nW.kF,bn:=wrap i32 0}) λ(x2:Int×Bool)=>.lf (x2.1,x2.2)));.br (x0==2) T2 (.br (x0==1) T2 (.br (decide (v<x1.1)) (.lf (0,false)) (.br (decide (v>x1.2)) (.lf (0,false)) (.lv (oQ {Op:=st.op,A:=E7.kF,B:=E8.kF,C:=nW.kF,bn:=wrap i32 v}) λ(x4:Int×Bool)=>.lf (x4.1,x4.2))))))))) (let T1:Tree ((Int×Bool)):=.br (decide (x0>=6)) (.cn E9 (let T5:Tree ((Int×Bool)):=.br (decide (0<x1.1)) (.lf (0,false)) (.br (decide (0>x1.2)) (.lf (0,false)) (.lv (oQ {Op:=st.op,A:=E7.kF,B:=0,C:=0,bn:=wrap i32 0}) λ(x8:Int×Bool)=>.lf (x8.1,x8.2)));.br (x0==2) T5 (.br (x0==1) T5 (.br (decide (v<x1.1)) (.lf (0,false)) (.br (decide (v>x1.2)) (.lf (0,false)) (.lv (oQ {Op:=st.op,A:=E7.kF,B:=0,C:=0,bn:=wrap i32 v}) λ(jM:Int×Bool)=>.lf (jM.1,jM.2))))))) (.br (x0 !=1) (.cn E9 (.cn nh (let T3:Tree ((Int×Bool)):=.br (decide (0<x1.1)) (.lf (0,false)) (.br (decide (0>x1.2)) (.lf (0,false)) (.lv (oQ {Op:=st.op,A:=E7.kF,B:=E8.kF,C:=0,bn:=wrap i32 0}) λ(mr:Int×Bool)=>.lf (mr.1,mr.2)));.br (x0==2) T3 (.br (x0==1) T3 (.br (decide (v<x1.1)) (.lf (0,false)) (.br (decide (v>x1.2)) (.lf (0,false)) (.lv (oQ {Op:=st.op,A:=E7.kF,B:=E8.kF,C:=0,bn:=wrap i32 v}) λ(lU:Int×Bool)=>.lf (lU.1,lU.2)))))))) (let T6:Tree ((Int×Bool)):=.br (decide (0<x1.1)) (.lf (0,false)) (.br (decide (0>x1.2)) (.lf (0,false)) (.lv (oQ {Op:=st.op,A:=0,B:=0,C:=0,bn:=wrap i32 0}) λ(uz:Int×Bool)=>.lf (uz.1,uz.2)));.br (x0==2) T6 (.br (x0==1) T6 (.br (decide (v<x1.1)) (.lf (0,false)) (.br (decide (v>x1.2)) (.lf (0,false)) (.lv (oQ {Op:=st.op,A:=0,B:=0,C:=0,bn:=wrap i32 v}) λ(uA:Int×Bool)=>.lf (uA.1,uA.2)))))));.br (decide (st.op>=32)) (.br (decide (st.op<=36)) (.cn E9 (.cn oW (.cn nh (let T4:Tree ((Int×Bool)):=.br (decide (0<x1.1)) (.lf (0,false)) (.br (decide (0>x1.2)) (.lf (0,false)) (.lv (oQ {Op:=st.op,A:=E7.kF,B:=nW.kF,C:=0,bn:=wrap i32 0}) λ(x5:Int×Bool)=>.lf (x5.1,x5.2)));.br (x0==2) T4 (.br (x0==1) T4 (.br (decide (E8.num<x1.1)) (.lf (0,false)) (.br (decide (E8.num>x1.2)) (.lf (0,false)) (.lv (oQ {Op:=st.op,A:=E7.kF,B:=nW.kF,C:=0,bn:=wrap i32 E8.num}) λ(x7:Int×Bool)=>.lf (x7.1,x7.2))))))))) T1) T1)
def VF st v:=(NT st v).m
abbrev NS st v:=(NT st v).p
def Ziv:bc:=mT 97 [] true [.agg kz.sig,.one (.int .i64)] [] (λa r=>NT (kz.of (aC a 0)) (aq a 1)) (λX=>.dt [.int .u32 (X.1),.bool (X.2)]) (λX=>[])
theorem Zhi:bj pG Ziv:=oT (.cons RX (.cons Qs3 (.cons Qk1 (.nil)))) Tryz.func97 Tryz.call97 [] [] 2

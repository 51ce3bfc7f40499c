import Derived.Test.YthjfindbamdacaaGreatDoorPostRunsYz
open UInt8 renaming toNat->eQ,ofNat->eR
open List renaming take->cW,drop->cX,length->dG,getD->aK
open Int renaming toNat->dB,tdiv->eN
open Nat renaming lt_succ_self->cL,beq->bT,blt->bJ
set_option maxRecDepth 100000
set_option linter.all false
namespace Go.Proofs.YthjfindbamdacaaGreatDoor
open Go Go.GD Go.IntKind
noncomputable section
instance sumInhZd {α β:Type} [Inhabited β]:Inhabited (α⊕β):=⟨.inr default⟩
def Qz2(src:List UInt8)(z:(Int)×(Int)×(List (List UInt8))):Nat:=(src.length-z.2.1).toNat
def Qfl(src:List UInt8):Tree (List (List UInt8)):=
.lp inferInstance (Qz2 src (0,0,[])+1) ((rE (src:List UInt8)/\True/\rE (0:Int)/\rE (0:Int)/\True)/\rE ([]:List (RK.T RK.str))/\True) (0,0,[]) λ(v0:Int×Int×List (List UInt8))=>let E1:=decide (16*(v0.2.2.length+1)<=140737488355328);.br (decide (v0.2.1<(src.length:Int))) (.cn (decide (0<=v0.2.1/\v0.2.1<(src.length:Int))) (.br ((↑(eQ (src.getD v0.2.1.toNat (0:UInt8))):Int)==(10:Int)) (.cn (decide (0<=v0.1/\v0.1<=v0.2.1/\v0.2.1<=(src.length:Int))) (.cn E1 (.nx ((rE (src:List UInt8)/\True/\rE ((wrap i64 (v0.2.1+1)):Int)/\rE ((wrap i64 (v0.2.1+1)):Int)/\True)/\rE ((v0.2.2++[cW (dB v0.2.1-dB v0.1) (cX v0.1.toNat src)]):List (RK.T RK.str))/\True) (Sum.inl (wrap i64 (v0.2.1+1),wrap i64 (v0.2.1+1),v0.2.2++[cW (dB v0.2.1-dB v0.1) (cX v0.1.toNat src)]))))) (.nx ((rE (src:List UInt8)/\True/\rE v0.1/\rE ((wrap i64 (v0.2.1+1)):Int)/\True)/\rE v0.2.2/\True) (Sum.inl (v0.1,wrap i64 (v0.2.1+1),v0.2.2))))) (.br (decide (v0.1<(src.length:Int))) (.cn (decide (0<=v0.1/\v0.1<=(src.length:Int)/\(src.length:Int)<=(src.length:Int))) (.cn E1 (.lf (Sum.inr (v0.2.2++[cW (dB (src.length:Int)-dB v0.1) (cX v0.1.toNat src)]))))) (.lf (Sum.inr v0.2.2)))
def Qwn src:=(Qfl src).m
abbrev Qkf src:=(Qfl src).p
def Z87:LInv:={
 α:=(Int)×(Int)×(List (List UInt8))
 F:=λst a=>([(0,(lk st 0)),(3,.all 0),(4,.int i64 a.1),(5,.int i64 a.2.1)],[⟨false,9,1,.recs RK.str a.2.2⟩])
 a0:=λst=>((lk st 4).toInt,(lk st 5).toInt,(Qn5 RK.str st.rows (rN st 3)))
 ex0:=λst=>[]++[(rX st 3 0)]}
def Z2u:List (Nat×LInv):=[(4,Z87)]
def Zf5:Q0b:=mT 151 [] true [.one (.str)] [] (λa r=>Qfl (argS a 0)) (λX=>.all 0) (λX=>[⟨false,9,1,.recs .str X⟩])
theorem Zav:Q04 pG Zf5:=oT (.nil) Tryz.func151 Tryz.call151 [.row 9 1 (.recs .str)] Z2u 3
def Qul(c:Int):Tree Bool:=
.br (decide (c>=97)) (.lf (decide (c<=122))) (.lf false)
def Qie c:=(Qul c).m
def Zbm:Q0b:=mS 287 [] true [.one (.int .u8)] [] (λa r=>Qul (argI a 0)) (λX=>.bool X) (λX=>[])
theorem Qqt:Q04 pG Zbm:=oS (.nil) Tryz.func287 Tryz.call287 [] [] 2
def Qxe(c:Int):Tree Bool:=
.br (decide (c>=48)) (.lf (decide (c<=57))) (.lf false)
def Qdx c:=(Qxe c).m
def Zec:Q0b:=mS 288 [] true [.one (.int .u8)] [] (λa r=>Qxe (argI a 0)) (λX=>.bool X) (λX=>[])
theorem Qui:Q04 pG Zec:=oS (.nil) Tryz.func288 Tryz.call288 [] [] 2
def Qv6(s:List UInt8)(z:(Bool)×(Int)×(List Q0j)):Nat:=(s.length-z.2.1).toNat
def Qw4(s:List UInt8)(v0:Bool×Int×List Q0j)(z:(Int)):Nat:=(s.length-z).toNat
def Qvo(s:List UInt8)(v0:Bool×Int×List Q0j)(z:(Int)):Nat:=(s.length-z).toNat
def Qd6(s:List UInt8):Tree ((List Q0j)×Bool):=
.lp inferInstance (Qv6 s (true,0,[])+1) ((rE (s:List UInt8)/\True/\rE (true:Bool)/\rE (0:Int)/\True)/\rE ([]:List (RK.T RK.vmfleetref1Token))/\True) (true,0,[]) λ(v0:Bool×Int×List Q0j)=>.br (decide (v0.2.1<(s.length:Int))) (.cn (decide (0<=v0.2.1/\v0.2.1<(s.length:Int))) (let E7:=(↑(eQ (s.getD v0.2.1.toNat (0:UInt8))):Int);.br (E7==(32:Int)) (.nx ((rE (s:List UInt8)/\True/\rE (true:Bool)/\rE ((wrap i64 (v0.2.1+1)):Int)/\True)/\rE v0.2.2/\True) (Sum.inl (true,wrap i64 (v0.2.1+1),v0.2.2))) (.lv (Qie E7) λ(x0:Bool)=>let E10:=decide (32*(v0.2.2.length+1)<=140737488355328);let E13:=cX v0.2.1.toNat s;.br x0 (.lp inferInstance (Qw4 s v0 v0.2.1+1) ((rE (s:List UInt8)/\True/\rE v0.1/\rE v0.2.1/\rE v0.2.1/\True)/\rE v0.2.2/\True) v0.2.1 λ(v1:Int)=>let T3:Tree ((Int)⊕((Bool×Int×List Q0j)⊕(((List Q0j)×Bool)))):=.cn (decide (0<=v0.2.1/\v0.2.1<=v1/\v1<=(s.length:Int))) (.cn E10 (.nx ((rE (s:List UInt8)/\True/\rE (false:Bool)/\rE (v1:Int)/\True)/\rE ((v0.2.2++[{kind:=1,text:=cW (dB v1-dB v0.2.1) (cX v0.2.1.toNat s),gap:=v0.1}]):List (RK.T RK.vmfleetref1Token))/\True) (Sum.inr (Sum.inl (false,v1,v0.2.2++[{kind:=1,text:=cW (dB v1-dB v0.2.1) E13,gap:=v0.1}])))));.br (decide (v1<(s.length:Int))) (let E11:=decide (0<=v1/\v1<(s.length:Int));.cn E11 (let E8:=(↑(eQ (s.getD v1.toNat (0:UInt8))):Int);.lv (Qie E8) λ(x1:Bool)=>let T5:Tree ((Int)⊕((Bool×Int×List Q0j)⊕(((List Q0j)×Bool)))):=.nx ((rE (s:List UInt8)/\True/\rE v0.1/\rE ((wrap i64 (v1+1)):Int)/\rE v0.2.1/\True)/\rE v0.2.2/\True) (Sum.inl (wrap i64 (v1+1)));.br x1 T5 (.cn E11 (.lv (Qdx E8) λ(x2:Bool)=>.br x2 T5 (.cn E11 (.br (E8==(95:Int)) T5 T3)))))) T3) (.lv (Qdx E7) λ(x3:Bool)=>let T2:Tree ((Bool×Int×List Q0j)⊕(((List Q0j)×Bool))):=.lp inferInstance (Qvo s v0 (wrap i64 (v0.2.1+1))+1) ((rE (s:List UInt8)/\True/\rE v0.1/\rE ((wrap i64 (v0.2.1+1)):Int)/\rE v0.2.1/\True)/\rE v0.2.2/\True) (wrap i64 (v0.2.1+1)) λ(v1:Int)=>let T4:Tree ((Int)⊕((Bool×Int×List Q0j)⊕(((List Q0j)×Bool)))):=.cn (decide (0<=v0.2.1/\v0.2.1<=v1/\v1<=(s.length:Int))) (.cn E10 (.nx ((rE (s:List UInt8)/\True/\rE (false:Bool)/\rE (v1:Int)/\True)/\rE ((v0.2.2++[{kind:=2,text:=cW (dB v1-dB v0.2.1) (cX v0.2.1.toNat s),gap:=v0.1}]):List (RK.T RK.vmfleetref1Token))/\True) (Sum.inr (Sum.inl (false,v1,v0.2.2++[{kind:=2,text:=cW (dB v1-dB v0.2.1) E13,gap:=v0.1}])))));.br (decide (v1<(s.length:Int))) (let E12:=decide (0<=v1/\v1<(s.length:Int));.cn E12 (let E9:=(↑(eQ (s.getD v1.toNat (0:UInt8))):Int);.lv (Qie E9) λ(x4:Bool)=>let T6:Tree ((Int)⊕((Bool×Int×List Q0j)⊕(((List Q0j)×Bool)))):=.nx ((rE (s:List UInt8)/\True/\rE v0.1/\rE ((wrap i64 (v1+1)):Int)/\rE v0.2.1/\True)/\rE v0.2.2/\True) (Sum.inl (wrap i64 (v1+1)));.br x4 T6 (.cn E12 (.lv (Qdx E9) λ(x5:Bool)=>.br x5 T6 (.cn E12 (.br (E9==(95:Int)) T6 T4)))))) T4;.br x3 T2 (.br (E7==(45:Int)) T2 (let T1:Tree ((Bool×Int×List Q0j)⊕(((List Q0j)×Bool))):=.cn (decide (0<=v0.2.1/\v0.2.1<=wrap i64 (v0.2.1+1)/\wrap i64 (v0.2.1+1)<=(s.length:Int))) (.cn E10 (.nx ((rE (s:List UInt8)/\True/\rE (false:Bool)/\rE ((wrap i64 (v0.2.1+1)):Int)/\True)/\rE ((v0.2.2++[{kind:=3,text:=cW (dB (wrap i64 (v0.2.1+1))-dB v0.2.1) (cX v0.2.1.toNat s),gap:=v0.1}]):List (RK.T RK.vmfleetref1Token))/\True) (Sum.inl (false,wrap i64 (v0.2.1+1),v0.2.2++[{kind:=3,text:=cW (dB (wrap i64 (v0.2.1+1))-dB v0.2.1) E13,gap:=v0.1}]))));.br (E7==(44:Int)) T1 (.br (E7==(58:Int)) T1 (.br (E7==(40:Int)) T1 (.br (E7==(41:Int)) T1 (.br (E7==(46:Int)) T1 (.lf (Sum.inr ([],false))))))))))))) (.lf (Sum.inr (v0.2.2,true)))
def Z3b s:=(Qd6 s).m
abbrev Qif s:=(Qd6 s).p
def Z4p:LInv:={
 α:=(Bool)×(Int)×(List Q0j)
 F:=λst a=>([(0,(lk st 0)),(4,.all 0),(5,.bool a.1),(6,.int i64 a.2.1)],[⟨false,303,3,.recs RK.vmfleetref1Token a.2.2⟩])
 a0:=λst=>((lk st 5).toBool,(lk st 6).toInt,(Qn5 RK.vmfleetref1Token st.rows (rN st 4)))
 ex0:=λst=>[]++[(rX st 4 0)]}
def Z4v:LInv:={
 α:=(Int)
 F:=λst a=>([(0,(lk st 0)),(4,.all 0),(5,(lk st 5)),(6,.int i64 a),(8,(lk st 8))],[⟨false,303,3,esOf st.rows (rN st 4)⟩])
 a0:=λst=>(lk st 6).toInt
 ex0:=λst=>[]++[(rX st 4 0)]}
def Z4q:LInv:={
 α:=(Int)
 F:=λst a=>([(0,(lk st 0)),(4,.all 0),(5,(lk st 5)),(6,.int i64 a),(8,(lk st 8))],[⟨false,303,3,esOf st.rows (rN st 4)⟩])
 a0:=λst=>(lk st 6).toInt
 ex0:=λst=>[]++[(rX st 4 0)]}
def Qyo:List (Nat×LInv):=[(4,Z4p),(12,Z4v),(17,Z4q)]
def Z8w:Q0b:=mT 231 [] true [.one (.str)] [] (λa r=>Qd6 (argS a 0)) (λX=>.tup [.all 0,.bool (X.2)]) (λX=>[⟨false,303,3,.recs .vmfleetref1Token (X.1)⟩])
theorem Z4f:Q04 pG Z8w:=oT (.cons Qqt (.cons Qui (.nil))) Tryz.func231 Tryz.call231 [.row 303 3 (.recs .vmfleetref1Token)] Qyo 3
 def digT (p:Int->Prop) (r:Int->List UInt8) (n:Int):Tree (List UInt8):=
 .br (decide (n<(10:Int))) (.lf ([(λ(n:Int)=>eR n.toNat) (wrap u8 (wrap u64 ((48:Int)+n)))])) (.an (p (wrap u64 (eN n (10:Int)))) (.lv (r (wrap u64 (eN n (10:Int)))) λ(x0:List UInt8)=>.cn (decide (x0.length+dG [(λ(n:Int)=>eR n.toNat) (wrap u8 (wrap u64 ((48:Int)+Int.tmod n (10:Int))))]<=maxLen)) (.lf (x0++[(λ(n:Int)=>eR n.toNat) (wrap u8 (wrap u64 ((48:Int)+Int.tmod n (10:Int))))]))))
 def digF:Nat->Int->List UInt8
  |0,_=>[]
  |k+1,n=>(digT (λ_=>True) (digF k) n).m
 def digP (k:Nat) (n:Int):Prop:=0<=n/\n<10^k/\n<18446744073709551616/\0<k/\k<=30
 def digM (k:Nat):Q0b:=mkP 225 [] true [.one (.int .u64)] [] (λargs rows=>digP k (argI args 0)) (λargs rows=>digF k (argI args 0)) (λX=>.str X) (λX=>[])
 theorem digF_len:∀k n,(digF k n).length<=k
  |0,_=>Nat.le_refl _
  |k+1,n=>by
   show(bif decide (n<10)then _ else letv (digF k _) λx0=>x0++_).length<=k+1
   have:=digF_len k (wrap u64 (eN n 10))
   cases decide (n<10)
   ·simp[letv,Tree.m];omega
   ·simp[Tree.m]
 theorem digM_ok:∀k,Q04 pG (digM k)
  |0=>Z20 Tryz.call225 (λargs rows h=>absurd h.2.2.2.1 (Nat.lt_irrefl 0)) (λ_ X=>by kernel_rfl)
  |k + 1=>by
   refine Q0o drawn Q0m (.cons (digM_ok k) .nil) Tryz.func225 Tryz.call225 (λargs rows=>digT (digP k) (digF k) (argI args 0)) [] [] 2 (λ_ _ _=>by kernel_rfl) (λ_ _=>rfl) (λargs rows h=>?_) (λ_ X=>by kernel_rfl)
   obtain⟨h0,h1,h2,h3,h4⟩:=h
   generalize argI args 0=n at*
   refine w_br (λ_=>trivial) (λhn=>?_)
   have hn:=oN hn
   have e:wrap u64 (eN n 10)=n/10:=by rw[wrap_u64,Int.tdiv_eq_ediv_of_nonneg h0];omega
   refine w_an (show digP k _ from ?_) (w_lv λx hx=>w_cn (dY ?_) trivial)
   ·rw[e]
    rw[Int.pow_succ]at h1
    have hk:0<k:=by
     rcases Nat.eq_zero_or_pos k with rfl|h
     ·simp at h1;omega
     ·exact h
    exact⟨by omega,by omega,by omega,hk,by omega⟩
   ·have:=digF_len k (wrap u64 (eN n 10))
    rw[<-hx]at this
    simp[maxLen];omega
def Qej(n:Int):(List UInt8):=
digF 20 n
def Q3y(n:Int):Prop:=
0<=n/\n<18446744073709551616
def Qmx(n:Int):List D:=[.int .u64 n]
def Qmz(n:Int):List Row:=[]
def Qij(X:List UInt8):D:=.str X
def Qix(X:List UInt8):List Row:=[]
def Qov:List PT:=[.one (.int .u64)]
def Qn1:List RT:=[]
def Z3p(args:List D)(rows:List Row):(List UInt8):=Qej (argI args 0)
def Z03(args:List D)(rows:List Row):Prop:=Q3y (argI args 0)
def Z9p:Q0b:=mkP 225 [] true Qov Qn1 Z03 Z3p Qij Qix
theorem Quy(n:Int)(hw:Q3y n):Q4g pG 225 (Qmx n) (Qmz n) (Qij (Qej n)) (Qix (Qej n)):=by
 have h20:(18446744073709551616:Int)<=10^20:=by decide
 exact yw (args:=[.int .u64 n]) (rows:=[]) (digM_ok 20) (by kernel_rfl) ⟨hw.1,Int.lt_of_lt_of_le hw.2 h20,hw.2,by decide,by decide⟩
set_option maxRecDepth 100000 in
theorem Qyk(args:List D)(rows:List Row):Qp4 Qov args 0=Qmx (argI args 0):=by kernel_rfl
set_option maxRecDepth 100000 in
theorem Qwt(args:List D)(rows:List Row):Qbi Qn1 rows 0=Qmz (argI args 0):=by kernel_rfl
set_option maxRecDepth 100000 in
theorem Z41(X:List UInt8):(ffB (Qij X)&&ffBR (Qix X))=true:=by kernel_rfl
theorem Z5p:Q04 pG Z9p:=Z20 Tryz.call225 (λargs rows hp=>by rw[Qyk args rows,Qwt args rows];exact Quy (argI args 0) hp) (λ_ X=>Z41 X)
def Q7j(n:Int):Tree (List UInt8):=
.br (decide (n<0)) (let E1:=wrap u64 (wrap u64 (wrap i64 (0-wrap i64 (n+1)))+1);.an (Q3y E1) (.lv (Qej E1) λ(x0:List UInt8)=>.cn (decide (1+x0.length<=maxLen)) (.lf ((45:UInt8)::x0)))) (.an (Q3y (wrap u64 n)) (.lv (Qej (wrap u64 n)) λ(x1:List UInt8)=>.lf x1))
def Qnt n:=(Q7j n).m
abbrev Qfz n:=(Q7j n).p
def Z4h:Q0b:=mT 148 [] true [.one (.int .i64)] [] (λa r=>Q7j (argI a 0)) (λX=>.str X) (λX=>[])
theorem Z1d:Q04 pG Z4h:=oT (.cons Z5p (.nil)) Tryz.func148 Tryz.call148 [] [] 2
def Qer(r:Int):Tree (List UInt8):=
.an (Qfz r) (.lv (Qnt r) λ(x0:List UInt8)=>.cn (decide (1+x0.length<=maxLen)) (.lf ((114:UInt8)::x0)))
def Zju r:=(Qer r).m
abbrev Qnu r:=(Qer r).p
def Zmj:Q0b:=mT 309 [] true [.one (.int .i64)] [] (λa r=>Qer (argI a 0)) (λX=>.str X) (λX=>[])
theorem Zib:Q04 pG Zmj:=oT (.cons Z1d (.nil)) Tryz.func309 Tryz.call309 [] [] 2
def Qq7(s:List UInt8)(z:(Int)):Prop:=0<=z/\z<=16
def Qfr(s:List UInt8)(z:(Int)):Nat:=(16-z).toNat
def Qb0(s:List UInt8):Tree (Int×Bool):=
.lp inferInstance (Qfr s 0+1) ((rE (s:List UInt8)/\rE (0:Int)/\True)/\True) 0 λ(v0:Int)=>.br (decide (v0<16)) (.an (Qnu v0) (.lv (Zju v0) λ(x0:List UInt8)=>.br (decide (s=x0)) (.lf (Sum.inr (v0,true))) (.nx ((rE (s:List UInt8)/\rE ((wrap i64 (v0+1)):Int)/\True)/\True) (Sum.inl (wrap i64 (v0+1)))))) (.lf (Sum.inr (0,false)))
def Qiu s:=(Qb0 s).m
theorem Qs0(s:List UInt8):(Qb0 s).p:=by
 unfold Tree.p Qb0
 have dp:∀x,Q3y (wrap .u64 x):=λx=>by unfold Q3y;rw[wrap_u64];omega
 have dl:∀x,(Qej x).length<=20:=λx=>digF_len 20 x
 have hd:∀x,(Q7j x).w (λr=>r.length<=21):=λx=>by
  unfold Q7j
  refine w_br (λ_=>w_an (dp _) (w_lv λx0 h0=>w_cn (dY ?_) ?_)) (λ_=>w_an (dp _) (w_lv λx1 h1=>?_))
  ·have:=dl (wrap .u64 (wrap .u64 (wrap .i64 (0-wrap .i64 (x+1)))+1));rw[<-h0]at this;simp[maxLen];omega
  ·have:=dl (wrap .u64 (wrap .u64 (wrap .i64 (0-wrap .i64 (x+1)))+1));rw[<-h0]at this;show(_::x0).length<=21;simp;omega
  ·rw[h1];exact Nat.le_trans (dl _) (by decide)
 have hr:∀x,(Qer x).p:=λx=>by
  unfold Tree.p Qer
  refine w_an (Tree.pp (hd x)).1 (w_lv λx0 h0=>w_cn (dY ?_) trivial)
  have:(Qnt x).length<=21:=(Tree.pp (hd x)).2
  rw[<-h0]at this;simp[maxLen];omega
 refine w_lp (inv:=Qq7 s) (μ:=Qfr s) ⟨by decide,by decide⟩ (cL _) (λz hz=>?_)
 obtain⟨z1,z2⟩:=hz
 refine w_br (λhb=>w_an (hr _) (w_lv λx0 _=>w_br (λ_=>trivial) (λ_=>w_nx ?_))) (λ_=>trivial)
 have hb:=oY hb
 show(0<=i64.wrap (z+1)/\i64.wrap (z+1)<=16)/\(16-i64.wrap (z+1)).toNat<(16-z).toNat
 rw[wrap_i64];omega
def Qtj:LInv:={
 α:=(Int)
 F:=λst a=>([(0,(lk st 0)),(4,.int i64 a)],[])
 a0:=λst=>(lk st 4).toInt
 ex0:=λst=>[]++[]}
def Qqa:List (Nat×LInv):=[(2,Qtj)]
def Qvx:Q0b:=mS 289 [] true [.one (.str)] [] (λa r=>Qb0 (argS a 0)) (λX=>.tup [.int .i64 (X.1),.bool (X.2)]) (λX=>[])
theorem Qjx:Q04 pG Qvx:=oS (.cons Zib (.nil)) Tryz.func289 Tryz.call289 [] Qqa 3 (λ_ _ _=>by kernel_rfl) (λa r=>Qs0 (argS a 0)) (λ_ X=>by kernel_rfl)
def Qir(s:List UInt8):Tree Bool:=
.lv (Qiu s) λ(x0:Int×Bool)=>.br (decide ((s.length:Int)>=(1:Int))) (.br (decide ((s.length:Int)<=(12:Int))) (.cn (decide ((0:Int)<=(0:Int)/\0<(s.length:Int))) (.lv (Qie (↑(eQ (s.getD (dB 0) (0:UInt8))):Int)) λ(x1:Bool)=>.br x1 (.lf (!x0.2)) (.lf false))) (.lf false)) (.lf false)
def Z2k s:=(Qir s).m
abbrev Qgp s:=(Qir s).p
def Zgc:Q0b:=mT 232 [] true [.one (.str)] [] (λa r=>Qir (argS a 0)) (λX=>.bool X) (λX=>[])
theorem Qxv:Q04 pG Zgc:=oT (.cons Qjx (.cons Qqt (.nil))) Tryz.func232 Tryz.call232 [] [] 2
def Q9q(op:Int):Tree (List UInt8):=
let T1:Tree ((List UInt8)):=let T3:Tree ((List UInt8)):=.br (op==48) (.lf ([(106:UInt8),97,108])) (.br (op==49) (.lf ([(106:UInt8),97,108,114])) (.br (decide (op>=56)) (.br (decide (op<=64)) (.cn (bT 1 1&&bJ 0 1&&decide (0<=wrap i64 (op-56)/\wrap i64 (op-56)<(↑9:Int))) (.lf (aK [[(101:UInt8),99,97,108,108],[(101:UInt8),114,101,116],[(99:UInt8),115,114,114],[(99:UInt8),115,114,119],[(105:UInt8),110],[(111:UInt8),117,116],[(119:UInt8),102,105],[(102:UInt8),108,117,115,104],[(104:UInt8),97,108,116]] (dB (wrap i64 (op-56))) (RK.dflt RK.str)))) (.lf ([]))) (.lf ([]))));.br (decide (op>=40)) (.br (decide (op<=45)) (.cn (bT 1 1&&bJ 0 1&&decide (0<=wrap i64 (op-40)/\wrap i64 (op-40)<(↑6:Int))) (.lf (aK [[(98:UInt8),101,113],[(98:UInt8),110,101],[(98:UInt8),108,116],[(98:UInt8),103,101],[(98:UInt8),108,116,117],[(98:UInt8),103,101,117]] (dB (wrap i64 (op-40))) (RK.dflt RK.str)))) T3) T3;let T2:Tree ((List UInt8)):=let T4:Tree ((List UInt8)):=.br (decide (op>=32)) (.br (decide (op<=36)) (.cn (bT 1 1&&bJ 0 1&&decide (0<=wrap i64 (op-32)/\wrap i64 (op-32)<(↑5:Int))) (.lf (aK [[(108:UInt8),119],[(108:UInt8),98],[(108:UInt8),98,117],[(115:UInt8),119],[(115:UInt8),98]] (dB (wrap i64 (op-32))) (RK.dflt RK.str)))) T1) T1;.br (decide (op>=16)) (.br (decide (op<=24)) (.cn (bT 1 1&&bJ 0 1&&decide (0<=wrap i64 (op-16)/\wrap i64 (op-16)<(↑9:Int))) (.lf (aK [[(97:UInt8),100,100,105],[(97:UInt8),110,100,105],[(111:UInt8),114,105],[(120:UInt8),111,114,105],[(115:UInt8),104,108,105],[(115:UInt8),104,114,105],[(115:UInt8),97,114,105],[(115:UInt8),108,116,105],[(108:UInt8),117,105]] (dB (wrap i64 (op-16))) (RK.dflt RK.str)))) T4) T4;.br (decide (op>=1)) (.br (decide (op<=13)) (.cn (bT 1 1&&bJ 0 1&&decide (0<=wrap i64 (op-1)/\wrap i64 (op-1)<(↑13:Int))) (.lf (aK [[(97:UInt8),100,100],[(115:UInt8),117,98],[(97:UInt8),110,100],[(111:UInt8),114],[(120:UInt8),111,114],[(115:UInt8),104,108],[(115:UInt8),104,114],[(115:UInt8),97,114],[(109:UInt8),117,108],[(100:UInt8),105,118],[(114:UInt8),101,109],[(115:UInt8),108,116],[(115:UInt8),108,116,117]] (dB (wrap i64 (op-1))) (RK.dflt RK.str)))) T2) T2
def Qst op:=(Q9q op).m
abbrev Qeh op:=(Q9q op).p
def Z0u:Q0b:=mT 291 [] true [.one (.int .i64)] [] (λa r=>Q9q (argI a 0)) (λX=>.str X) (λX=>[])
theorem Qyr:Q04 pG Z0u:=oT (.nil) Tryz.func291 Tryz.call291 [] [] 2
def Qq6(s:List UInt8)(z:(Int)):Nat:=(65-z).toNat
def Q8o(s:List UInt8):Tree Int:=
.lp inferInstance (Qq6 s 1+1) ((rE (s:List UInt8)/\rE (1:Int)/\True)/\True) 1 λ(v0:Int)=>.br (decide (v0<=64)) (.lv (Q2u v0) λ(x0:Int)=>.br (decide (x0>0)) (.an (Qeh v0) (.lv (Qst v0) λ(x1:List UInt8)=>.br (decide (x1=s)) (.lf (Sum.inr v0)) (.nx ((rE (s:List UInt8)/\rE ((wrap i64 (v0+1)):Int)/\True)/\True) (Sum.inl (wrap i64 (v0+1)))))) (.nx ((rE (s:List UInt8)/\rE ((wrap i64 (v0+1)):Int)/\True)/\True) (Sum.inl (wrap i64 (v0+1))))) (.lf (Sum.inr 0))
def Q97 s:=(Q8o s).m
abbrev Q3t s:=(Q8o s).p
def Qw1:LInv:={
 α:=(Int)
 F:=λst a=>([(0,(lk st 0)),(3,.int i64 a)],[])
 a0:=λst=>(lk st 3).toInt
 ex0:=λst=>[]++[]}
def Qrh:List (Nat×LInv):=[(2,Qw1)]
def Qze:Q0b:=mT 235 [] true [.one (.str)] [] (λa r=>Q8o (argS a 0)) (λX=>.int .i64 X) (λX=>[])
theorem Qkq:Q04 pG Qze:=oT (.cons Qf6 (.cons Qyr (.nil))) Tryz.func235 Tryz.call235 [] Qrh 3
def Qbp(what:List UInt8):Tree ((List UInt8)×Bool):=
.an (Q3t what) (.lv (Q97 what) λ(x0:Int)=>.br (decide (what=[(46:UInt8),119,111,114,100])) (.lf ([(120:UInt8)],true)) (.br (decide (what=[(46:UInt8),115,112,97,99,101])) (.lf ([(110:UInt8)],true)) (.br (decide (what=[(108:UInt8),105])) (.lf ([(114:UInt8),44,120],true)) (.br (decide (what=[(109:UInt8),118])) (.lf ([(114:UInt8),44,114],true)) (.br (decide (what=[(110:UInt8),111,112])) (.lf ([],true)) (.br (x0==0) (.lf ([],false)) (let T1:Tree (((List UInt8)×Bool)):=.br (x0==48) (.lf ([(114:UInt8),44,120],true)) (.lv (Q2u x0) λ(x1:Int)=>.br (x1==1) (.lf ([],true)) (.br (x1==2) (.lf ([(114:UInt8),44,114,44,114],true)) (.br (decide (x1>=6)) (.lf ([(114:UInt8),44,110],true)) (.lf ([(114:UInt8),44,114,44,110],true)))));let T2:Tree (((List UInt8)×Bool)):=.br (decide (x0>=40)) (.br (decide (x0<=45)) (.lf ([(114:UInt8),44,114,44,120],true)) T1) T1;.br (decide (x0>=32)) (.br (decide (x0<=36)) (.lf ([(114:UInt8),44,110,40,114,41],true)) T2) T2)))))))
def Qf9 what:=(Qbp what).m
abbrev Q6r what:=(Qbp what).p
def Z5q:Q0b:=mT 233 [] true [.one (.str)] [] (λa r=>Qbp (argS a 0)) (λX=>.tup [.str (X.1),.bool (X.2)]) (λX=>[])
theorem Z0v:Q04 pG Z5q:=oT (.cons Qkq (.cons Qf6 (.nil))) Tryz.func233 Tryz.call233 [] [] 2
def Qw6(s:List UInt8)(z:(Int)×(Int)):Nat:=(s.length-z.2).toNat
def Ql7(s:List UInt8)(z:(Int)×(Int)):Nat:=(s.length-z.2).toNat
def Qcz(s:List UInt8):Tree (Int×Bool):=
let E7:=decide ((0:Int)<=(0:Int)/\0<(s.length:Int));let E8:=(↑(eQ (s.getD (dB 0) (0:UInt8))):Int);let T1:Tree ((Int×Bool)):=let T2:Tree ((Int×Bool)):=.br (decide (wrap i64 ((s.length:Int)-(0:Int))<1)) (.lf (0,false)) (.br (decide (wrap i64 ((s.length:Int)-(0:Int))>10)) (.lf (0,false)) (.lp inferInstance (Ql7 s (0,0)+1) ((rE (s:List UInt8)/\rE (0:Int)/\rE (0:Int)/\rE (0:Int)/\True)/\True) (0,0) λ(v0:Int×Int)=>.br (decide (v0.2<(s.length:Int))) (let E9:=decide (0<=v0.2/\v0.2<(s.length:Int));.cn E9 (let E5:=(↑(eQ (s.getD v0.2.toNat (0:UInt8))):Int);.lv (Qdx E5) λ(x2:Bool)=>.br (!x2) (.lf (Sum.inr (0,false))) (.cn E9 (.nx ((rE (s:List UInt8)/\rE (0:Int)/\rE ((wrap i64 (wrap i64 (10*v0.1)+wrap i64 (wrap u8 ((↑(eQ (s.getD v0.2.toNat (0:UInt8))):Int)-(48:Int))))):Int)/\rE ((wrap i64 (v0.2+1)):Int)/\True)/\True) (Sum.inl (wrap i64 (wrap i64 (10*v0.1)+wrap i64 (wrap u8 (E5-(48:Int)))),wrap i64 (v0.2+1))))))) (.br (decide (v0.1>=(-2147483648))) (.lf (Sum.inr (v0.1,decide (v0.1<=4294967295)))) (.lf (Sum.inr (v0.1,false))))));.br (decide ((s.length:Int)>(0:Int))) (.cn E7 (.br (E8==(45:Int)) (.br (decide (wrap i64 ((s.length:Int)-(1:Int))<1)) (.lf (0,false)) (.br (decide (wrap i64 ((s.length:Int)-(1:Int))>10)) (.lf (0,false)) (.lp inferInstance (Ql7 s (0,1)+1) ((rE (s:List UInt8)/\rE (1:Int)/\rE (0:Int)/\rE (1:Int)/\True)/\True) (0,1) λ(v0:Int×Int)=>.br (decide (v0.2<(s.length:Int))) (let E10:=decide (0<=v0.2/\v0.2<(s.length:Int));.cn E10 (let E6:=(↑(eQ (s.getD v0.2.toNat (0:UInt8))):Int);.lv (Qdx E6) λ(x1:Bool)=>.br (!x1) (.lf (Sum.inr (0,false))) (.cn E10 (.nx ((rE (s:List UInt8)/\rE (1:Int)/\rE ((wrap i64 (wrap i64 (10*v0.1)+wrap i64 (wrap u8 ((↑(eQ (s.getD v0.2.toNat (0:UInt8))):Int)-(48:Int))))):Int)/\rE ((wrap i64 (v0.2+1)):Int)/\True)/\True) (Sum.inl (wrap i64 (wrap i64 (10*v0.1)+wrap i64 (wrap u8 (E6-(48:Int)))),wrap i64 (v0.2+1))))))) (.br (decide (wrap i64 (0-v0.1)>=(-2147483648))) (.lf (Sum.inr (wrap i64 (0-v0.1),decide (wrap i64 (0-v0.1)<=4294967295)))) (.lf (Sum.inr (wrap i64 (0-v0.1),false))))))) T2)) T2;.br (decide ((s.length:Int)>(2:Int))) (.cn E7 (.br (E8==(48:Int)) (.cn (decide ((0:Int)<=(1:Int)/\1<(s.length:Int))) (.br ((↑(eQ (s.getD (dB 1) (0:UInt8))):Int)==(120:Int)) (.br (decide ((s.length:Int)>(10:Int))) (.lf (0,false)) (.lp inferInstance (Qw6 s (0,2)+1) ((rE (s:List UInt8)/\rE (0:Int)/\rE (2:Int)/\True)/\True) (0,2) λ(v0:Int×Int)=>.br (decide (v0.2<(s.length:Int))) (let E4:=decide (0<=v0.2/\v0.2<(s.length:Int));.cn E4 (let E3:=(↑(eQ (s.getD v0.2.toNat (0:UInt8))):Int);.lv (Qdx E3) λ(x0:Bool)=>.br x0 (.cn E4 (.nx ((rE (s:List UInt8)/\rE ((wrap i64 (wrap i64 (16*v0.1)+wrap i64 (wrap u8 ((↑(eQ (s.getD v0.2.toNat (0:UInt8))):Int)-(48:Int))))):Int)/\rE ((wrap i64 (v0.2+1)):Int)/\True)/\True) (Sum.inl (wrap i64 (wrap i64 (16*v0.1)+wrap i64 (wrap u8 (E3-(48:Int)))),wrap i64 (v0.2+1))))) (.cn E4 (.br (decide (E3>=(97:Int))) (.cn E4 (.br (decide (E3<=(102:Int))) (.cn E4 (.nx ((rE (s:List UInt8)/\rE ((wrap i64 (wrap i64 (wrap i64 (16*v0.1)+wrap i64 (wrap u8 ((↑(eQ (s.getD v0.2.toNat (0:UInt8))):Int)-(97:Int))))+10)):Int)/\rE ((wrap i64 (v0.2+1)):Int)/\True)/\True) (Sum.inl (wrap i64 (wrap i64 (wrap i64 (16*v0.1)+wrap i64 (wrap u8 (E3-(97:Int))))+10),wrap i64 (v0.2+1))))) (.lf (Sum.inr (0,false))))) (.lf (Sum.inr (0,false))))))) (.lf (Sum.inr (v0.1,true))))) T1)) T1)) T1
def Z0t s:=(Qcz s).m
abbrev Qib s:=(Qcz s).p
def Z59:LInv:={
 α:=(Int)×(Int)
 F:=λst a=>([(0,(lk st 0)),(4,.int i64 a.1),(5,.int i64 a.2)],[])
 a0:=λst=>((lk st 4).toInt,(lk st 5).toInt)
 ex0:=λst=>[]++[]}
def Z50:LInv:={
 α:=(Int)×(Int)
 F:=λst a=>([(0,(lk st 0)),(6,(lk st 6)),(7,.int i64 a.1),(8,.int i64 a.2)],[])
 a0:=λst=>((lk st 7).toInt,(lk st 8).toInt)
 ex0:=λst=>[]++[]}
def Qyv:List (Nat×LInv):=[(6,Z59),(21,Z50)]
def Z9r:Q0b:=mT 290 [] true [.one (.str)] [] (λa r=>Qcz (argS a 0)) (λX=>.tup [.int .i64 (X.1),.bool (X.2)]) (λX=>[])
theorem Z5d:Q04 pG Z9r:=oT (.cons Qui (.nil)) Tryz.func290 Tryz.call290 [] Qyv 3
def Qu3(l:List Q0j)(p:List UInt8)(z:(Int)×(List Q13)):Nat:=(l.length-z.1).toNat
def Qbm(l:List Q0j)(p:List UInt8):Tree ((List Q13)×Bool):=
.br ((l.length:Int) !=(p.length:Int)) (.lf ([],false)) (.lp inferInstance (Qu3 l p (0,[])+1) ((nR RK.vmfleetref1Token 3 l/\rE (p:List UInt8)/\True/\rE (0:Int)/\True)/\rE ([]:List (RK.T RK.vmfleetref1Arg))/\True) (0,[]) λ(v0:Int×List Q13)=>.br (decide (v0.1<(l.length:Int))) (.cn (bT 3 3&&bJ 0 3&&decide (0<=v0.1/\v0.1<(l.length:Int))) (let E6:=decide (0<=v0.1/\v0.1<(p.length:Int));.cn E6 (let E3:=l.getD v0.1.toNat (RK.dflt RK.vmfleetref1Token);let E4:=(↑(eQ (p.getD v0.1.toNat (0:UInt8))):Int);let E5:=decide (32*(v0.2.length+1)<=140737488355328);.br (E4==(114:Int)) (.lv (Qiu E3.text) λ(x0:Int×Bool)=>.br (E3.kind !=1) (.lf (Sum.inr ([],false))) (.br (!x0.2) (.lf (Sum.inr ([],false))) (.cn E5 (.nx ((nR RK.vmfleetref1Token 3 l/\rE (p:List UInt8)/\True/\rE ((wrap i64 (v0.1+1)):Int)/\True)/\rE ((v0.2++[{reg:=x0.1,num:=0,label:=[]}]):List (RK.T RK.vmfleetref1Arg))/\True) (Sum.inl (wrap i64 (v0.1+1),v0.2++[{reg:=x0.1,num:=0,label:=[]}])))))) (let T1:Tree ((Int×List Q13)⊕(((List Q13)×Bool))):=.an (Qib E3.text) (.lv (Z0t E3.text) λ(x2:Int×Bool)=>.br (E3.kind !=2) (.lf (Sum.inr ([],false))) (.br (!x2.2) (.lf (Sum.inr ([],false))) (.cn E5 (.nx ((nR RK.vmfleetref1Token 3 l/\rE (p:List UInt8)/\True/\rE ((wrap i64 (v0.1+1)):Int)/\True)/\rE ((v0.2++[{reg:=0,num:=x2.1,label:=[]}]):List (RK.T RK.vmfleetref1Arg))/\True) (Sum.inl (wrap i64 (v0.1+1),v0.2++[{reg:=0,num:=x2.1,label:=[]}]))))));let T2:Tree ((Int×List Q13)⊕(((List Q13)×Bool))):=.cn E6 (.br (E4==(120:Int)) (.br (E3.kind==1) (.an (Qgp E3.text) (.lv (Z2k E3.text) λ(x1:Bool)=>.br x1 (.cn E5 (.nx ((nR RK.vmfleetref1Token 3 l/\rE (p:List UInt8)/\True/\rE ((wrap i64 (v0.1+1)):Int)/\True)/\rE ((v0.2++[{reg:=0,num:=0,label:=(l.getD v0.1.toNat (RK.dflt RK.vmfleetref1Token)).text}]):List (RK.T RK.vmfleetref1Arg))/\True) (Sum.inl (wrap i64 (v0.1+1),v0.2++[{reg:=0,num:=0,label:=E3.text}])))) T1)) T1) T1);.br (E4==(110:Int)) T2 (.br (E4==(120:Int)) T2 (.br (E3.kind !=3) (.lf (Sum.inr ([],false))) (.cn (decide (0<=v0.1/\v0.1<=wrap i64 (v0.1+1)/\wrap i64 (v0.1+1)<=(p.length:Int))) (.br (!decide (E3.text=cW (dB (wrap i64 (v0.1+1))-dB v0.1) (cX v0.1.toNat p))) (.lf (Sum.inr ([],false))) (.nx ((nR RK.vmfleetref1Token 3 l/\rE (p:List UInt8)/\True/\rE ((wrap i64 (v0.1+1)):Int)/\True)/\rE v0.2/\True) (Sum.inl (wrap i64 (v0.1+1),v0.2))))))))))) (.lf (Sum.inr (v0.2,true))))
def Qfs l p:=(Qbm l p).m
abbrev Q6m l p:=(Qbm l p).p
def Z1v:LInv:={
 α:=(Int)×(List Q13)
 F:=λst a=>([(0,(lk st 0)),(1,(lk st 1)),(6,.all 0),(7,.int i64 a.1)],[⟨false,177,3,.recs RK.vmfleetref1Arg a.2⟩])
 a0:=λst=>((lk st 7).toInt,(Qn5 RK.vmfleetref1Arg st.rows (rN st 6)))
 ex0:=λst=>[]++[(rX st 6 0)]}
def Qwm:List (Nat×LInv):=[(5,Z1v)]
def Z47:Q0b:=mT 234 [] true [.one (.recs .vmfleetref1Token),.one (.str)] [] (λa r=>Qbm (argR .vmfleetref1Token a 0) (argS a 1)) (λX=>.tup [.all 0,.bool (X.2)]) (λX=>[⟨false,177,3,.recs .vmfleetref1Arg (X.1)⟩])
theorem Z17:Q04 pG Z47:=oT (.cons Qjx (.cons Qxv (.cons Z5d (.nil)))) Tryz.func234 Tryz.call234 [.row 177 3 (.recs .vmfleetref1Arg)] Qwm 3
def Qw3(s:List UInt8)(z:(List UInt8)×(Int)):Nat:=(s.length-z.2).toNat
def Qcs(s:List UInt8):Tree ((List UInt8)×Q09×Bool):=
.lp inferInstance (Qw3 s (s,0)+1) ((rE (s:List UInt8)/\rE ([]:List UInt8)/\rZ/\rE (false:Bool)/\rE (0:Int)/\True)/\(rE ([]:List UInt8)/\rE (0:Int)/\True/\rE (0:Int)/\rE (0:Int)/\rE (0:Int)/\True)/\True) (s,0) λ(v0:List UInt8×Int)=>.br (decide (v0.2<(v0.1.length:Int))) (.cn (decide (0<=v0.2/\v0.2<(v0.1.length:Int))) (.br ((↑(eQ (v0.1.getD v0.2.toNat (0:UInt8))):Int)==(59:Int)) (.cn (decide ((0:Int)<=(0:Int)/\0<=v0.2/\v0.2<=(v0.1.length:Int))) (.nx ((rE ((cW (dB v0.2-dB 0) (cX (dB 0) v0.1)):List UInt8)/\rE ([]:List UInt8)/\rZ/\rE (false:Bool)/\rE ((wrap i64 (v0.2+1)):Int)/\True)/\(rE ([]:List UInt8)/\rE (0:Int)/\True/\rE (0:Int)/\rE (0:Int)/\rE (0:Int)/\True)/\True) (Sum.inl (cW (dB v0.2-dB 0) (cX (dB 0) v0.1),wrap i64 (v0.2+1))))) (.nx ((rE v0.1/\rE ([]:List UInt8)/\rZ/\rE (false:Bool)/\rE ((wrap i64 (v0.2+1)):Int)/\True)/\(rE ([]:List UInt8)/\rE (0:Int)/\True/\rE (0:Int)/\rE (0:Int)/\rE (0:Int)/\True)/\True) (Sum.inl (v0.1,wrap i64 (v0.2+1)))))) (.an (Qif v0.1) (.lv (Z3b v0.1) λ(x0:List Q0j×Bool)=>.br (!x0.2) (.lf (Sum.inr ([],{what:=[],op:=0,l:=[],D6:=0,at_:=0,size:=0},false))) (let E9:=x0.1.getD (dB 0) (RK.dflt RK.vmfleetref1Token);let T1:Tree ((List UInt8×Int)⊕(((List UInt8)×Q09×Bool))):=.an (Q6r E9.text) (.lv (Qf9 E9.text) λ(x27:List UInt8×Bool)=>.br (!x27.2) (.lf (Sum.inr ([],{what:=[],op:=0,l:=[],D6:=0,at_:=0,size:=0},false))) (let E20:=dB (x0.1.length:Int)-dB 1;let T6:Tree ((List UInt8×Int)⊕(((List UInt8)×Q09×Bool))):=let E31:=cW E20 (cX (dB 1) x0.1);.an (Q6m E31 x27.1) (.lv (Qfs E31 x27.1) λ(x28:List Q13×Bool)=>.br (!x28.2) (.lf (Sum.inr ([],{what:=[],op:=0,l:=[],D6:=0,at_:=0,size:=0},false))) (.an (Q3t E9.text) (.lv (Q97 E9.text) λ(x29:Int)=>.br (decide (E9.text=[(108:UInt8),105])) (.lf (Sum.inr ([],{what:=E9.text,op:=x29,l:=x28.1,D6:=0,at_:=0,size:=2},true))) (.br (decide (E9.text=[(46:UInt8),115,112,97,99,101])) (let E13:=bT 3 3&&bJ 0 3&&decide ((0:Int)<=(0:Int)/\0<(x28.1.length:Int));.cn E13 (let E21:=x28.1.getD (dB 0) (RK.dflt RK.vmfleetref1Arg);.br (decide (E21.num<0)) (.lf (Sum.inr ([],{what:=[],op:=0,l:=[],D6:=0,at_:=0,size:=0},false))) (.cn E13 (.br (decide (E21.num>1024)) (.lf (Sum.inr ([],{what:=[],op:=0,l:=[],D6:=0,at_:=0,size:=0},false))) (.cn E13 (.lf (Sum.inr ([],{what:=E9.text,op:=x29,l:=x28.1,D6:=0,at_:=0,size:=E21.num},true)))))))) (.lf (Sum.inr ([],{what:=E9.text,op:=x29,l:=x28.1,D6:=0,at_:=0,size:=1},true)))))));.br (decide ((↑E20:Int)>(0:Int))) (.cn (bT 3 3&&bJ 0 3&&decide ((0:Int)<=(0:Int)/\0<(↑E20:Int))) (.br (!(x0.1.getD (dB 1+dB 0) (RK.dflt RK.vmfleetref1Token)).gap) (.lf (Sum.inr ([],{what:=[],op:=0,l:=[],D6:=0,at_:=0,size:=0},false))) T6)) T6));let E25:=dB (x0.1.length:Int)-dB 2;let E8:=(↑E25:Int);let E10:=x0.1.getD (dB 2+dB 0) (RK.dflt RK.vmfleetref1Token);let E12:=x0.1.getD (dB 1) (RK.dflt RK.vmfleetref1Token);let E16:=bT 3 3&&bJ 0 3&&decide ((0:Int)<=(0:Int)/\0<(x0.1.length:Int));let E17:=bT 3 3&&bJ 0 3&&decide ((0:Int)<=(1:Int)/\1<(x0.1.length:Int));let E19:=bT 3 3&&bJ 0 3&&decide ((0:Int)<=(2:Int)/\2<=(x0.1.length:Int)/\(x0.1.length:Int)<=(x0.1.length:Int));let E28:=bT 3 3&&bJ 0 3&&decide ((0:Int)<=(0:Int)/\0<E8);let E30:=decide ((x0.1.length:Int)>=(2:Int));let T3:Tree ((List UInt8×Int)⊕(((List UInt8)×Q09×Bool))):=.br ((x0.1.length:Int)==(0:Int)) (.lf (Sum.inr ([],{what:=[],op:=0,l:=[],D6:=0,at_:=0,size:=0},true))) (.cn E16 (.cn (bT 3 3&&bJ 0 3&&decide ((0:Int)<=(1:Int)/\1<=(x0.1.length:Int)/\(x0.1.length:Int)<=(x0.1.length:Int))) (.br (decide (E9.text=[(46:UInt8)])) (.br E30 (.cn E17 (.br (!E12.gap) (.cn E17 (.cn (decide (1+dG E12.text<=maxLen)) (.cn E19 (.an (Q6r ((46:UInt8)::E12.text)) (.lv (Qf9 ([(46:UInt8)]++E12.text)) λ(x22:List UInt8×Bool)=>.br (!x22.2) (.lf (Sum.inr ([],{what:=[],op:=0,l:=[],D6:=0,at_:=0,size:=0},false))) (let T7:Tree ((List UInt8×Int)⊕(((List UInt8)×Q09×Bool))):=let E32:=cW E25 (cX (dB 2) x0.1);.an (Q6m E32 x22.1) (.lv (Qfs E32 x22.1) λ(x23:List Q13×Bool)=>.br (!x23.2) (.lf (Sum.inr ([],{what:=[],op:=0,l:=[],D6:=0,at_:=0,size:=0},false))) (.an (Q3t ((46:UInt8)::E12.text)) (.lv (Q97 ([(46:UInt8)]++E12.text)) λ(x24:Int)=>.br (decide ([(46:UInt8)]++E12.text=[(46:UInt8),115,112,97,99,101])) (let E14:=bT 3 3&&bJ 0 3&&decide ((0:Int)<=(0:Int)/\0<(x23.1.length:Int));.cn E14 (let E22:=x23.1.getD (dB 0) (RK.dflt RK.vmfleetref1Arg);.br (decide (E22.num<0)) (.lf (Sum.inr ([],{what:=[],op:=0,l:=[],D6:=0,at_:=0,size:=0},false))) (.cn E14 (.br (decide (E22.num>1024)) (.lf (Sum.inr ([],{what:=[],op:=0,l:=[],D6:=0,at_:=0,size:=0},false))) (.cn E14 (.lf (Sum.inr ([],{what:=(46:UInt8)::E12.text,op:=x24,l:=x23.1,D6:=0,at_:=0,size:=E22.num},true)))))))) (.lf (Sum.inr ([],{what:=(46:UInt8)::E12.text,op:=x24,l:=x23.1,D6:=0,at_:=0,size:=1},true))))));.br (decide (E8>(0:Int))) (.cn E28 (.br (!E10.gap) (.lf (Sum.inr ([],{what:=[],op:=0,l:=[],D6:=0,at_:=0,size:=0},false))) T7)) T7)))))) T1)) T1) T1)));.br E30 (.cn E17 (.br (decide (E12.text=[(58:UInt8)])) (.cn E16 (.cn E16 (.br (E9.kind !=1) (.lf (Sum.inr ([],{what:=[],op:=0,l:=[],D6:=0,at_:=0,size:=0},false))) (.an (Qgp E9.text) (.lv (Z2k E9.text) λ(x1:Bool)=>.br (!x1) (.lf (Sum.inr ([],{what:=[],op:=0,l:=[],D6:=0,at_:=0,size:=0},false))) (.cn E19 (.br (E8==(0:Int)) (.lf (Sum.inr (E9.text,{what:=[],op:=0,l:=[],D6:=0,at_:=0,size:=0},true))) (.cn E28 (.cn (bT 3 3&&bJ 0 3&&decide ((0:Int)<=(1:Int)/\1<=E8/\E8<=E8)) (let T2:Tree ((List UInt8×Int)⊕(((List UInt8)×Q09×Bool))):=.an (Q6r E10.text) (.lv (Qf9 E10.text) λ(x7:List UInt8×Bool)=>.br (!x7.2) (.lf (Sum.inr ([],{what:=[],op:=0,l:=[],D6:=0,at_:=0,size:=0},false))) (let T4:Tree ((List UInt8×Int)⊕(((List UInt8)×Q09×Bool))):=let E26:=cW (dB E8-dB 1) (cX (dB 2+dB 1) x0.1);.an (Q6m E26 x7.1) (.lv (Qfs E26 x7.1) λ(x8:List Q13×Bool)=>.br (!x8.2) (.lf (Sum.inr ([],{what:=[],op:=0,l:=[],D6:=0,at_:=0,size:=0},false))) (.an (Q3t E10.text) (.lv (Q97 E10.text) λ(x9:Int)=>.br (decide (E10.text=[(108:UInt8),105])) (.lf (Sum.inr (E9.text,{what:=E10.text,op:=x9,l:=x8.1,D6:=0,at_:=0,size:=2},true))) (.br (decide (E10.text=[(46:UInt8),115,112,97,99,101])) (let E15:=bT 3 3&&bJ 0 3&&decide ((0:Int)<=(0:Int)/\0<(x8.1.length:Int));.cn E15 (let E23:=x8.1.getD (dB 0) (RK.dflt RK.vmfleetref1Arg);.br (decide (E23.num<0)) (.lf (Sum.inr ([],{what:=[],op:=0,l:=[],D6:=0,at_:=0,size:=0},false))) (.cn E15 (.br (decide (E23.num>1024)) (.lf (Sum.inr ([],{what:=[],op:=0,l:=[],D6:=0,at_:=0,size:=0},false))) (.cn E15 (.lf (Sum.inr (E9.text,{what:=E10.text,op:=x9,l:=x8.1,D6:=0,at_:=0,size:=E23.num},true)))))))) (.lf (Sum.inr (E9.text,{what:=E10.text,op:=x9,l:=x8.1,D6:=0,at_:=0,size:=1},true)))))));.br (decide ((↑(dB E8-dB 1):Int)>(0:Int))) (.cn (bT 3 3&&bJ 0 3&&decide ((0:Int)<=(0:Int)/\0<(↑(dB E8-dB 1):Int))) (.br (!(x0.1.getD (dB 2+dB 1+dB 0) (RK.dflt RK.vmfleetref1Token)).gap) (.lf (Sum.inr ([],{what:=[],op:=0,l:=[],D6:=0,at_:=0,size:=0},false))) T4)) T4));.br (decide (E10.text=[(46:UInt8)])) (.br (decide (E8>=(2:Int))) (let E29:=bT 3 3&&bJ 0 3&&decide ((0:Int)<=(1:Int)/\1<E8);.cn E29 (let E11:=x0.1.getD (dB 2+dB 1) (RK.dflt RK.vmfleetref1Token);.br (!E11.gap) (.cn E29 (.cn (decide (1+dG E11.text<=maxLen)) (.cn (bT 3 3&&bJ 0 3&&decide ((0:Int)<=(2:Int)/\2<=E8/\E8<=E8)) (.an (Q6r ((46:UInt8)::E11.text)) (.lv (Qf9 ([(46:UInt8)]++E11.text)) λ(x2:List UInt8×Bool)=>.br (!x2.2) (.lf (Sum.inr ([],{what:=[],op:=0,l:=[],D6:=0,at_:=0,size:=0},false))) (let T5:Tree ((List UInt8×Int)⊕(((List UInt8)×Q09×Bool))):=let E27:=cW (dB E8-dB 2) (cX (dB 2+dB 2) x0.1);.an (Q6m E27 x2.1) (.lv (Qfs E27 x2.1) λ(x3:List Q13×Bool)=>.br (!x3.2) (.lf (Sum.inr ([],{what:=[],op:=0,l:=[],D6:=0,at_:=0,size:=0},false))) (.an (Q3t ((46:UInt8)::E11.text)) (.lv (Q97 ([(46:UInt8)]++E11.text)) λ(x4:Int)=>.br (decide ([(46:UInt8)]++E11.text=[(46:UInt8),115,112,97,99,101])) (let E18:=bT 3 3&&bJ 0 3&&decide ((0:Int)<=(0:Int)/\0<(x3.1.length:Int));.cn E18 (let E24:=x3.1.getD (dB 0) (RK.dflt RK.vmfleetref1Arg);.br (decide (E24.num<0)) (.lf (Sum.inr ([],{what:=[],op:=0,l:=[],D6:=0,at_:=0,size:=0},false))) (.cn E18 (.br (decide (E24.num>1024)) (.lf (Sum.inr ([],{what:=[],op:=0,l:=[],D6:=0,at_:=0,size:=0},false))) (.cn E18 (.lf (Sum.inr (E9.text,{what:=(46:UInt8)::E11.text,op:=x4,l:=x3.1,D6:=0,at_:=0,size:=E24.num},true)))))))) (.lf (Sum.inr (E9.text,{what:=(46:UInt8)::E11.text,op:=x4,l:=x3.1,D6:=0,at_:=0,size:=1},true))))));.br (decide ((↑(dB E8-dB 2):Int)>(0:Int))) (.cn (bT 3 3&&bJ 0 3&&decide ((0:Int)<=(0:Int)/\0<(↑(dB E8-dB 2):Int))) (.br (!(x0.1.getD (dB 2+dB 2+dB 0) (RK.dflt RK.vmfleetref1Token)).gap) (.lf (Sum.inr ([],{what:=[],op:=0,l:=[],D6:=0,at_:=0,size:=0},false))) T5)) T5)))))) T2)) T2) T2)))))))))) T3)) T3)))
def Z0g s:=(Qcs s).m
abbrev Qhr s:=(Qcs s).p
def Z4i:LInv:={
 α:=(List UInt8)×(Int)
 F:=λst a=>([(0,.str a.1),(2,(lk st 2)),(3,.ptr 0 0 0),(4,(lk st 4)),(5,.int i64 a.2)],[⟨true,175,6,.gen [[(cT st 3 0),(cT st 3 1),(cT st 3 2),(cT st 3 3),(cT st 3 4),(cT st 3 5)]]⟩])
 a0:=λst=>((lk st 0).toStr,(lk st 5).toInt)
 ex0:=λst=>[]++[(rX st 3 0)]}
def Qyt:List (Nat×LInv):=[(2,Z4i)]
def Z98:Q0b:=mT 152 [] false [.one (.str)] [] (λa r=>Qcs (argS a 0)) (λX=>.tup [.str (X.1),.agg (Q09.cells (X.2.1)),.bool (X.2.2)]) (λX=>[])
theorem Z3y:Q04 pG Z98:=oT (.cons Z4f (.cons Qxv (.cons Z0v (.cons Z17 (.cons Qkq (.nil)))))) Tryz.func152 Tryz.call152 [.sl (.recs .vmfleetref1Arg) false] Qyt 3 (hff:=nofun)
def Qkz(l:List Q2f)(label:List UInt8)(z:(Int)):Prop:=0<=z/\z<=l.length
def Qd8(l:List Q2f)(label:List UInt8)(z:(Int)):Nat:=(l.length-z).toNat
def Qes(l:List Q2f)(label:List UInt8):Tree (Int×Bool):=
.lp inferInstance (Qd8 l label 0+1) ((nR RK.apiSymbol 2 l/\rE (label:List UInt8)/\rE (0:Int)/\True)/\True) 0 λ(v0:Int)=>.br (decide (v0<(l.length:Int))) (let E1:=bT 2 2&&bJ 0 2&&decide (0<=v0/\v0<(l.length:Int));.cn E1 (let E2:=l.getD v0.toNat (RK.dflt RK.apiSymbol);.br (decide (E2.Name=label)) (.cn E1 (.lf (Sum.inr (E2.Addr,true)))) (.nx ((nR RK.apiSymbol 2 l/\rE (label:List UInt8)/\rE ((wrap i64 (v0+1)):Int)/\True)/\True) (Sum.inl (wrap i64 (v0+1)))))) (.lf (Sum.inr (0,false)))
def Qok l label:=(Qes l label).m
def Q45(l:List Q2f)(label:List UInt8):Prop:=
l.length<=1000000000000
theorem Qz8(l:List Q2f)(label:List UInt8)(hw:Q45 l label):(Qes l label).p:=by
 simp only[Q45]at hw
 unfold Tree.p Qes
 repeat'(first|refine w_lp (inv:=Qkz l label) (μ:=Qd8 l label) ?_ (cL _) (λ_ _=>?_)|exact trivial|refine w_br (λ_=>?_) (λ_=>?_)|refine w_cn ?_ ?_|refine w_an ?_ ?_|refine w_lv (λ_ _=>?_)|refine w_nx ?_|refine w_lf ?_|refine And.intro ?_ ?_)
 all_goals((try simp only[Qkz,Qd8]at*);exact fin0)
def Z1a:LInv:={
 α:=(Int)
 F:=λst a=>([(0,(lk st 0)),(1,(lk st 1)),(6,.int i64 a)],[])
 a0:=λst=>(lk st 6).toInt
 ex0:=λst=>[]++[]}
def Quw:List (Nat×LInv):=[(2,Z1a)]
def Z45:Q0b:=mkP 95 [] true [.one (.recs .apiSymbol),.one (.str)] [] (λa r=>Q45 (argR .apiSymbol a 0) (argS a 1)) (λa r=>Qok (argR .apiSymbol a 0) (argS a 1)) (λX=>.tup [.int .u32 (X.1),.bool (X.2)]) (λX=>[])
theorem Qoz:Q04 pG Z45:=Q0o drawn Q0m (.nil) Tryz.func95 Tryz.call95 (λa r=>Qes (argR .apiSymbol a 0) (argS a 1)) [] Quw 3 (hp:=λa r h=>Qz8 (argR .apiSymbol a 0) (argS a 1) h)
def Z0y(src:List UInt8)(z:(Int)×(Int)×(List Q2f)×(List Q09)):Nat:=((Qwn src).length-z.2.1).toNat
def Qid(src:List UInt8):Tree ((List Q2f)×(List Q09)×Q1k):=
.br (decide ((src.length:Int)>(8192:Int))) (.lf ([],[],{Err:=300,Line:=0})) (.an (Qkf src) (.lv (Qwn src) λ(x0:List (List UInt8))=>.lp inferInstance (Z0y src (0,0,[],[])+1) ((rZ/\True/\True/\rE (0:Int)/\True/\rE (0:Int)/\True)/\(rE (0:Int)/\rE (0:Int)/\True)/\rE (x0:List (RK.T RK.str))/\rE ([]:List (RK.T RK.apiSymbol))/\rE ([]:List (RK.T RK.vmfleetref1Statement))/\True) (0,0,[],[]) λ(v0:Int×Int×List Q2f×List Q09)=>.br (decide (v0.2.1<(x0.length:Int))) (.cn (bT 1 1&&bJ 0 1&&decide (0<=v0.2.1/\v0.2.1<(x0.length:Int))) (let E3:=x0.getD v0.2.1.toNat (RK.dflt RK.str);.an (Qhr E3) (.lv (Z0g E3) λ(x1:List UInt8×Q09×Bool)=>.br (!x1.2.2) (.lf (Sum.inr ([],[],{Err:=301,Line:=wrap i64 (v0.2.1+1)}))) (let E1:=({Err:=305,Line:=wrap i64 (v0.2.1+1)}:Q1k);let E2:=decide (72*(v0.2.2.2.length+1)<=140737488355328);let E4:=decide (wrap i64 (v0.1+x1.2.1.size)>1024);.br (!decide (x1.1=[])) (.an (Q45 v0.2.2.1 x1.1) (.lv (Qok v0.2.2.1 x1.1) λ(x2:Int×Bool)=>.br x2.2 (.lf (Sum.inr ([],[],{Err:=303,Line:=wrap i64 (v0.2.1+1)}))) (.cn (decide (24*(v0.2.2.1.length+1)<=140737488355328)) (let E5:=({Name:=x1.1,Addr:=wrap u32 (wrap i64 (4*v0.1))}:Q2f);.br (!decide (x1.2.1.what=[])) (.cn E2 (.br E4 (.lf (Sum.inr ([],[],E1))) (.nx ((rZ/\True/\True/\rE ((wrap i64 (v0.1+x1.2.1.size)):Int)/\True/\rE ((wrap i64 (v0.2.1+1)):Int)/\True)/\(rE (0:Int)/\rE (0:Int)/\True)/\rE (x0:List (RK.T RK.str))/\rE ((v0.2.2.1++[{Name:=x1.1,Addr:=wrap u32 (wrap i64 (4*v0.1))}]):List (RK.T RK.apiSymbol))/\rE ((v0.2.2.2++[{what:=x1.2.1.what,op:=x1.2.1.op,l:=x1.2.1.l,D6:=wrap i64 (v0.2.1+1),at_:=v0.1,size:=x1.2.1.size}]):List (RK.T RK.vmfleetref1Statement))/\True) (Sum.inl (wrap i64 (v0.1+x1.2.1.size),wrap i64 (v0.2.1+1),v0.2.2.1++[E5],v0.2.2.2++[{what:=x1.2.1.what,op:=x1.2.1.op,l:=x1.2.1.l,D6:=wrap i64 (v0.2.1+1),at_:=v0.1,size:=x1.2.1.size}]))))) (.br (decide (v0.1>1024)) (.lf (Sum.inr ([],[],E1))) (.nx ((rZ/\True/\True/\rE v0.1/\True/\rE ((wrap i64 (v0.2.1+1)):Int)/\True)/\(rE (0:Int)/\rE (0:Int)/\True)/\rE (x0:List (RK.T RK.str))/\rE ((v0.2.2.1++[{Name:=x1.1,Addr:=wrap u32 (wrap i64 (4*v0.1))}]):List (RK.T RK.apiSymbol))/\rE v0.2.2.2/\True) (Sum.inl (v0.1,wrap i64 (v0.2.1+1),v0.2.2.1++[E5],v0.2.2.2)))))))) (.br (!decide (x1.2.1.what=[])) (.cn E2 (.br E4 (.lf (Sum.inr ([],[],E1))) (.nx ((rZ/\True/\True/\rE ((wrap i64 (v0.1+x1.2.1.size)):Int)/\True/\rE ((wrap i64 (v0.2.1+1)):Int)/\True)/\(rE (0:Int)/\rE (0:Int)/\True)/\rE (x0:List (RK.T RK.str))/\rE v0.2.2.1/\rE ((v0.2.2.2++[{what:=x1.2.1.what,op:=x1.2.1.op,l:=x1.2.1.l,D6:=wrap i64 (v0.2.1+1),at_:=v0.1,size:=x1.2.1.size}]):List (RK.T RK.vmfleetref1Statement))/\True) (Sum.inl (wrap i64 (v0.1+x1.2.1.size),wrap i64 (v0.2.1+1),v0.2.2.1,v0.2.2.2++[{what:=x1.2.1.what,op:=x1.2.1.op,l:=x1.2.1.l,D6:=wrap i64 (v0.2.1+1),at_:=v0.1,size:=x1.2.1.size}]))))) (.br (decide (v0.1>1024)) (.lf (Sum.inr ([],[],E1))) (.nx ((rZ/\True/\True/\rE v0.1/\True/\rE ((wrap i64 (v0.2.1+1)):Int)/\True)/\(rE (0:Int)/\rE (0:Int)/\True)/\rE (x0:List (RK.T RK.str))/\rE v0.2.2.1/\rE v0.2.2.2/\True) (Sum.inl (v0.1,wrap i64 (v0.2.1+1),v0.2.2.1,v0.2.2.2))))))))) (.lf (Sum.inr (v0.2.2.1,v0.2.2.2,{Err:=0,Line:=0})))))
def Z13 src:=(Qid src).m
abbrev Qlx src:=(Qid src).p
def Zeh:LInv:={
 α:=(Int)×(Int)×(List Q2f)×(List Q09)
 F:=λst a=>([(4,.ptr 0 0 0),(5,.all 2),(6,.all 3),(7,.int i64 a.1),(8,.all 1),(9,.int i64 a.2.1)],[⟨true,112,2,.gen [[(cT st 4 0),(cT st 4 1)]]⟩,⟨false,9,1,esOf st.rows (rN st 8)⟩,⟨false,238,2,.recs RK.apiSymbol a.2.2.1⟩,⟨false,175,6,.recs RK.vmfleetref1Statement a.2.2.2⟩])
 a0:=λst=>((lk st 7).toInt,(lk st 9).toInt,(Qn5 RK.apiSymbol st.rows (rN st 5)),(Qn5 RK.vmfleetref1Statement st.rows (rN st 6)))
 ex0:=λst=>[]++[(rX st 4 0),(rX st 8 1),(rX st 5 2),(rX st 6 3)]}
def Z44:List (Nat×LInv):=[(8,Zeh)]
def Zht:Q0b:=mT 94 [] false [.one (.str)] [] (λa r=>Qid (argS a 0)) (λX=>.tup [.all 0,.all 1,.agg (Q1k.cells (X.2.2))]) (λX=>[⟨false,238,2,.recs .apiSymbol (X.1)⟩,⟨false,175,6,.recs .vmfleetref1Statement (X.2.1)⟩])
theorem Zdq:Q04 pG Zht:=oT (.cons Zav (.cons Z3y (.cons Qoz (.nil)))) Tryz.func94 Tryz.call94 [.row 238 2 (.recs .apiSymbol),.row 175 6 (.recs .vmfleetref1Statement)] Z44 3 (hff:=nofun)
def Qiq(st:Q09)(v:Int):Tree (Int×Bool):=
.lv (Q2u st.op) λ(x0:Int)=>.lv (Qlu x0) λ(x1:Int×Int)=>let E7:=st.l.getD (dB 0) (RK.dflt RK.vmfleetref1Arg);let E8:=st.l.getD (dB 1) (RK.dflt RK.vmfleetref1Arg);let E9:=bT 3 3&&bJ 0 3&&decide ((0:Int)<=(0:Int)/\0<(st.l.length:Int));let E10:=bT 3 3&&bJ 0 3&&decide ((0:Int)<=(1:Int)/\1<(st.l.length:Int));let E11:=st.l.getD (dB 2) (RK.dflt RK.vmfleetref1Arg);let E12:=bT 3 3&&bJ 0 3&&decide ((0:Int)<=(2:Int)/\2<(st.l.length:Int));.br (x0==2) (.cn E9 (.cn E10 (.cn E12 (let T2:Tree ((Int×Bool)):=.br (decide (0<x1.1)) (.lf (0,false)) (.br (decide (0>x1.2)) (.lf (0,false)) (.lv (Q1q {Op:=st.op,A:=E7.reg,B:=E8.reg,C:=E11.reg,Imm:=wrap i32 0}) λ(x2:Int×Bool)=>.lf (x2.1,x2.2)));.br (x0==2) T2 (.br (x0==1) T2 (.br (decide (v<x1.1)) (.lf (0,false)) (.br (decide (v>x1.2)) (.lf (0,false)) (.lv (Q1q {Op:=st.op,A:=E7.reg,B:=E8.reg,C:=E11.reg,Imm:=wrap i32 v}) λ(x4:Int×Bool)=>.lf (x4.1,x4.2))))))))) (let T1:Tree ((Int×Bool)):=.br (decide (x0>=6)) (.cn E9 (let T5:Tree ((Int×Bool)):=.br (decide (0<x1.1)) (.lf (0,false)) (.br (decide (0>x1.2)) (.lf (0,false)) (.lv (Q1q {Op:=st.op,A:=E7.reg,B:=0,C:=0,Imm:=wrap i32 0}) λ(x8:Int×Bool)=>.lf (x8.1,x8.2)));.br (x0==2) T5 (.br (x0==1) T5 (.br (decide (v<x1.1)) (.lf (0,false)) (.br (decide (v>x1.2)) (.lf (0,false)) (.lv (Q1q {Op:=st.op,A:=E7.reg,B:=0,C:=0,Imm:=wrap i32 v}) λ(x10:Int×Bool)=>.lf (x10.1,x10.2))))))) (.br (x0 !=1) (.cn E9 (.cn E10 (let T3:Tree ((Int×Bool)):=.br (decide (0<x1.1)) (.lf (0,false)) (.br (decide (0>x1.2)) (.lf (0,false)) (.lv (Q1q {Op:=st.op,A:=E7.reg,B:=E8.reg,C:=0,Imm:=wrap i32 0}) λ(x11:Int×Bool)=>.lf (x11.1,x11.2)));.br (x0==2) T3 (.br (x0==1) T3 (.br (decide (v<x1.1)) (.lf (0,false)) (.br (decide (v>x1.2)) (.lf (0,false)) (.lv (Q1q {Op:=st.op,A:=E7.reg,B:=E8.reg,C:=0,Imm:=wrap i32 v}) λ(x13:Int×Bool)=>.lf (x13.1,x13.2)))))))) (let T6:Tree ((Int×Bool)):=.br (decide (0<x1.1)) (.lf (0,false)) (.br (decide (0>x1.2)) (.lf (0,false)) (.lv (Q1q {Op:=st.op,A:=0,B:=0,C:=0,Imm:=wrap i32 0}) λ(x14:Int×Bool)=>.lf (x14.1,x14.2)));.br (x0==2) T6 (.br (x0==1) T6 (.br (decide (v<x1.1)) (.lf (0,false)) (.br (decide (v>x1.2)) (.lf (0,false)) (.lv (Q1q {Op:=st.op,A:=0,B:=0,C:=0,Imm:=wrap i32 v}) λ(x16:Int×Bool)=>.lf (x16.1,x16.2)))))));.br (decide (st.op>=32)) (.br (decide (st.op<=36)) (.cn E9 (.cn E12 (.cn E10 (let T4:Tree ((Int×Bool)):=.br (decide (0<x1.1)) (.lf (0,false)) (.br (decide (0>x1.2)) (.lf (0,false)) (.lv (Q1q {Op:=st.op,A:=E7.reg,B:=E11.reg,C:=0,Imm:=wrap i32 0}) λ(x5:Int×Bool)=>.lf (x5.1,x5.2)));.br (x0==2) T4 (.br (x0==1) T4 (.br (decide (E8.num<x1.1)) (.lf (0,false)) (.br (decide (E8.num>x1.2)) (.lf (0,false)) (.lv (Q1q {Op:=st.op,A:=E7.reg,B:=E11.reg,C:=0,Imm:=wrap i32 E8.num}) λ(x7:Int×Bool)=>.lf (x7.1,x7.2))))))))) T1) T1)
def Qo5 st v:=(Qiq st v).m
abbrev Qan st v:=(Qiq st v).p
def Zhx:Q0b:=mT 97 [] true [.agg Q09.sig,.one (.int .i64)] [] (λa r=>Qiq (Q09.of (aC a 0)) (argI a 1)) (λX=>.tup [.int .u32 (X.1),.bool (X.2)]) (λX=>[])
theorem Zcb:Q04 pG Zhx:=oT (.cons Qf6 (.cons Qql (.cons Qkg (.nil)))) Tryz.func97 Tryz.call97 [] [] 2

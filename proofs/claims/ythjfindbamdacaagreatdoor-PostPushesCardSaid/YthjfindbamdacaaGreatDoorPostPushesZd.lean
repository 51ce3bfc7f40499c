import Derived.Test.YthjfindbamdacaaGreatDoorPostPushesYz
open UInt8 renaming toNat->eQ,ofNat->eR
open List renaming take->cW,drop->cX,length->dG,getD->aK
open Int renaming toNat->dB,tdiv->eN
open Nat renaming lt_succ_self->cL,beq->bT,blt->bJ
set_option maxRecDepth 100000
set_option linter.all false
namespace Go.Proofs.YthjfindbamdacaaGreatDoor
open Go Go.GD Go.IntKind
noncomputable section
instance sumInhZd {α β:Type} [Inhabited β]:Inhabited (α⊕β):=⟨.inr default⟩
def Qvk(src:List UInt8)(z:(Int)×(Int)×(List (List UInt8))):Nat:=(src.length-z.2.1).toNat
def Qdw(src:List UInt8):Tree (List (List UInt8)):=
.lp inferInstance (Qvk src (0,0,[])+1) ((rE (src:List UInt8)/\True/\rE (0:Int)/\rE (0:Int)/\True)/\rE ([]:List (RK.T RK.str))/\True) (0,0,[]) λ(v0:Int×Int×List (List UInt8))=>let E1:=decide (16*(v0.2.2.length+1)<=140737488355328);.br (decide (v0.2.1<(src.length:Int))) (.cn (decide (0<=v0.2.1/\v0.2.1<(src.length:Int))) (.br ((↑(eQ (src.getD v0.2.1.toNat (0:UInt8))):Int)==(10:Int)) (.cn (decide (0<=v0.1/\v0.1<=v0.2.1/\v0.2.1<=(src.length:Int))) (.cn E1 (.nx ((rE (src:List UInt8)/\True/\rE ((wrap i64 (v0.2.1+1)):Int)/\rE ((wrap i64 (v0.2.1+1)):Int)/\True)/\rE ((v0.2.2++[cW (dB v0.2.1-dB v0.1) (cX v0.1.toNat src)]):List (RK.T RK.str))/\True) (Sum.inl (wrap i64 (v0.2.1+1),wrap i64 (v0.2.1+1),v0.2.2++[cW (dB v0.2.1-dB v0.1) (cX v0.1.toNat src)]))))) (.nx ((rE (src:List UInt8)/\True/\rE v0.1/\rE ((wrap i64 (v0.2.1+1)):Int)/\True)/\rE v0.2.2/\True) (Sum.inl (v0.1,wrap i64 (v0.2.1+1),v0.2.2))))) (.br (decide (v0.1<(src.length:Int))) (.cn (decide (0<=v0.1/\v0.1<=(src.length:Int)/\(src.length:Int)<=(src.length:Int))) (.cn E1 (.lf (Sum.inr (v0.2.2++[cW (dB (src.length:Int)-dB v0.1) (cX v0.1.toNat src)]))))) (.lf (Sum.inr v0.2.2)))
def Qt4 src:=(Qdw src).m
abbrev Qi6 src:=(Qdw src).p
def Z7t:LInv:={
 α:=(Int)×(Int)×(List (List UInt8))
 F:=λst a=>([(0,(lk st 0)),(3,.all 0),(4,.int i64 a.1),(5,.int i64 a.2.1)],[⟨false,9,1,.recs RK.str a.2.2⟩])
 a0:=λst=>((lk st 4).toInt,(lk st 5).toInt,(Qkt RK.str st.rows (rN st 3)))
 ex0:=λst=>[]++[(rX st 3 0)]}
def Qyy:List (Nat×LInv):=[(4,Z7t)]
def Zaf:Q09:=mT 151 [] true [.one (.str)] [] (λa r=>Qdw (argS a 0)) (λX=>.all 0) (λX=>[⟨false,9,1,.recs .str X⟩])
theorem Z78:Q04 pG Zaf:=oT (.nil) Tryz.func151 Tryz.call151 [.row 9 1 (.recs .str)] Qyy 3
def Qrl(c:Int):Tree Bool:=
.br (decide (c>=97)) (.lf (decide (c<=122))) (.lf false)
def Qgp c:=(Qrl c).m
def Z7k:Q09:=mS 287 [] true [.one (.int .u8)] [] (λa r=>Qrl (argI a 0)) (λX=>.bool X) (λX=>[])
theorem Qo2:Q04 pG Z7k:=oS (.nil) Tryz.func287 Tryz.call287 [] [] 2
def Qu0(c:Int):Tree Bool:=
.br (decide (c>=48)) (.lf (decide (c<=57))) (.lf false)
def Qc4 c:=(Qu0 c).m
def Zc:Q09:=mS 288 [] true [.one (.int .u8)] [] (λa r=>Qu0 (argI a 0)) (λX=>.bool X) (λX=>[])
theorem Qrh:Q04 pG Zc:=oS (.nil) Tryz.func288 Tryz.call288 [] [] 2
def Qt2(s:List UInt8)(z:(Bool)×(Int)×(List Q0g)):Nat:=(s.length-z.2.1).toNat
def Qsk(s:List UInt8)(v0:Bool×Int×List Q0g)(z:(Int)):Nat:=(s.length-z).toNat
def Qs(s:List UInt8)(v0:Bool×Int×List Q0g)(z:(Int)):Nat:=(s.length-z).toNat
def Qbr(s:List UInt8):Tree ((List Q0g)×Bool):=
.lp inferInstance (Qt2 s (true,0,[])+1) ((rE (s:List UInt8)/\True/\rE (true:Bool)/\rE (0:Int)/\True)/\rE ([]:List (RK.T RK.vmfleetref1Token))/\True) (true,0,[]) λ(v0:Bool×Int×List Q0g)=>.br (decide (v0.2.1<(s.length:Int))) (.cn (decide (0<=v0.2.1/\v0.2.1<(s.length:Int))) (let E7:=(↑(eQ (s.getD v0.2.1.toNat (0:UInt8))):Int);.br (E7==(32:Int)) (.nx ((rE (s:List UInt8)/\True/\rE (true:Bool)/\rE ((wrap i64 (v0.2.1+1)):Int)/\True)/\rE v0.2.2/\True) (Sum.inl (true,wrap i64 (v0.2.1+1),v0.2.2))) (.lv (Qgp E7) λ(x0:Bool)=>let E10:=decide (32*(v0.2.2.length+1)<=140737488355328);let E13:=cX v0.2.1.toNat s;.br x0 (.lp inferInstance (Qsk s v0 v0.2.1+1) ((rE (s:List UInt8)/\True/\rE v0.1/\rE v0.2.1/\rE v0.2.1/\True)/\rE v0.2.2/\True) v0.2.1 λ(v1:Int)=>let T3:Tree ((Int)⊕((Bool×Int×List Q0g)⊕(((List Q0g)×Bool)))):=.cn (decide (0<=v0.2.1/\v0.2.1<=v1/\v1<=(s.length:Int))) (.cn E10 (.nx ((rE (s:List UInt8)/\True/\rE (false:Bool)/\rE (v1:Int)/\True)/\rE ((v0.2.2++[{kind:=1,text:=cW (dB v1-dB v0.2.1) (cX v0.2.1.toNat s),gap:=v0.1}]):List (RK.T RK.vmfleetref1Token))/\True) (Sum.inr (Sum.inl (false,v1,v0.2.2++[{kind:=1,text:=cW (dB v1-dB v0.2.1) E13,gap:=v0.1}])))));.br (decide (v1<(s.length:Int))) (let E11:=decide (0<=v1/\v1<(s.length:Int));.cn E11 (let E8:=(↑(eQ (s.getD v1.toNat (0:UInt8))):Int);.lv (Qgp E8) λ(x1:Bool)=>let T5:Tree ((Int)⊕((Bool×Int×List Q0g)⊕(((List Q0g)×Bool)))):=.nx ((rE (s:List UInt8)/\True/\rE v0.1/\rE ((wrap i64 (v1+1)):Int)/\rE v0.2.1/\True)/\rE v0.2.2/\True) (Sum.inl (wrap i64 (v1+1)));.br x1 T5 (.cn E11 (.lv (Qc4 E8) λ(x2:Bool)=>.br x2 T5 (.cn E11 (.br (E8==(95:Int)) T5 T3)))))) T3) (.lv (Qc4 E7) λ(x3:Bool)=>let T2:Tree ((Bool×Int×List Q0g)⊕(((List Q0g)×Bool))):=.lp inferInstance (Qs s v0 (wrap i64 (v0.2.1+1))+1) ((rE (s:List UInt8)/\True/\rE v0.1/\rE ((wrap i64 (v0.2.1+1)):Int)/\rE v0.2.1/\True)/\rE v0.2.2/\True) (wrap i64 (v0.2.1+1)) λ(v1:Int)=>let T4:Tree ((Int)⊕((Bool×Int×List Q0g)⊕(((List Q0g)×Bool)))):=.cn (decide (0<=v0.2.1/\v0.2.1<=v1/\v1<=(s.length:Int))) (.cn E10 (.nx ((rE (s:List UInt8)/\True/\rE (false:Bool)/\rE (v1:Int)/\True)/\rE ((v0.2.2++[{kind:=2,text:=cW (dB v1-dB v0.2.1) (cX v0.2.1.toNat s),gap:=v0.1}]):List (RK.T RK.vmfleetref1Token))/\True) (Sum.inr (Sum.inl (false,v1,v0.2.2++[{kind:=2,text:=cW (dB v1-dB v0.2.1) E13,gap:=v0.1}])))));.br (decide (v1<(s.length:Int))) (let E12:=decide (0<=v1/\v1<(s.length:Int));.cn E12 (let E9:=(↑(eQ (s.getD v1.toNat (0:UInt8))):Int);.lv (Qgp E9) λ(x4:Bool)=>let T6:Tree ((Int)⊕((Bool×Int×List Q0g)⊕(((List Q0g)×Bool)))):=.nx ((rE (s:List UInt8)/\True/\rE v0.1/\rE ((wrap i64 (v1+1)):Int)/\rE v0.2.1/\True)/\rE v0.2.2/\True) (Sum.inl (wrap i64 (v1+1)));.br x4 T6 (.cn E12 (.lv (Qc4 E9) λ(x5:Bool)=>.br x5 T6 (.cn E12 (.br (E9==(95:Int)) T6 T4)))))) T4;.br x3 T2 (.br (E7==(45:Int)) T2 (let T1:Tree ((Bool×Int×List Q0g)⊕(((List Q0g)×Bool))):=.cn (decide (0<=v0.2.1/\v0.2.1<=wrap i64 (v0.2.1+1)/\wrap i64 (v0.2.1+1)<=(s.length:Int))) (.cn E10 (.nx ((rE (s:List UInt8)/\True/\rE (false:Bool)/\rE ((wrap i64 (v0.2.1+1)):Int)/\True)/\rE ((v0.2.2++[{kind:=3,text:=cW (dB (wrap i64 (v0.2.1+1))-dB v0.2.1) (cX v0.2.1.toNat s),gap:=v0.1}]):List (RK.T RK.vmfleetref1Token))/\True) (Sum.inl (false,wrap i64 (v0.2.1+1),v0.2.2++[{kind:=3,text:=cW (dB (wrap i64 (v0.2.1+1))-dB v0.2.1) E13,gap:=v0.1}]))));.br (E7==(44:Int)) T1 (.br (E7==(58:Int)) T1 (.br (E7==(40:Int)) T1 (.br (E7==(41:Int)) T1 (.br (E7==(46:Int)) T1 (.lf (Sum.inr ([],false))))))))))))) (.lf (Sum.inr (v0.2.2,true)))
def Z0e s:=(Qbr s).m
abbrev Qgo s:=(Qbr s).p
def Z0j:LInv:={
 α:=(Bool)×(Int)×(List Q0g)
 F:=λst a=>([(0,(lk st 0)),(4,.all 0),(5,.bool a.1),(6,.int i64 a.2.1)],[⟨false,303,3,.recs RK.vmfleetref1Token a.2.2⟩])
 a0:=λst=>((lk st 5).toBool,(lk st 6).toInt,(Qkt RK.vmfleetref1Token st.rows (rN st 4)))
 ex0:=λst=>[]++[(rX st 4 0)]}
def Z0x:LInv:={
 α:=(Int)
 F:=λst a=>([(0,(lk st 0)),(4,.all 0),(5,(lk st 5)),(6,.int i64 a),(8,(lk st 8))],[⟨false,303,3,esOf st.rows (rN st 4)⟩])
 a0:=λst=>(lk st 6).toInt
 ex0:=λst=>[]++[(rX st 4 0)]}
def Z1m:LInv:={
 α:=(Int)
 F:=λst a=>([(0,(lk st 0)),(4,.all 0),(5,(lk st 5)),(6,.int i64 a),(8,(lk st 8))],[⟨false,303,3,esOf st.rows (rN st 4)⟩])
 a0:=λst=>(lk st 6).toInt
 ex0:=λst=>[]++[(rX st 4 0)]}
def Qvs:List (Nat×LInv):=[(4,Z0j),(12,Z0x),(17,Z1m)]
def Z7g:Q09:=mT 231 [] true [.one (.str)] [] (λa r=>Qbr (argS a 0)) (λX=>.tup [.all 0,.bool (X.2)]) (λX=>[⟨false,303,3,.recs .vmfleetref1Token (X.1)⟩])
theorem Z1z:Q04 pG Z7g:=oT (.cons Qo2 (.cons Qrh (.nil))) Tryz.func231 Tryz.call231 [.row 303 3 (.recs .vmfleetref1Token)] Qvs 3
 def digT (p:Int->Prop) (r:Int->List UInt8) (n:Int):Tree (List UInt8):=
 .br (decide (n<(10:Int))) (.lf ([(λ(n:Int)=>eR n.toNat) (wrap u8 (wrap u64 ((48:Int)+n)))])) (.an (p (wrap u64 (eN n (10:Int)))) (.lv (r (wrap u64 (eN n (10:Int)))) λ(x0:List UInt8)=>.cn (decide (x0.length+dG [(λ(n:Int)=>eR n.toNat) (wrap u8 (wrap u64 ((48:Int)+Int.tmod n (10:Int))))]<=maxLen)) (.lf (x0++[(λ(n:Int)=>eR n.toNat) (wrap u8 (wrap u64 ((48:Int)+Int.tmod n (10:Int))))]))))
 def digF:Nat->Int->List UInt8
  |0,_=>[]
  |k+1,n=>(digT (λ_=>True) (digF k) n).m
 def digP (k:Nat) (n:Int):Prop:=0<=n/\n<10^k/\n<18446744073709551616/\0<k/\k<=30
 def digM (k:Nat):Q09:=mkP 225 [] true [.one (.int .u64)] [] (λargs rows=>digP k (argI args 0)) (λargs rows=>digF k (argI args 0)) (λX=>.str X) (λX=>[])
 theorem digF_len:∀k n,(digF k n).length<=k
  |0,_=>Nat.le_refl _
  |k+1,n=>by
   show(bif decide (n<10)then _ else letv (digF k _) λx0=>x0++_).length<=k+1
   have:=digF_len k (wrap u64 (eN n 10))
   cases decide (n<10)
   ·simp[letv,Tree.m];omega
   ·simp[Tree.m]
 theorem digM_ok:∀k,Q04 pG (digM k)
  |0=>Qy9 Tryz.call225 (λargs rows h=>absurd h.2.2.2.1 (Nat.lt_irrefl 0)) (λ_ X=>by kernel_rfl)
  |k + 1=>by
   refine Q0i drawn Q0h (.cons (digM_ok k) .nil) Tryz.func225 Tryz.call225 (λargs rows=>digT (digP k) (digF k) (argI args 0)) [] [] 2 (λ_ _ _=>by kernel_rfl) (λ_ _=>rfl) (λargs rows h=>?_) (λ_ X=>by kernel_rfl)
   obtain⟨h0,h1,h2,h3,h4⟩:=h
   generalize argI args 0=n at*
   refine w_br (λ_=>trivial) (λhn=>?_)
   have hn:=oN hn
   have e:wrap u64 (eN n 10)=n/10:=by rw[wrap_u64,Int.tdiv_eq_ediv_of_nonneg h0];omega
   refine w_an (show digP k _ from ?_) (w_lv λx hx=>w_cn (dY ?_) trivial)
   ·rw[e]
    rw[Int.pow_succ]at h1
    have hk:0<k:=by
     rcases Nat.eq_zero_or_pos k with rfl|h
     ·simp at h1;omega
     ·exact h
    exact⟨by omega,by omega,by omega,hk,by omega⟩
   ·have:=digF_len k (wrap u64 (eN n 10))
    rw[<-hx]at this
    simp[maxLen];omega
def Qcy(n:Int):(List UInt8):=
digF 20 n
def Q2z(n:Int):Prop:=
0<=n/\n<18446744073709551616
def Qku(n:Int):List D:=[.int .u64 n]
def Qko(n:Int):List Row:=[]
def Qg8(X:List UInt8):D:=.str X
def Qgd(X:List UInt8):List Row:=[]
def Qm7:List PT:=[.one (.int .u64)]
def Qkj:List RT:=[]
def Qy4(args:List D)(rows:List Row):(List UInt8):=Qcy (argI args 0)
def Qxu(args:List D)(rows:List Row):Prop:=Q2z (argI args 0)
def Z5c:Q09:=mkP 225 [] true Qm7 Qkj Qxu Qy4 Qg8 Qgd
theorem Qtr(n:Int)(hw:Q2z n):Q3i pG 225 (Qku n) (Qko n) (Qg8 (Qcy n)) (Qgd (Qcy n)):=by
 have h20:(18446744073709551616:Int)<=10^20:=by decide
 exact qu (args:=[.int .u64 n]) (rows:=[]) (digM_ok 20) (by kernel_rfl) ⟨hw.1,Int.lt_of_lt_of_le hw.2 h20,hw.2,by decide,by decide⟩
set_option maxRecDepth 100000 in
theorem Qw5(args:List D)(rows:List Row):Qlq Qm7 args 0=Qku (argI args 0):=by kernel_rfl
set_option maxRecDepth 100000 in
theorem Qso(args:List D)(rows:List Row):Qa0 Qkj rows 0=Qko (argI args 0):=by kernel_rfl
set_option maxRecDepth 100000 in
theorem Z1e(X:List UInt8):(ffB (Qg8 X)&&ffBR (Qgd X))=true:=by kernel_rfl
theorem Z1s:Q04 pG Z5c:=Qy9 Tryz.call225 (λargs rows hp=>by rw[Qw5 args rows,Qso args rows];exact Qtr (argI args 0) hp) (λ_ X=>Z1e X)
def Q61(n:Int):Tree (List UInt8):=
.br (decide (n<0)) (let E1:=wrap u64 (wrap u64 (wrap i64 (0-wrap i64 (n+1)))+1);.an (Q2z E1) (.lv (Qcy E1) λ(x0:List UInt8)=>.cn (decide (1+x0.length<=maxLen)) (.lf ((45:UInt8)::x0)))) (.an (Q2z (wrap u64 n)) (.lv (Qcy (wrap u64 n)) λ(x1:List UInt8)=>.lf x1))
def Ql6 n:=(Q61 n).m
abbrev Qe4 n:=(Q61 n).p
def Z20:Q09:=mT 148 [] true [.one (.int .i64)] [] (λa r=>Q61 (argI a 0)) (λX=>.str X) (λX=>[])
theorem Qyd:Q04 pG Z20:=oT (.cons Z1s (.nil)) Tryz.func148 Tryz.call148 [] [] 2
def Qc6(r:Int):Tree (List UInt8):=
.an (Qe4 r) (.lv (Ql6 r) λ(x0:List UInt8)=>.cn (decide (1+x0.length<=maxLen)) (.lf ((114:UInt8)::x0)))
def Zf3 r:=(Qc6 r).m
abbrev Qmp r:=(Qc6 r).p
def Zh8:Q09:=mT 309 [] true [.one (.int .i64)] [] (λa r=>Qc6 (argI a 0)) (λX=>.str X) (λX=>[])
theorem Ze2:Q04 pG Zh8:=oT (.cons Qyd (.nil)) Tryz.func309 Tryz.call309 [] [] 2
def Qno(s:List UInt8)(z:(Int)):Prop:=0<=z/\z<=16
def Qdo(s:List UInt8)(z:(Int)):Nat:=(16-z).toNat
def Q9f(s:List UInt8):Tree (Int×Bool):=
.lp inferInstance (Qdo s 0+1) ((rE (s:List UInt8)/\rE (0:Int)/\True)/\True) 0 λ(v0:Int)=>.br (decide (v0<16)) (.an (Qmp v0) (.lv (Zf3 v0) λ(x0:List UInt8)=>.br (decide (s=x0)) (.lf (Sum.inr (v0,true))) (.nx ((rE (s:List UInt8)/\rE ((wrap i64 (v0+1)):Int)/\True)/\True) (Sum.inl (wrap i64 (v0+1)))))) (.lf (Sum.inr (0,false)))
def Qgv s:=(Q9f s).m
theorem Qov(s:List UInt8):(Q9f s).p:=by
 unfold Tree.p Q9f
 have dp:∀x,Q2z (wrap .u64 x):=λx=>by unfold Q2z;rw[wrap_u64];omega
 have dl:∀x,(Qcy x).length<=20:=λx=>digF_len 20 x
 have hd:∀x,(Q61 x).w (λr=>r.length<=21):=λx=>by
  unfold Q61
  refine w_br (λ_=>w_an (dp _) (w_lv λx0 h0=>w_cn (dY ?_) ?_)) (λ_=>w_an (dp _) (w_lv λx1 h1=>?_))
  ·have:=dl (wrap .u64 (wrap .u64 (wrap .i64 (0-wrap .i64 (x+1)))+1));rw[<-h0]at this;simp[maxLen];omega
  ·have:=dl (wrap .u64 (wrap .u64 (wrap .i64 (0-wrap .i64 (x+1)))+1));rw[<-h0]at this;show(_::x0).length<=21;simp;omega
  ·rw[h1];exact Nat.le_trans (dl _) (by decide)
 have hr:∀x,(Qc6 x).p:=λx=>by
  unfold Tree.p Qc6
  refine w_an (Tree.pp (hd x)).1 (w_lv λx0 h0=>w_cn (dY ?_) trivial)
  have:(Ql6 x).length<=21:=(Tree.pp (hd x)).2
  rw[<-h0]at this;simp[maxLen];omega
 refine w_lp (inv:=Qno s) (μ:=Qdo s) ⟨by decide,by decide⟩ (cL _) (λz hz=>?_)
 obtain⟨z1,z2⟩:=hz
 refine w_br (λhb=>w_an (hr _) (w_lv λx0 _=>w_br (λ_=>trivial) (λ_=>w_nx ?_))) (λ_=>trivial)
 have hb:=oY hb
 show(0<=i64.wrap (z+1)/\i64.wrap (z+1)<=16)/\(16-i64.wrap (z+1)).toNat<(16-z).toNat
 rw[wrap_i64];omega
def Qph:LInv:={
 α:=(Int)
 F:=λst a=>([(0,(lk st 0)),(4,.int i64 a)],[])
 a0:=λst=>(lk st 4).toInt
 ex0:=λst=>[]++[]}
def Qnv:List (Nat×LInv):=[(2,Qph)]
def Qsf:Q09:=mS 289 [] true [.one (.str)] [] (λa r=>Q9f (argS a 0)) (λX=>.tup [.int .i64 (X.1),.bool (X.2)]) (λX=>[])
theorem Qhq:Q04 pG Qsf:=oS (.cons Ze2 (.nil)) Tryz.func289 Tryz.call289 [] Qnv 3 (λ_ _ _=>by kernel_rfl) (λa r=>Qov (argS a 0)) (λ_ X=>by kernel_rfl)
def Qh2(s:List UInt8):Tree Bool:=
.lv (Qgv s) λ(x0:Int×Bool)=>.br (decide ((s.length:Int)>=(1:Int))) (.br (decide ((s.length:Int)<=(12:Int))) (.cn (decide ((0:Int)<=(0:Int)/\0<(s.length:Int))) (.lv (Qgp (↑(eQ (s.getD (dB 0) (0:UInt8))):Int)) λ(x1:Bool)=>.br x1 (.lf (!x0.2)) (.lf false))) (.lf false)) (.lf false)
def Qym s:=(Qh2 s).m
abbrev Qeq s:=(Qh2 s).p
def Zd9:Q09:=mT 232 [] true [.one (.str)] [] (λa r=>Qh2 (argS a 0)) (λX=>.bool X) (λX=>[])
theorem Quv:Q04 pG Zd9:=oT (.cons Qhq (.cons Qo2 (.nil))) Tryz.func232 Tryz.call232 [] [] 2
def Q8d(op:Int):Tree (List UInt8):=
let T1:Tree ((List UInt8)):=let T3:Tree ((List UInt8)):=.br (op==48) (.lf ([(106:UInt8),97,108])) (.br (op==49) (.lf ([(106:UInt8),97,108,114])) (.br (decide (op>=56)) (.br (decide (op<=64)) (.cn (bT 1 1&&bJ 0 1&&decide (0<=wrap i64 (op-56)/\wrap i64 (op-56)<(↑9:Int))) (.lf (aK [[(101:UInt8),99,97,108,108],[(101:UInt8),114,101,116],[(99:UInt8),115,114,114],[(99:UInt8),115,114,119],[(105:UInt8),110],[(111:UInt8),117,116],[(119:UInt8),102,105],[(102:UInt8),108,117,115,104],[(104:UInt8),97,108,116]] (dB (wrap i64 (op-56))) (RK.dflt RK.str)))) (.lf ([]))) (.lf ([]))));.br (decide (op>=40)) (.br (decide (op<=45)) (.cn (bT 1 1&&bJ 0 1&&decide (0<=wrap i64 (op-40)/\wrap i64 (op-40)<(↑6:Int))) (.lf (aK [[(98:UInt8),101,113],[(98:UInt8),110,101],[(98:UInt8),108,116],[(98:UInt8),103,101],[(98:UInt8),108,116,117],[(98:UInt8),103,101,117]] (dB (wrap i64 (op-40))) (RK.dflt RK.str)))) T3) T3;let T2:Tree ((List UInt8)):=let T4:Tree ((List UInt8)):=.br (decide (op>=32)) (.br (decide (op<=36)) (.cn (bT 1 1&&bJ 0 1&&decide (0<=wrap i64 (op-32)/\wrap i64 (op-32)<(↑5:Int))) (.lf (aK [[(108:UInt8),119],[(108:UInt8),98],[(108:UInt8),98,117],[(115:UInt8),119],[(115:UInt8),98]] (dB (wrap i64 (op-32))) (RK.dflt RK.str)))) T1) T1;.br (decide (op>=16)) (.br (decide (op<=24)) (.cn (bT 1 1&&bJ 0 1&&decide (0<=wrap i64 (op-16)/\wrap i64 (op-16)<(↑9:Int))) (.lf (aK [[(97:UInt8),100,100,105],[(97:UInt8),110,100,105],[(111:UInt8),114,105],[(120:UInt8),111,114,105],[(115:UInt8),104,108,105],[(115:UInt8),104,114,105],[(115:UInt8),97,114,105],[(115:UInt8),108,116,105],[(108:UInt8),117,105]] (dB (wrap i64 (op-16))) (RK.dflt RK.str)))) T4) T4;.br (decide (op>=1)) (.br (decide (op<=13)) (.cn (bT 1 1&&bJ 0 1&&decide (0<=wrap i64 (op-1)/\wrap i64 (op-1)<(↑13:Int))) (.lf (aK [[(97:UInt8),100,100],[(115:UInt8),117,98],[(97:UInt8),110,100],[(111:UInt8),114],[(120:UInt8),111,114],[(115:UInt8),104,108],[(115:UInt8),104,114],[(115:UInt8),97,114],[(109:UInt8),117,108],[(100:UInt8),105,118],[(114:UInt8),101,109],[(115:UInt8),108,116],[(115:UInt8),108,116,117]] (dB (wrap i64 (op-1))) (RK.dflt RK.str)))) T2) T2
def Qqm op:=(Q8d op).m
abbrev Qce op:=(Q8d op).p
def Qzb:Q09:=mT 291 [] true [.one (.int .i64)] [] (λa r=>Q8d (argI a 0)) (λX=>.str X) (λX=>[])
theorem Qw7:Q04 pG Qzb:=oT (.nil) Tryz.func291 Tryz.call291 [] [] 2
def Qnx(s:List UInt8)(z:(Int)):Nat:=(65-z).toNat
def Q7a(s:List UInt8):Tree Int:=
.lp inferInstance (Qnx s 1+1) ((rE (s:List UInt8)/\rE (1:Int)/\True)/\True) 1 λ(v0:Int)=>.br (decide (v0<=64)) (.lv (Q2d v0) λ(x0:Int)=>.br (decide (x0>0)) (.an (Qce v0) (.lv (Qqm v0) λ(x1:List UInt8)=>.br (decide (x1=s)) (.lf (Sum.inr v0)) (.nx ((rE (s:List UInt8)/\rE ((wrap i64 (v0+1)):Int)/\True)/\True) (Sum.inl (wrap i64 (v0+1)))))) (.nx ((rE (s:List UInt8)/\rE ((wrap i64 (v0+1)):Int)/\True)/\True) (Sum.inl (wrap i64 (v0+1))))) (.lf (Sum.inr 0))
def Q7r s:=(Q7a s).m
abbrev Q3 s:=(Q7a s).p
def Qtx:LInv:={
 α:=(Int)
 F:=λst a=>([(0,(lk st 0)),(3,.int i64 a)],[])
 a0:=λst=>(lk st 3).toInt
 ex0:=λst=>[]++[]}
def Qp5:List (Nat×LInv):=[(2,Qtx)]
def Qvm:Q09:=mT 235 [] true [.one (.str)] [] (λa r=>Q7a (argS a 0)) (λX=>.int .i64 X) (λX=>[])
theorem Qjc:Q04 pG Qvm:=oT (.cons Qdp (.cons Qw7 (.nil))) Tryz.func235 Tryz.call235 [] Qp5 3
def Qa1(what:List UInt8):Tree ((List UInt8)×Bool):=
.an (Q3 what) (.lv (Q7r what) λ(x0:Int)=>.br (decide (what=[(46:UInt8),119,111,114,100])) (.lf ([(120:UInt8)],true)) (.br (decide (what=[(46:UInt8),115,112,97,99,101])) (.lf ([(110:UInt8)],true)) (.br (decide (what=[(108:UInt8),105])) (.lf ([(114:UInt8),44,120],true)) (.br (decide (what=[(109:UInt8),118])) (.lf ([(114:UInt8),44,114],true)) (.br (decide (what=[(110:UInt8),111,112])) (.lf ([],true)) (.br (x0==0) (.lf ([],false)) (let T1:Tree (((List UInt8)×Bool)):=.br (x0==48) (.lf ([(114:UInt8),44,120],true)) (.lv (Q2d x0) λ(x1:Int)=>.br (x1==1) (.lf ([],true)) (.br (x1==2) (.lf ([(114:UInt8),44,114,44,114],true)) (.br (decide (x1>=6)) (.lf ([(114:UInt8),44,110],true)) (.lf ([(114:UInt8),44,114,44,110],true)))));let T2:Tree (((List UInt8)×Bool)):=.br (decide (x0>=40)) (.br (decide (x0<=45)) (.lf ([(114:UInt8),44,114,44,120],true)) T1) T1;.br (decide (x0>=32)) (.br (decide (x0<=36)) (.lf ([(114:UInt8),44,110,40,114,41],true)) T2) T2)))))))
def Qds what:=(Qa1 what).m
abbrev Q5h what:=(Qa1 what).p
def Z1y:Q09:=mT 233 [] true [.one (.str)] [] (λa r=>Qa1 (argS a 0)) (λX=>.tup [.str (X.1),.bool (X.2)]) (λX=>[])
theorem Qx2:Q04 pG Z1y:=oT (.cons Qjc (.cons Qdp (.nil))) Tryz.func233 Tryz.call233 [] [] 2
def Qte(s:List UInt8)(z:(Int)×(Int)):Nat:=(s.length-z.2).toNat
def Qij(s:List UInt8)(z:(Int)×(Int)):Nat:=(s.length-z.2).toNat
def Qbh(s:List UInt8):Tree (Int×Bool):=
let E7:=decide ((0:Int)<=(0:Int)/\0<(s.length:Int));let E8:=(↑(eQ (s.getD (dB 0) (0:UInt8))):Int);let T1:Tree ((Int×Bool)):=let T2:Tree ((Int×Bool)):=.br (decide (wrap i64 ((s.length:Int)-(0:Int))<1)) (.lf (0,false)) (.br (decide (wrap i64 ((s.length:Int)-(0:Int))>10)) (.lf (0,false)) (.lp inferInstance (Qij s (0,0)+1) ((rE (s:List UInt8)/\rE (0:Int)/\rE (0:Int)/\rE (0:Int)/\True)/\True) (0,0) λ(v0:Int×Int)=>.br (decide (v0.2<(s.length:Int))) (let E9:=decide (0<=v0.2/\v0.2<(s.length:Int));.cn E9 (let E5:=(↑(eQ (s.getD v0.2.toNat (0:UInt8))):Int);.lv (Qc4 E5) λ(x2:Bool)=>.br (!x2) (.lf (Sum.inr (0,false))) (.cn E9 (.nx ((rE (s:List UInt8)/\rE (0:Int)/\rE ((wrap i64 (wrap i64 (10*v0.1)+wrap i64 (wrap u8 ((↑(eQ (s.getD v0.2.toNat (0:UInt8))):Int)-(48:Int))))):Int)/\rE ((wrap i64 (v0.2+1)):Int)/\True)/\True) (Sum.inl (wrap i64 (wrap i64 (10*v0.1)+wrap i64 (wrap u8 (E5-(48:Int)))),wrap i64 (v0.2+1))))))) (.br (decide (v0.1>=(-2147483648))) (.lf (Sum.inr (v0.1,decide (v0.1<=4294967295)))) (.lf (Sum.inr (v0.1,false))))));.br (decide ((s.length:Int)>(0:Int))) (.cn E7 (.br (E8==(45:Int)) (.br (decide (wrap i64 ((s.length:Int)-(1:Int))<1)) (.lf (0,false)) (.br (decide (wrap i64 ((s.length:Int)-(1:Int))>10)) (.lf (0,false)) (.lp inferInstance (Qij s (0,1)+1) ((rE (s:List UInt8)/\rE (1:Int)/\rE (0:Int)/\rE (1:Int)/\True)/\True) (0,1) λ(v0:Int×Int)=>.br (decide (v0.2<(s.length:Int))) (let E10:=decide (0<=v0.2/\v0.2<(s.length:Int));.cn E10 (let E6:=(↑(eQ (s.getD v0.2.toNat (0:UInt8))):Int);.lv (Qc4 E6) λ(x1:Bool)=>.br (!x1) (.lf (Sum.inr (0,false))) (.cn E10 (.nx ((rE (s:List UInt8)/\rE (1:Int)/\rE ((wrap i64 (wrap i64 (10*v0.1)+wrap i64 (wrap u8 ((↑(eQ (s.getD v0.2.toNat (0:UInt8))):Int)-(48:Int))))):Int)/\rE ((wrap i64 (v0.2+1)):Int)/\True)/\True) (Sum.inl (wrap i64 (wrap i64 (10*v0.1)+wrap i64 (wrap u8 (E6-(48:Int)))),wrap i64 (v0.2+1))))))) (.br (decide (wrap i64 (0-v0.1)>=(-2147483648))) (.lf (Sum.inr (wrap i64 (0-v0.1),decide (wrap i64 (0-v0.1)<=4294967295)))) (.lf (Sum.inr (wrap i64 (0-v0.1),false))))))) T2)) T2;.br (decide ((s.length:Int)>(2:Int))) (.cn E7 (.br (E8==(48:Int)) (.cn (decide ((0:Int)<=(1:Int)/\1<(s.length:Int))) (.br ((↑(eQ (s.getD (dB 1) (0:UInt8))):Int)==(120:Int)) (.br (decide ((s.length:Int)>(10:Int))) (.lf (0,false)) (.lp inferInstance (Qte s (0,2)+1) ((rE (s:List UInt8)/\rE (0:Int)/\rE (2:Int)/\True)/\True) (0,2) λ(v0:Int×Int)=>.br (decide (v0.2<(s.length:Int))) (let E4:=decide (0<=v0.2/\v0.2<(s.length:Int));.cn E4 (let E3:=(↑(eQ (s.getD v0.2.toNat (0:UInt8))):Int);.lv (Qc4 E3) λ(x0:Bool)=>.br x0 (.cn E4 (.nx ((rE (s:List UInt8)/\rE ((wrap i64 (wrap i64 (16*v0.1)+wrap i64 (wrap u8 ((↑(eQ (s.getD v0.2.toNat (0:UInt8))):Int)-(48:Int))))):Int)/\rE ((wrap i64 (v0.2+1)):Int)/\True)/\True) (Sum.inl (wrap i64 (wrap i64 (16*v0.1)+wrap i64 (wrap u8 (E3-(48:Int)))),wrap i64 (v0.2+1))))) (.cn E4 (.br (decide (E3>=(97:Int))) (.cn E4 (.br (decide (E3<=(102:Int))) (.cn E4 (.nx ((rE (s:List UInt8)/\rE ((wrap i64 (wrap i64 (wrap i64 (16*v0.1)+wrap i64 (wrap u8 ((↑(eQ (s.getD v0.2.toNat (0:UInt8))):Int)-(97:Int))))+10)):Int)/\rE ((wrap i64 (v0.2+1)):Int)/\True)/\True) (Sum.inl (wrap i64 (wrap i64 (wrap i64 (16*v0.1)+wrap i64 (wrap u8 (E3-(97:Int))))+10),wrap i64 (v0.2+1))))) (.lf (Sum.inr (0,false))))) (.lf (Sum.inr (0,false))))))) (.lf (Sum.inr (v0.1,true))))) T1)) T1)) T1
def Z03 s:=(Qbh s).m
abbrev Qgf s:=(Qbh s).p
def Z1i:LInv:={
 α:=(Int)×(Int)
 F:=λst a=>([(0,(lk st 0)),(4,.int i64 a.1),(5,.int i64 a.2)],[])
 a0:=λst=>((lk st 4).toInt,(lk st 5).toInt)
 ex0:=λst=>[]++[]}
def Z0w:LInv:={
 α:=(Int)×(Int)
 F:=λst a=>([(0,(lk st 0)),(6,(lk st 6)),(7,.int i64 a.1),(8,.int i64 a.2)],[])
 a0:=λst=>((lk st 7).toInt,(lk st 8).toInt)
 ex0:=λst=>[]++[]}
def Qvo:List (Nat×LInv):=[(6,Z1i),(21,Z0w)]
def Z5k:Q09:=mT 290 [] true [.one (.str)] [] (λa r=>Qbh (argS a 0)) (λX=>.tup [.int .i64 (X.1),.bool (X.2)]) (λX=>[])
theorem Z2:Q04 pG Z5k:=oT (.cons Qrh (.nil)) Tryz.func290 Tryz.call290 [] Qvo 3
def Qpq(l:List Q0g)(p:List UInt8)(z:(Int)×(List Q0q)):Nat:=(l.length-z.1).toNat
def Q9z(l:List Q0g)(p:List UInt8):Tree ((List Q0q)×Bool):=
.br ((l.length:Int) !=(p.length:Int)) (.lf ([],false)) (.lp inferInstance (Qpq l p (0,[])+1) ((nR RK.vmfleetref1Token 3 l/\rE (p:List UInt8)/\True/\rE (0:Int)/\True)/\rE ([]:List (RK.T RK.vmfleetref1Arg))/\True) (0,[]) λ(v0:Int×List Q0q)=>.br (decide (v0.1<(l.length:Int))) (.cn (bT 3 3&&bJ 0 3&&decide (0<=v0.1/\v0.1<(l.length:Int))) (let E6:=decide (0<=v0.1/\v0.1<(p.length:Int));.cn E6 (let E3:=l.getD v0.1.toNat (RK.dflt RK.vmfleetref1Token);let E4:=(↑(eQ (p.getD v0.1.toNat (0:UInt8))):Int);let E5:=decide (32*(v0.2.length+1)<=140737488355328);.br (E4==(114:Int)) (.lv (Qgv E3.text) λ(x0:Int×Bool)=>.br (E3.kind !=1) (.lf (Sum.inr ([],false))) (.br (!x0.2) (.lf (Sum.inr ([],false))) (.cn E5 (.nx ((nR RK.vmfleetref1Token 3 l/\rE (p:List UInt8)/\True/\rE ((wrap i64 (v0.1+1)):Int)/\True)/\rE ((v0.2++[{reg:=x0.1,num:=0,label:=[]}]):List (RK.T RK.vmfleetref1Arg))/\True) (Sum.inl (wrap i64 (v0.1+1),v0.2++[{reg:=x0.1,num:=0,label:=[]}])))))) (let T1:Tree ((Int×List Q0q)⊕(((List Q0q)×Bool))):=.an (Qgf E3.text) (.lv (Z03 E3.text) λ(x2:Int×Bool)=>.br (E3.kind !=2) (.lf (Sum.inr ([],false))) (.br (!x2.2) (.lf (Sum.inr ([],false))) (.cn E5 (.nx ((nR RK.vmfleetref1Token 3 l/\rE (p:List UInt8)/\True/\rE ((wrap i64 (v0.1+1)):Int)/\True)/\rE ((v0.2++[{reg:=0,num:=x2.1,label:=[]}]):List (RK.T RK.vmfleetref1Arg))/\True) (Sum.inl (wrap i64 (v0.1+1),v0.2++[{reg:=0,num:=x2.1,label:=[]}]))))));let T2:Tree ((Int×List Q0q)⊕(((List Q0q)×Bool))):=.cn E6 (.br (E4==(120:Int)) (.br (E3.kind==1) (.an (Qeq E3.text) (.lv (Qym E3.text) λ(x1:Bool)=>.br x1 (.cn E5 (.nx ((nR RK.vmfleetref1Token 3 l/\rE (p:List UInt8)/\True/\rE ((wrap i64 (v0.1+1)):Int)/\True)/\rE ((v0.2++[{reg:=0,num:=0,label:=(l.getD v0.1.toNat (RK.dflt RK.vmfleetref1Token)).text}]):List (RK.T RK.vmfleetref1Arg))/\True) (Sum.inl (wrap i64 (v0.1+1),v0.2++[{reg:=0,num:=0,label:=E3.text}])))) T1)) T1) T1);.br (E4==(110:Int)) T2 (.br (E4==(120:Int)) T2 (.br (E3.kind !=3) (.lf (Sum.inr ([],false))) (.cn (decide (0<=v0.1/\v0.1<=wrap i64 (v0.1+1)/\wrap i64 (v0.1+1)<=(p.length:Int))) (.br (!decide (E3.text=cW (dB (wrap i64 (v0.1+1))-dB v0.1) (cX v0.1.toNat p))) (.lf (Sum.inr ([],false))) (.nx ((nR RK.vmfleetref1Token 3 l/\rE (p:List UInt8)/\True/\rE ((wrap i64 (v0.1+1)):Int)/\True)/\rE v0.2/\True) (Sum.inl (wrap i64 (v0.1+1),v0.2))))))))))) (.lf (Sum.inr (v0.2,true))))
def Qe0 l p:=(Q9z l p).m
abbrev Q5d l p:=(Q9z l p).p
def Qxi:LInv:={
 α:=(Int)×(List Q0q)
 F:=λst a=>([(0,(lk st 0)),(1,(lk st 1)),(6,.all 0),(7,.int i64 a.1)],[⟨false,177,3,.recs RK.vmfleetref1Arg a.2⟩])
 a0:=λst=>((lk st 7).toInt,(Qkt RK.vmfleetref1Arg st.rows (rN st 6)))
 ex0:=λst=>[]++[(rX st 6 0)]}
def Qsr:List (Nat×LInv):=[(5,Qxi)]
def Z0o:Q09:=mT 234 [] true [.one (.recs .vmfleetref1Token),.one (.str)] [] (λa r=>Q9z (argR .vmfleetref1Token a 0) (argS a 1)) (λX=>.tup [.all 0,.bool (X.2)]) (λX=>[⟨false,177,3,.recs .vmfleetref1Arg (X.1)⟩])
theorem Qx:Q04 pG Z0o:=oT (.cons Qhq (.cons Quv (.cons Z2 (.nil)))) Tryz.func234 Tryz.call234 [.row 177 3 (.recs .vmfleetref1Arg)] Qsr 3
def Qtb(s:List UInt8)(z:(List UInt8)×(Int)):Nat:=(s.length-z.2).toNat
def Qbk(s:List UInt8):Tree ((List UInt8)×Q08×Bool):=
.lp inferInstance (Qtb s (s,0)+1) ((rE (s:List UInt8)/\rE ([]:List UInt8)/\rZ/\rE (false:Bool)/\rE (0:Int)/\True)/\(rE ([]:List UInt8)/\rE (0:Int)/\True/\rE (0:Int)/\rE (0:Int)/\rE (0:Int)/\True)/\True) (s,0) λ(v0:List UInt8×Int)=>.br (decide (v0.2<(v0.1.length:Int))) (.cn (decide (0<=v0.2/\v0.2<(v0.1.length:Int))) (.br ((↑(eQ (v0.1.getD v0.2.toNat (0:UInt8))):Int)==(59:Int)) (.cn (decide ((0:Int)<=(0:Int)/\0<=v0.2/\v0.2<=(v0.1.length:Int))) (.nx ((rE ((cW (dB v0.2-dB 0) (cX (dB 0) v0.1)):List UInt8)/\rE ([]:List UInt8)/\rZ/\rE (false:Bool)/\rE ((wrap i64 (v0.2+1)):Int)/\True)/\(rE ([]:List UInt8)/\rE (0:Int)/\True/\rE (0:Int)/\rE (0:Int)/\rE (0:Int)/\True)/\True) (Sum.inl (cW (dB v0.2-dB 0) (cX (dB 0) v0.1),wrap i64 (v0.2+1))))) (.nx ((rE v0.1/\rE ([]:List UInt8)/\rZ/\rE (false:Bool)/\rE ((wrap i64 (v0.2+1)):Int)/\True)/\(rE ([]:List UInt8)/\rE (0:Int)/\True/\rE (0:Int)/\rE (0:Int)/\rE (0:Int)/\True)/\True) (Sum.inl (v0.1,wrap i64 (v0.2+1)))))) (.an (Qgo v0.1) (.lv (Z0e v0.1) λ(x0:List Q0g×Bool)=>.br (!x0.2) (.lf (Sum.inr ([],{what:=[],op:=0,l:=[],D2:=0,at_:=0,size:=0},false))) (let E9:=x0.1.getD (dB 0) (RK.dflt RK.vmfleetref1Token);let T1:Tree ((List UInt8×Int)⊕(((List UInt8)×Q08×Bool))):=.an (Q5h E9.text) (.lv (Qds E9.text) λ(x27:List UInt8×Bool)=>.br (!x27.2) (.lf (Sum.inr ([],{what:=[],op:=0,l:=[],D2:=0,at_:=0,size:=0},false))) (let E20:=dB (x0.1.length:Int)-dB 1;let T6:Tree ((List UInt8×Int)⊕(((List UInt8)×Q08×Bool))):=let E31:=cW E20 (cX (dB 1) x0.1);.an (Q5d E31 x27.1) (.lv (Qe0 E31 x27.1) λ(x28:List Q0q×Bool)=>.br (!x28.2) (.lf (Sum.inr ([],{what:=[],op:=0,l:=[],D2:=0,at_:=0,size:=0},false))) (.an (Q3 E9.text) (.lv (Q7r E9.text) λ(x29:Int)=>.br (decide (E9.text=[(108:UInt8),105])) (.lf (Sum.inr ([],{what:=E9.text,op:=x29,l:=x28.1,D2:=0,at_:=0,size:=2},true))) (.br (decide (E9.text=[(46:UInt8),115,112,97,99,101])) (let E13:=bT 3 3&&bJ 0 3&&decide ((0:Int)<=(0:Int)/\0<(x28.1.length:Int));.cn E13 (let E21:=x28.1.getD (dB 0) (RK.dflt RK.vmfleetref1Arg);.br (decide (E21.num<0)) (.lf (Sum.inr ([],{what:=[],op:=0,l:=[],D2:=0,at_:=0,size:=0},false))) (.cn E13 (.br (decide (E21.num>1024)) (.lf (Sum.inr ([],{what:=[],op:=0,l:=[],D2:=0,at_:=0,size:=0},false))) (.cn E13 (.lf (Sum.inr ([],{what:=E9.text,op:=x29,l:=x28.1,D2:=0,at_:=0,size:=E21.num},true)))))))) (.lf (Sum.inr ([],{what:=E9.text,op:=x29,l:=x28.1,D2:=0,at_:=0,size:=1},true)))))));.br (decide ((↑E20:Int)>(0:Int))) (.cn (bT 3 3&&bJ 0 3&&decide ((0:Int)<=(0:Int)/\0<(↑E20:Int))) (.br (!(x0.1.getD (dB 1+dB 0) (RK.dflt RK.vmfleetref1Token)).gap) (.lf (Sum.inr ([],{what:=[],op:=0,l:=[],D2:=0,at_:=0,size:=0},false))) T6)) T6));let E25:=dB (x0.1.length:Int)-dB 2;let E8:=(↑E25:Int);let E10:=x0.1.getD (dB 2+dB 0) (RK.dflt RK.vmfleetref1Token);let E12:=x0.1.getD (dB 1) (RK.dflt RK.vmfleetref1Token);let E16:=bT 3 3&&bJ 0 3&&decide ((0:Int)<=(0:Int)/\0<(x0.1.length:Int));let E17:=bT 3 3&&bJ 0 3&&decide ((0:Int)<=(1:Int)/\1<(x0.1.length:Int));let E19:=bT 3 3&&bJ 0 3&&decide ((0:Int)<=(2:Int)/\2<=(x0.1.length:Int)/\(x0.1.length:Int)<=(x0.1.length:Int));let E28:=bT 3 3&&bJ 0 3&&decide ((0:Int)<=(0:Int)/\0<E8);let E30:=decide ((x0.1.length:Int)>=(2:Int));let T3:Tree ((List UInt8×Int)⊕(((List UInt8)×Q08×Bool))):=.br ((x0.1.length:Int)==(0:Int)) (.lf (Sum.inr ([],{what:=[],op:=0,l:=[],D2:=0,at_:=0,size:=0},true))) (.cn E16 (.cn (bT 3 3&&bJ 0 3&&decide ((0:Int)<=(1:Int)/\1<=(x0.1.length:Int)/\(x0.1.length:Int)<=(x0.1.length:Int))) (.br (decide (E9.text=[(46:UInt8)])) (.br E30 (.cn E17 (.br (!E12.gap) (.cn E17 (.cn (decide (1+dG E12.text<=maxLen)) (.cn E19 (.an (Q5h ((46:UInt8)::E12.text)) (.lv (Qds ([(46:UInt8)]++E12.text)) λ(x22:List UInt8×Bool)=>.br (!x22.2) (.lf (Sum.inr ([],{what:=[],op:=0,l:=[],D2:=0,at_:=0,size:=0},false))) (let T7:Tree ((List UInt8×Int)⊕(((List UInt8)×Q08×Bool))):=let E32:=cW E25 (cX (dB 2) x0.1);.an (Q5d E32 x22.1) (.lv (Qe0 E32 x22.1) λ(x23:List Q0q×Bool)=>.br (!x23.2) (.lf (Sum.inr ([],{what:=[],op:=0,l:=[],D2:=0,at_:=0,size:=0},false))) (.an (Q3 ((46:UInt8)::E12.text)) (.lv (Q7r ([(46:UInt8)]++E12.text)) λ(x24:Int)=>.br (decide ([(46:UInt8)]++E12.text=[(46:UInt8),115,112,97,99,101])) (let E14:=bT 3 3&&bJ 0 3&&decide ((0:Int)<=(0:Int)/\0<(x23.1.length:Int));.cn E14 (let E22:=x23.1.getD (dB 0) (RK.dflt RK.vmfleetref1Arg);.br (decide (E22.num<0)) (.lf (Sum.inr ([],{what:=[],op:=0,l:=[],D2:=0,at_:=0,size:=0},false))) (.cn E14 (.br (decide (E22.num>1024)) (.lf (Sum.inr ([],{what:=[],op:=0,l:=[],D2:=0,at_:=0,size:=0},false))) (.cn E14 (.lf (Sum.inr ([],{what:=(46:UInt8)::E12.text,op:=x24,l:=x23.1,D2:=0,at_:=0,size:=E22.num},true)))))))) (.lf (Sum.inr ([],{what:=(46:UInt8)::E12.text,op:=x24,l:=x23.1,D2:=0,at_:=0,size:=1},true))))));.br (decide (E8>(0:Int))) (.cn E28 (.br (!E10.gap) (.lf (Sum.inr ([],{what:=[],op:=0,l:=[],D2:=0,at_:=0,size:=0},false))) T7)) T7)))))) T1)) T1) T1)));.br E30 (.cn E17 (.br (decide (E12.text=[(58:UInt8)])) (.cn E16 (.cn E16 (.br (E9.kind !=1) (.lf (Sum.inr ([],{what:=[],op:=0,l:=[],D2:=0,at_:=0,size:=0},false))) (.an (Qeq E9.text) (.lv (Qym E9.text) λ(x1:Bool)=>.br (!x1) (.lf (Sum.inr ([],{what:=[],op:=0,l:=[],D2:=0,at_:=0,size:=0},false))) (.cn E19 (.br (E8==(0:Int)) (.lf (Sum.inr (E9.text,{what:=[],op:=0,l:=[],D2:=0,at_:=0,size:=0},true))) (.cn E28 (.cn (bT 3 3&&bJ 0 3&&decide ((0:Int)<=(1:Int)/\1<=E8/\E8<=E8)) (let T2:Tree ((List UInt8×Int)⊕(((List UInt8)×Q08×Bool))):=.an (Q5h E10.text) (.lv (Qds E10.text) λ(x7:List UInt8×Bool)=>.br (!x7.2) (.lf (Sum.inr ([],{what:=[],op:=0,l:=[],D2:=0,at_:=0,size:=0},false))) (let T4:Tree ((List UInt8×Int)⊕(((List UInt8)×Q08×Bool))):=let E26:=cW (dB E8-dB 1) (cX (dB 2+dB 1) x0.1);.an (Q5d E26 x7.1) (.lv (Qe0 E26 x7.1) λ(x8:List Q0q×Bool)=>.br (!x8.2) (.lf (Sum.inr ([],{what:=[],op:=0,l:=[],D2:=0,at_:=0,size:=0},false))) (.an (Q3 E10.text) (.lv (Q7r E10.text) λ(x9:Int)=>.br (decide (E10.text=[(108:UInt8),105])) (.lf (Sum.inr (E9.text,{what:=E10.text,op:=x9,l:=x8.1,D2:=0,at_:=0,size:=2},true))) (.br (decide (E10.text=[(46:UInt8),115,112,97,99,101])) (let E15:=bT 3 3&&bJ 0 3&&decide ((0:Int)<=(0:Int)/\0<(x8.1.length:Int));.cn E15 (let E23:=x8.1.getD (dB 0) (RK.dflt RK.vmfleetref1Arg);.br (decide (E23.num<0)) (.lf (Sum.inr ([],{what:=[],op:=0,l:=[],D2:=0,at_:=0,size:=0},false))) (.cn E15 (.br (decide (E23.num>1024)) (.lf (Sum.inr ([],{what:=[],op:=0,l:=[],D2:=0,at_:=0,size:=0},false))) (.cn E15 (.lf (Sum.inr (E9.text,{what:=E10.text,op:=x9,l:=x8.1,D2:=0,at_:=0,size:=E23.num},true)))))))) (.lf (Sum.inr (E9.text,{what:=E10.text,op:=x9,l:=x8.1,D2:=0,at_:=0,size:=1},true)))))));.br (decide ((↑(dB E8-dB 1):Int)>(0:Int))) (.cn (bT 3 3&&bJ 0 3&&decide ((0:Int)<=(0:Int)/\0<(↑(dB E8-dB 1):Int))) (.br (!(x0.1.getD (dB 2+dB 1+dB 0) (RK.dflt RK.vmfleetref1Token)).gap) (.lf (Sum.inr ([],{what:=[],op:=0,l:=[],D2:=0,at_:=0,size:=0},false))) T4)) T4));.br (decide (E10.text=[(46:UInt8)])) (.br (decide (E8>=(2:Int))) (let E29:=bT 3 3&&bJ 0 3&&decide ((0:Int)<=(1:Int)/\1<E8);.cn E29 (let E11:=x0.1.getD (dB 2+dB 1) (RK.dflt RK.vmfleetref1Token);.br (!E11.gap) (.cn E29 (.cn (decide (1+dG E11.text<=maxLen)) (.cn (bT 3 3&&bJ 0 3&&decide ((0:Int)<=(2:Int)/\2<=E8/\E8<=E8)) (.an (Q5h ((46:UInt8)::E11.text)) (.lv (Qds ([(46:UInt8)]++E11.text)) λ(x2:List UInt8×Bool)=>.br (!x2.2) (.lf (Sum.inr ([],{what:=[],op:=0,l:=[],D2:=0,at_:=0,size:=0},false))) (let T5:Tree ((List UInt8×Int)⊕(((List UInt8)×Q08×Bool))):=let E27:=cW (dB E8-dB 2) (cX (dB 2+dB 2) x0.1);.an (Q5d E27 x2.1) (.lv (Qe0 E27 x2.1) λ(x3:List Q0q×Bool)=>.br (!x3.2) (.lf (Sum.inr ([],{what:=[],op:=0,l:=[],D2:=0,at_:=0,size:=0},false))) (.an (Q3 ((46:UInt8)::E11.text)) (.lv (Q7r ([(46:UInt8)]++E11.text)) λ(x4:Int)=>.br (decide ([(46:UInt8)]++E11.text=[(46:UInt8),115,112,97,99,101])) (let E18:=bT 3 3&&bJ 0 3&&decide ((0:Int)<=(0:Int)/\0<(x3.1.length:Int));.cn E18 (let E24:=x3.1.getD (dB 0) (RK.dflt RK.vmfleetref1Arg);.br (decide (E24.num<0)) (.lf (Sum.inr ([],{what:=[],op:=0,l:=[],D2:=0,at_:=0,size:=0},false))) (.cn E18 (.br (decide (E24.num>1024)) (.lf (Sum.inr ([],{what:=[],op:=0,l:=[],D2:=0,at_:=0,size:=0},false))) (.cn E18 (.lf (Sum.inr (E9.text,{what:=(46:UInt8)::E11.text,op:=x4,l:=x3.1,D2:=0,at_:=0,size:=E24.num},true)))))))) (.lf (Sum.inr (E9.text,{what:=(46:UInt8)::E11.text,op:=x4,l:=x3.1,D2:=0,at_:=0,size:=1},true))))));.br (decide ((↑(dB E8-dB 2):Int)>(0:Int))) (.cn (bT 3 3&&bJ 0 3&&decide ((0:Int)<=(0:Int)/\0<(↑(dB E8-dB 2):Int))) (.br (!(x0.1.getD (dB 2+dB 2+dB 0) (RK.dflt RK.vmfleetref1Token)).gap) (.lf (Sum.inr ([],{what:=[],op:=0,l:=[],D2:=0,at_:=0,size:=0},false))) T5)) T5)))))) T2)) T2) T2)))))))))) T3)) T3)))
def Qz8 s:=(Qbk s).m
abbrev Qgt s:=(Qbk s).p
def Z0u:LInv:={
 α:=(List UInt8)×(Int)
 F:=λst a=>([(0,.str a.1),(2,(lk st 2)),(3,.ptr 0 0 0),(4,(lk st 4)),(5,.int i64 a.2)],[⟨true,175,6,.gen [[(cT st 3 0),(cT st 3 1),(cT st 3 2),(cT st 3 3),(cT st 3 4),(cT st 3 5)]]⟩])
 a0:=λst=>((lk st 0).toStr,(lk st 5).toInt)
 ex0:=λst=>[]++[(rX st 3 0)]}
def Qvg:List (Nat×LInv):=[(2,Z0u)]
def Z6:Q09:=mT 152 [] false [.one (.str)] [] (λa r=>Qbk (argS a 0)) (λX=>.tup [.str (X.1),.agg (Q08.cells (X.2.1)),.bool (X.2.2)]) (λX=>[])
theorem Z19:Q04 pG Z6:=oT (.cons Z1z (.cons Quv (.cons Qx2 (.cons Qx (.cons Qjc (.nil)))))) Tryz.func152 Tryz.call152 [.sl (.recs .vmfleetref1Arg) false] Qvg 3 (hff:=nofun)
def Qif(l:List Q1z)(label:List UInt8)(z:(Int)):Prop:=0<=z/\z<=l.length
def Qb3(l:List Q1z)(label:List UInt8)(z:(Int)):Nat:=(l.length-z).toNat
def Qd1(l:List Q1z)(label:List UInt8):Tree (Int×Bool):=
.lp inferInstance (Qb3 l label 0+1) ((nR RK.apiSymbol 2 l/\rE (label:List UInt8)/\rE (0:Int)/\True)/\True) 0 λ(v0:Int)=>.br (decide (v0<(l.length:Int))) (let E1:=bT 2 2&&bJ 0 2&&decide (0<=v0/\v0<(l.length:Int));.cn E1 (let E2:=l.getD v0.toNat (RK.dflt RK.apiSymbol);.br (decide (E2.Name=label)) (.cn E1 (.lf (Sum.inr (E2.Addr,true)))) (.nx ((nR RK.apiSymbol 2 l/\rE (label:List UInt8)/\rE ((wrap i64 (v0+1)):Int)/\True)/\True) (Sum.inl (wrap i64 (v0+1)))))) (.lf (Sum.inr (0,false)))
def Qlu l label:=(Qd1 l label).m
def Q39(l:List Q1z)(label:List UInt8):Prop:=
l.length<=1000000000000
theorem Qvf(l:List Q1z)(label:List UInt8)(hw:Q39 l label):(Qd1 l label).p:=by
 simp only[Q39]at hw
 unfold Tree.p Qd1
 repeat'(first|refine w_lp (inv:=Qif l label) (μ:=Qb3 l label) ?_ (cL _) (λ_ _=>?_)|exact trivial|refine w_br (λ_=>?_) (λ_=>?_)|refine w_cn ?_ ?_|refine w_an ?_ ?_|refine w_lv (λ_ _=>?_)|refine w_nx ?_|refine w_lf ?_|refine And.intro ?_ ?_)
 all_goals((try simp only[Qif,Qb3]at*);exact fin0)
def Qzh:LInv:={
 α:=(Int)
 F:=λst a=>([(0,(lk st 0)),(1,(lk st 1)),(6,.int i64 a)],[])
 a0:=λst=>(lk st 6).toInt
 ex0:=λst=>[]++[]}
def Qsy:List (Nat×LInv):=[(2,Qzh)]
def Z1n:Q09:=mkP 95 [] true [.one (.recs .apiSymbol),.one (.str)] [] (λa r=>Q39 (argR .apiSymbol a 0) (argS a 1)) (λa r=>Qlu (argR .apiSymbol a 0) (argS a 1)) (λX=>.tup [.int .u32 (X.1),.bool (X.2)]) (λX=>[])
theorem Qmg:Q04 pG Z1n:=Q0i drawn Q0h (.nil) Tryz.func95 Tryz.call95 (λa r=>Qd1 (argR .apiSymbol a 0) (argS a 1)) [] Qsy 3 (hp:=λa r h=>Qvf (argR .apiSymbol a 0) (argS a 1) h)
def Qzy(src:List UInt8)(z:(Int)×(Int)×(List Q1z)×(List Q08)):Nat:=((Qt4 src).length-z.2.1).toNat
def Qg5(src:List UInt8):Tree ((List Q1z)×(List Q08)×Q13):=
.br (decide ((src.length:Int)>(8192:Int))) (.lf ([],[],{Err:=300,Line:=0})) (.an (Qi6 src) (.lv (Qt4 src) λ(x0:List (List UInt8))=>.lp inferInstance (Qzy src (0,0,[],[])+1) ((rZ/\True/\True/\rE (0:Int)/\True/\rE (0:Int)/\True)/\(rE (0:Int)/\rE (0:Int)/\True)/\rE (x0:List (RK.T RK.str))/\rE ([]:List (RK.T RK.apiSymbol))/\rE ([]:List (RK.T RK.vmfleetref1Statement))/\True) (0,0,[],[]) λ(v0:Int×Int×List Q1z×List Q08)=>.br (decide (v0.2.1<(x0.length:Int))) (.cn (bT 1 1&&bJ 0 1&&decide (0<=v0.2.1/\v0.2.1<(x0.length:Int))) (let E3:=x0.getD v0.2.1.toNat (RK.dflt RK.str);.an (Qgt E3) (.lv (Qz8 E3) λ(x1:List UInt8×Q08×Bool)=>.br (!x1.2.2) (.lf (Sum.inr ([],[],{Err:=301,Line:=wrap i64 (v0.2.1+1)}))) (let E1:=({Err:=305,Line:=wrap i64 (v0.2.1+1)}:Q13);let E2:=decide (72*(v0.2.2.2.length+1)<=140737488355328);let E4:=decide (wrap i64 (v0.1+x1.2.1.size)>1024);.br (!decide (x1.1=[])) (.an (Q39 v0.2.2.1 x1.1) (.lv (Qlu v0.2.2.1 x1.1) λ(x2:Int×Bool)=>.br x2.2 (.lf (Sum.inr ([],[],{Err:=303,Line:=wrap i64 (v0.2.1+1)}))) (.cn (decide (24*(v0.2.2.1.length+1)<=140737488355328)) (let E5:=({Name:=x1.1,Addr:=wrap u32 (wrap i64 (4*v0.1))}:Q1z);.br (!decide (x1.2.1.what=[])) (.cn E2 (.br E4 (.lf (Sum.inr ([],[],E1))) (.nx ((rZ/\True/\True/\rE ((wrap i64 (v0.1+x1.2.1.size)):Int)/\True/\rE ((wrap i64 (v0.2.1+1)):Int)/\True)/\(rE (0:Int)/\rE (0:Int)/\True)/\rE (x0:List (RK.T RK.str))/\rE ((v0.2.2.1++[{Name:=x1.1,Addr:=wrap u32 (wrap i64 (4*v0.1))}]):List (RK.T RK.apiSymbol))/\rE ((v0.2.2.2++[{what:=x1.2.1.what,op:=x1.2.1.op,l:=x1.2.1.l,D2:=wrap i64 (v0.2.1+1),at_:=v0.1,size:=x1.2.1.size}]):List (RK.T RK.vmfleetref1Statement))/\True) (Sum.inl (wrap i64 (v0.1+x1.2.1.size),wrap i64 (v0.2.1+1),v0.2.2.1++[E5],v0.2.2.2++[{what:=x1.2.1.what,op:=x1.2.1.op,l:=x1.2.1.l,D2:=wrap i64 (v0.2.1+1),at_:=v0.1,size:=x1.2.1.size}]))))) (.br (decide (v0.1>1024)) (.lf (Sum.inr ([],[],E1))) (.nx ((rZ/\True/\True/\rE v0.1/\True/\rE ((wrap i64 (v0.2.1+1)):Int)/\True)/\(rE (0:Int)/\rE (0:Int)/\True)/\rE (x0:List (RK.T RK.str))/\rE ((v0.2.2.1++[{Name:=x1.1,Addr:=wrap u32 (wrap i64 (4*v0.1))}]):List (RK.T RK.apiSymbol))/\rE v0.2.2.2/\True) (Sum.inl (v0.1,wrap i64 (v0.2.1+1),v0.2.2.1++[E5],v0.2.2.2)))))))) (.br (!decide (x1.2.1.what=[])) (.cn E2 (.br E4 (.lf (Sum.inr ([],[],E1))) (.nx ((rZ/\True/\True/\rE ((wrap i64 (v0.1+x1.2.1.size)):Int)/\True/\rE ((wrap i64 (v0.2.1+1)):Int)/\True)/\(rE (0:Int)/\rE (0:Int)/\True)/\rE (x0:List (RK.T RK.str))/\rE v0.2.2.1/\rE ((v0.2.2.2++[{what:=x1.2.1.what,op:=x1.2.1.op,l:=x1.2.1.l,D2:=wrap i64 (v0.2.1+1),at_:=v0.1,size:=x1.2.1.size}]):List (RK.T RK.vmfleetref1Statement))/\True) (Sum.inl (wrap i64 (v0.1+x1.2.1.size),wrap i64 (v0.2.1+1),v0.2.2.1,v0.2.2.2++[{what:=x1.2.1.what,op:=x1.2.1.op,l:=x1.2.1.l,D2:=wrap i64 (v0.2.1+1),at_:=v0.1,size:=x1.2.1.size}]))))) (.br (decide (v0.1>1024)) (.lf (Sum.inr ([],[],E1))) (.nx ((rZ/\True/\True/\rE v0.1/\True/\rE ((wrap i64 (v0.2.1+1)):Int)/\True)/\(rE (0:Int)/\rE (0:Int)/\True)/\rE (x0:List (RK.T RK.str))/\rE v0.2.2.1/\rE v0.2.2.2/\True) (Sum.inl (v0.1,wrap i64 (v0.2.1+1),v0.2.2.1,v0.2.2.2))))))))) (.lf (Sum.inr (v0.2.2.1,v0.2.2.2,{Err:=0,Line:=0})))))
def Qyt src:=(Qg5 src).m
abbrev Qji src:=(Qg5 src).p
def Z82:LInv:={
 α:=(Int)×(Int)×(List Q1z)×(List Q08)
 F:=λst a=>([(4,.ptr 0 0 0),(5,.all 2),(6,.all 3),(7,.int i64 a.1),(8,.all 1),(9,.int i64 a.2.1)],[⟨true,112,2,.gen [[(cT st 4 0),(cT st 4 1)]]⟩,⟨false,9,1,esOf st.rows (rN st 8)⟩,⟨false,238,2,.recs RK.apiSymbol a.2.2.1⟩,⟨false,175,6,.recs RK.vmfleetref1Statement a.2.2.2⟩])
 a0:=λst=>((lk st 7).toInt,(lk st 9).toInt,(Qkt RK.apiSymbol st.rows (rN st 5)),(Qkt RK.vmfleetref1Statement st.rows (rN st 6)))
 ex0:=λst=>[]++[(rX st 4 0),(rX st 8 1),(rX st 5 2),(rX st 6 3)]}
def Z15:List (Nat×LInv):=[(8,Z82)]
def Zcq:Q09:=mT 94 [] false [.one (.str)] [] (λa r=>Qg5 (argS a 0)) (λX=>.tup [.all 0,.all 1,.agg (Q13.cells (X.2.2))]) (λX=>[⟨false,238,2,.recs .apiSymbol (X.1)⟩,⟨false,175,6,.recs .vmfleetref1Statement (X.2.1)⟩])
theorem Z89:Q04 pG Zcq:=oT (.cons Z78 (.cons Z19 (.cons Qmg (.nil)))) Tryz.func94 Tryz.call94 [.row 238 2 (.recs .apiSymbol),.row 175 6 (.recs .vmfleetref1Statement)] Z15 3 (hff:=nofun)
def Qgy(st:Q08)(v:Int):Tree (Int×Bool):=
.lv (Q2d st.op) λ(x0:Int)=>.lv (Qk0 x0) λ(x1:Int×Int)=>let E7:=st.l.getD (dB 0) (RK.dflt RK.vmfleetref1Arg);let E8:=st.l.getD (dB 1) (RK.dflt RK.vmfleetref1Arg);let E9:=bT 3 3&&bJ 0 3&&decide ((0:Int)<=(0:Int)/\0<(st.l.length:Int));let E10:=bT 3 3&&bJ 0 3&&decide ((0:Int)<=(1:Int)/\1<(st.l.length:Int));let E11:=st.l.getD (dB 2) (RK.dflt RK.vmfleetref1Arg);let E12:=bT 3 3&&bJ 0 3&&decide ((0:Int)<=(2:Int)/\2<(st.l.length:Int));.br (x0==2) (.cn E9 (.cn E10 (.cn E12 (let T2:Tree ((Int×Bool)):=.br (decide (0<x1.1)) (.lf (0,false)) (.br (decide (0>x1.2)) (.lf (0,false)) (.lv (Q19 {Op:=st.op,A:=E7.reg,B:=E8.reg,C:=E11.reg,Imm:=wrap i32 0}) λ(x2:Int×Bool)=>.lf (x2.1,x2.2)));.br (x0==2) T2 (.br (x0==1) T2 (.br (decide (v<x1.1)) (.lf (0,false)) (.br (decide (v>x1.2)) (.lf (0,false)) (.lv (Q19 {Op:=st.op,A:=E7.reg,B:=E8.reg,C:=E11.reg,Imm:=wrap i32 v}) λ(x4:Int×Bool)=>.lf (x4.1,x4.2))))))))) (let T1:Tree ((Int×Bool)):=.br (decide (x0>=6)) (.cn E9 (let T5:Tree ((Int×Bool)):=.br (decide (0<x1.1)) (.lf (0,false)) (.br (decide (0>x1.2)) (.lf (0,false)) (.lv (Q19 {Op:=st.op,A:=E7.reg,B:=0,C:=0,Imm:=wrap i32 0}) λ(x8:Int×Bool)=>.lf (x8.1,x8.2)));.br (x0==2) T5 (.br (x0==1) T5 (.br (decide (v<x1.1)) (.lf (0,false)) (.br (decide (v>x1.2)) (.lf (0,false)) (.lv (Q19 {Op:=st.op,A:=E7.reg,B:=0,C:=0,Imm:=wrap i32 v}) λ(x10:Int×Bool)=>.lf (x10.1,x10.2))))))) (.br (x0 !=1) (.cn E9 (.cn E10 (let T3:Tree ((Int×Bool)):=.br (decide (0<x1.1)) (.lf (0,false)) (.br (decide (0>x1.2)) (.lf (0,false)) (.lv (Q19 {Op:=st.op,A:=E7.reg,B:=E8.reg,C:=0,Imm:=wrap i32 0}) λ(x11:Int×Bool)=>.lf (x11.1,x11.2)));.br (x0==2) T3 (.br (x0==1) T3 (.br (decide (v<x1.1)) (.lf (0,false)) (.br (decide (v>x1.2)) (.lf (0,false)) (.lv (Q19 {Op:=st.op,A:=E7.reg,B:=E8.reg,C:=0,Imm:=wrap i32 v}) λ(x13:Int×Bool)=>.lf (x13.1,x13.2)))))))) (let T6:Tree ((Int×Bool)):=.br (decide (0<x1.1)) (.lf (0,false)) (.br (decide (0>x1.2)) (.lf (0,false)) (.lv (Q19 {Op:=st.op,A:=0,B:=0,C:=0,Imm:=wrap i32 0}) λ(x14:Int×Bool)=>.lf (x14.1,x14.2)));.br (x0==2) T6 (.br (x0==1) T6 (.br (decide (v<x1.1)) (.lf (0,false)) (.br (decide (v>x1.2)) (.lf (0,false)) (.lv (Q19 {Op:=st.op,A:=0,B:=0,C:=0,Imm:=wrap i32 v}) λ(x16:Int×Bool)=>.lf (x16.1,x16.2)))))));.br (decide (st.op>=32)) (.br (decide (st.op<=36)) (.cn E9 (.cn E12 (.cn E10 (let T4:Tree ((Int×Bool)):=.br (decide (0<x1.1)) (.lf (0,false)) (.br (decide (0>x1.2)) (.lf (0,false)) (.lv (Q19 {Op:=st.op,A:=E7.reg,B:=E11.reg,C:=0,Imm:=wrap i32 0}) λ(x5:Int×Bool)=>.lf (x5.1,x5.2)));.br (x0==2) T4 (.br (x0==1) T4 (.br (decide (E8.num<x1.1)) (.lf (0,false)) (.br (decide (E8.num>x1.2)) (.lf (0,false)) (.lv (Q19 {Op:=st.op,A:=E7.reg,B:=E11.reg,C:=0,Imm:=wrap i32 E8.num}) λ(x7:Int×Bool)=>.lf (x7.1,x7.2))))))))) T1) T1)
def Qmu st v:=(Qgy st v).m
abbrev Q95 st v:=(Qgy st v).p
def Zdn:Q09:=mT 97 [] true [.agg Q08.sig,.one (.int .i64)] [] (λa r=>Qgy (Q08.of (aC a 0)) (argI a 1)) (λX=>.tup [.int .u32 (X.1),.bool (X.2)]) (λX=>[])
theorem Zbc:Q04 pG Zdn:=oT (.cons Qdp (.cons Qo6 (.cons Qib (.nil)))) Tryz.func97 Tryz.call97 [] [] 2

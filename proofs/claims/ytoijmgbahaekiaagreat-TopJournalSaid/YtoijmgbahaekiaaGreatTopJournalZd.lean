import Derived.Test.YtoijmgbahaekiaaGreatTopJournalYz
open UInt8 renaming toNat->iC,ofNat->dC
open List renaming take->dU,drop->dV,length->dR,getD->aK
open Int renaming toNat->dM,tdiv->iA
open Nat renaming lt_succ_self->dQ,beq->bV,blt->bK
set_option maxRecDepth 100000
set_option linter.all false
namespace Go.Proofs.YtoijmgbahaekiaaGreat
open Go Go.GD Go.IntKind
noncomputable section
instance sumInhZd {α β:Type} [Inhabited β]:Inhabited (α⊕β):=⟨.inr default⟩
def Qt(src:List UInt8)(z:(Int)×(Int)×(List (List UInt8))):Nat:=(src.length-z.2.1).toNat
def Qc0(src:List UInt8):Tree (List (List UInt8)):=
.lp inferInstance (Qt src (0,0,[])+1) ((rE (src:List UInt8)/\True/\rE (0:Int)/\rE (0:Int)/\True)/\rE ([]:List (RK.T RK.str))/\True) (0,0,[]) λ(v0:Int×Int×List (List UInt8))=>let E1:=decide (16*(v0.2.2.length+1)<=140737488355328);.br (decide (v0.2.1<(src.length:Int))) (.cn (decide (0<=v0.2.1/\v0.2.1<(src.length:Int))) (.br ((↑(iC (src.getD v0.2.1.toNat (0:UInt8))):Int)==(10:Int)) (.cn (decide (0<=v0.1/\v0.1<=v0.2.1/\v0.2.1<=(src.length:Int))) (.cn E1 (.nx ((rE (src:List UInt8)/\True/\rE ((wrap i64 (v0.2.1+1)):Int)/\rE ((wrap i64 (v0.2.1+1)):Int)/\True)/\rE ((v0.2.2++[dU (dM v0.2.1-dM v0.1) (dV v0.1.toNat src)]):List (RK.T RK.str))/\True) (Sum.inl (wrap i64 (v0.2.1+1),wrap i64 (v0.2.1+1),v0.2.2++[dU (dM v0.2.1-dM v0.1) (dV v0.1.toNat src)]))))) (.nx ((rE (src:List UInt8)/\True/\rE v0.1/\rE ((wrap i64 (v0.2.1+1)):Int)/\True)/\rE v0.2.2/\True) (Sum.inl (v0.1,wrap i64 (v0.2.1+1),v0.2.2))))) (.br (decide (v0.1<(src.length:Int))) (.cn (decide (0<=v0.1/\v0.1<=(src.length:Int)/\(src.length:Int)<=(src.length:Int))) (.cn E1 (.lf (Sum.inr (v0.2.2++[dU (dM (src.length:Int)-dM v0.1) (dV v0.1.toNat src)]))))) (.lf (Sum.inr v0.2.2)))
def Qps src:=(Qc0 src).m
abbrev Qg src:=(Qc0 src).p
def Z3e:LInv:={
 α:=(Int)×(Int)×(List (List UInt8))
 F:=λst a=>([(0,(lk st 0)),(3,.all 0),(4,.int i64 a.1),(5,.int i64 a.2.1)],[⟨false,9,1,.recs RK.str a.2.2⟩])
 a0:=λst=>((lk st 4).toInt,(lk st 5).toInt,(Q55 RK.str st.rows (rN st 3)))
 ex0:=λst=>[]++[(rX st 3 0)]}
def Qxc:List (Nat×LInv):=[(4,Z3e)]
def Z6l:Q09:=mT 259 [] true [.one (.str)] [] (λa r=>Qc0 (argS a 0)) (λX=>.all 0) (λX=>[⟨false,9,1,.recs .str X⟩])
theorem Z19:Q05 pG Z6l:=oT (.nil) Tryz.func259 Tryz.call259 [.row 9 1 (.recs .str)] Qxc 3
def Qnb(c:Int):Tree Bool:=
.br (decide (c>=97)) (.lf (decide (c<=122))) (.lf false)
def Qeg c:=(Qnb c).m
def Z3c:Q09:=mS 391 [] true [.one (.int .u8)] [] (λa r=>Qnb (argI a 0)) (λX=>.bool X) (λX=>[])
theorem Qlq:Q05 pG Z3c:=oS (.nil) Tryz.func391 Tryz.call391 [] [] 2
def Qrz(c:Int):Tree Bool:=
.br (decide (c>=48)) (.lf (decide (c<=57))) (.lf false)
def Qbj c:=(Qrz c).m
def Z64:Q09:=mS 392 [] true [.one (.int .u8)] [] (λa r=>Qrz (argI a 0)) (λX=>.bool X) (λX=>[])
theorem Qnt:Q05 pG Z64:=oS (.nil) Tryz.func392 Tryz.call392 [] [] 2
def Qpe(s:List UInt8)(z:(Bool)×(Int)×(List Q0c)):Nat:=(s.length-z.2.1).toNat
def Qoz(s:List UInt8)(v0:Bool×Int×List Q0c)(z:(Int)):Nat:=(s.length-z).toNat
def Qpl(s:List UInt8)(v0:Bool×Int×List Q0c)(z:(Int)):Nat:=(s.length-z).toNat
def Qau(s:List UInt8):Tree ((List Q0c)×Bool):=
.lp inferInstance (Qpe s (true,0,[])+1) ((rE (s:List UInt8)/\True/\rE (true:Bool)/\rE (0:Int)/\True)/\rE ([]:List (RK.T RK.vmfleetref1Token))/\True) (true,0,[]) λ(v0:Bool×Int×List Q0c)=>.br (decide (v0.2.1<(s.length:Int))) (.cn (decide (0<=v0.2.1/\v0.2.1<(s.length:Int))) (let E7:=(↑(iC (s.getD v0.2.1.toNat (0:UInt8))):Int);.br (E7==(32:Int)) (.nx ((rE (s:List UInt8)/\True/\rE (true:Bool)/\rE ((wrap i64 (v0.2.1+1)):Int)/\True)/\rE v0.2.2/\True) (Sum.inl (true,wrap i64 (v0.2.1+1),v0.2.2))) (.lv (Qeg E7) λ(x0:Bool)=>let E10:=decide (32*(v0.2.2.length+1)<=140737488355328);let E13:=dV v0.2.1.toNat s;.br x0 (.lp inferInstance (Qoz s v0 v0.2.1+1) ((rE (s:List UInt8)/\True/\rE v0.1/\rE v0.2.1/\rE v0.2.1/\True)/\rE v0.2.2/\True) v0.2.1 λ(v1:Int)=>let T3:Tree ((Int)⊕((Bool×Int×List Q0c)⊕(((List Q0c)×Bool)))):=.cn (decide (0<=v0.2.1/\v0.2.1<=v1/\v1<=(s.length:Int))) (.cn E10 (.nx ((rE (s:List UInt8)/\True/\rE (false:Bool)/\rE (v1:Int)/\True)/\rE ((v0.2.2++[{kind:=1,C9:=dU (dM v1-dM v0.2.1) (dV v0.2.1.toNat s),gap:=v0.1}]):List (RK.T RK.vmfleetref1Token))/\True) (Sum.inr (Sum.inl (false,v1,v0.2.2++[{kind:=1,C9:=dU (dM v1-dM v0.2.1) E13,gap:=v0.1}])))));.br (decide (v1<(s.length:Int))) (let E11:=decide (0<=v1/\v1<(s.length:Int));.cn E11 (let E8:=(↑(iC (s.getD v1.toNat (0:UInt8))):Int);.lv (Qeg E8) λ(x1:Bool)=>let T5:Tree ((Int)⊕((Bool×Int×List Q0c)⊕(((List Q0c)×Bool)))):=.nx ((rE (s:List UInt8)/\True/\rE v0.1/\rE ((wrap i64 (v1+1)):Int)/\rE v0.2.1/\True)/\rE v0.2.2/\True) (Sum.inl (wrap i64 (v1+1)));.br x1 T5 (.cn E11 (.lv (Qbj E8) λ(x2:Bool)=>.br x2 T5 (.cn E11 (.br (E8==(95:Int)) T5 T3)))))) T3) (.lv (Qbj E7) λ(x3:Bool)=>let T2:Tree ((Bool×Int×List Q0c)⊕(((List Q0c)×Bool))):=.lp inferInstance (Qpl s v0 (wrap i64 (v0.2.1+1))+1) ((rE (s:List UInt8)/\True/\rE v0.1/\rE ((wrap i64 (v0.2.1+1)):Int)/\rE v0.2.1/\True)/\rE v0.2.2/\True) (wrap i64 (v0.2.1+1)) λ(v1:Int)=>let T4:Tree ((Int)⊕((Bool×Int×List Q0c)⊕(((List Q0c)×Bool)))):=.cn (decide (0<=v0.2.1/\v0.2.1<=v1/\v1<=(s.length:Int))) (.cn E10 (.nx ((rE (s:List UInt8)/\True/\rE (false:Bool)/\rE (v1:Int)/\True)/\rE ((v0.2.2++[{kind:=2,C9:=dU (dM v1-dM v0.2.1) (dV v0.2.1.toNat s),gap:=v0.1}]):List (RK.T RK.vmfleetref1Token))/\True) (Sum.inr (Sum.inl (false,v1,v0.2.2++[{kind:=2,C9:=dU (dM v1-dM v0.2.1) E13,gap:=v0.1}])))));.br (decide (v1<(s.length:Int))) (let E12:=decide (0<=v1/\v1<(s.length:Int));.cn E12 (let E9:=(↑(iC (s.getD v1.toNat (0:UInt8))):Int);.lv (Qeg E9) λ(x4:Bool)=>let T6:Tree ((Int)⊕((Bool×Int×List Q0c)⊕(((List Q0c)×Bool)))):=.nx ((rE (s:List UInt8)/\True/\rE v0.1/\rE ((wrap i64 (v1+1)):Int)/\rE v0.2.1/\True)/\rE v0.2.2/\True) (Sum.inl (wrap i64 (v1+1)));.br x4 T6 (.cn E12 (.lv (Qbj E9) λ(x5:Bool)=>.br x5 T6 (.cn E12 (.br (E9==(95:Int)) T6 T4)))))) T4;.br x3 T2 (.br (E7==(45:Int)) T2 (let T1:Tree ((Bool×Int×List Q0c)⊕(((List Q0c)×Bool))):=.cn (decide (0<=v0.2.1/\v0.2.1<=wrap i64 (v0.2.1+1)/\wrap i64 (v0.2.1+1)<=(s.length:Int))) (.cn E10 (.nx ((rE (s:List UInt8)/\True/\rE (false:Bool)/\rE ((wrap i64 (v0.2.1+1)):Int)/\True)/\rE ((v0.2.2++[{kind:=3,C9:=dU (dM (wrap i64 (v0.2.1+1))-dM v0.2.1) (dV v0.2.1.toNat s),gap:=v0.1}]):List (RK.T RK.vmfleetref1Token))/\True) (Sum.inl (false,wrap i64 (v0.2.1+1),v0.2.2++[{kind:=3,C9:=dU (dM (wrap i64 (v0.2.1+1))-dM v0.2.1) E13,gap:=v0.1}]))));.br (E7==(44:Int)) T1 (.br (E7==(58:Int)) T1 (.br (E7==(40:Int)) T1 (.br (E7==(41:Int)) T1 (.br (E7==(46:Int)) T1 (.lf (Sum.inr ([],false))))))))))))) (.lf (Sum.inr (v0.2.2,true)))
def Qwl s:=(Qau s).m
abbrev Qea s:=(Qau s).p
def Qxw:LInv:={
 α:=(Bool)×(Int)×(List Q0c)
 F:=λst a=>([(0,(lk st 0)),(4,.all 0),(5,.bool a.1),(6,.int i64 a.2.1)],[⟨false,457,3,.recs RK.vmfleetref1Token a.2.2⟩])
 a0:=λst=>((lk st 5).toBool,(lk st 6).toInt,(Q55 RK.vmfleetref1Token st.rows (rN st 4)))
 ex0:=λst=>[]++[(rX st 4 0)]}
def Qye:LInv:={
 α:=(Int)
 F:=λst a=>([(0,(lk st 0)),(4,.all 0),(5,(lk st 5)),(6,.int i64 a),(8,(lk st 8))],[⟨false,457,3,esOf st.rows (rN st 4)⟩])
 a0:=λst=>(lk st 6).toInt
 ex0:=λst=>[]++[(rX st 4 0)]}
def Qys:LInv:={
 α:=(Int)
 F:=λst a=>([(0,(lk st 0)),(4,.all 0),(5,(lk st 5)),(6,.int i64 a),(8,(lk st 8))],[⟨false,457,3,esOf st.rows (rN st 4)⟩])
 a0:=λst=>(lk st 6).toInt
 ex0:=λst=>[]++[(rX st 4 0)]}
def Qss:List (Nat×LInv):=[(4,Qxw),(12,Qye),(17,Qys)]
def Z30:Q09:=mT 339 [] true [.one (.str)] [] (λa r=>Qau (argS a 0)) (λX=>.tup [.all 0,.bool (X.2)]) (λX=>[⟨false,457,3,.recs .vmfleetref1Token (X.1)⟩])
theorem Qxt:Q05 pG Z30:=oT (.cons Qlq (.cons Qnt (.nil))) Tryz.func339 Tryz.call339 [.row 457 3 (.recs .vmfleetref1Token)] Qss 3
 def digT (p:Int->Prop) (r:Int->List UInt8) (n:Int):Tree (List UInt8):=
 .br (decide (n<(10:Int))) (.lf ([(λ(n:Int)=>dC n.toNat) (wrap u8 (wrap u64 ((48:Int)+n)))])) (.an (p (wrap u64 (iA n (10:Int)))) (.lv (r (wrap u64 (iA n (10:Int)))) λ(x0:List UInt8)=>.cn (decide (x0.length+dR [(λ(n:Int)=>dC n.toNat) (wrap u8 (wrap u64 ((48:Int)+Int.tmod n (10:Int))))]<=maxLen)) (.lf (x0++[(λ(n:Int)=>dC n.toNat) (wrap u8 (wrap u64 ((48:Int)+Int.tmod n (10:Int))))]))))
 def digF:Nat->Int->List UInt8
  |0,_=>[]
  |k+1,n=>(digT (λ_=>True) (digF k) n).m
 def digP (k:Nat) (n:Int):Prop:=0<=n/\n<10^k/\n<18446744073709551616/\0<k/\k<=30
 def digM (k:Nat):Q09:=mkP 412 [] true [.one (.int .u64)] [] (λargs rows=>digP k (argI args 0)) (λargs rows=>digF k (argI args 0)) (λX=>.str X) (λX=>[])
 theorem digF_len:∀k n,(digF k n).length<=k
  |0,_=>Nat.le_refl _
  |k+1,n=>by
   show(bif decide (n<10)then _ else letv (digF k _) λx0=>x0++_).length<=k+1
   have:=digF_len k (wrap u64 (iA n 10))
   cases decide (n<10)
   ·simp[letv,Tree.m];omega
   ·simp[Tree.m]
 theorem digM_ok:∀k,Q05 pG (digM k)
  |0=>Qxh Tryz.call412 (λargs rows h=>absurd h.2.2.2.1 (Nat.lt_irrefl 0)) (λ_ X=>by kernel_rfl)
  |k + 1=>by
   refine Q0o drawn Q0k (.cons (digM_ok k) .nil) Tryz.func412 Tryz.call412 (λargs rows=>digT (digP k) (digF k) (argI args 0)) [] [] 2 (λ_ _ _=>by kernel_rfl) (λ_ _=>rfl) (λargs rows h=>?_) (λ_ X=>by kernel_rfl)
   obtain⟨h0,h1,h2,h3,h4⟩:=h
   generalize argI args 0=n at*
   refine w_br (λ_=>trivial) (λhn=>?_)
   have hn:=oN hn
   have e:wrap u64 (iA n 10)=n/10:=by rw[wrap_u64,Int.tdiv_eq_ediv_of_nonneg h0];omega
   refine w_an (show digP k _ from ?_) (w_lv λx hx=>w_cn (dY ?_) trivial)
   ·rw[e]
    rw[Int.pow_succ]at h1
    have hk:0<k:=by
     rcases Nat.eq_zero_or_pos k with rfl|h
     ·simp at h1;omega
     ·exact h
    exact⟨by omega,by omega,by omega,hk,by omega⟩
   ·have:=digF_len k (wrap u64 (iA n 10))
    rw[<-hx]at this
    simp[maxLen];omega
def Qb0(n:Int):(List UInt8):=
digF 20 n
def Q2l(n:Int):Prop:=
0<=n/\n<18446744073709551616
def Qij(n:Int):List D:=[.int .u64 n]
def Qi8(n:Int):List Row:=[]
def Qdq(X:List UInt8):D:=.str X
def Qe6(X:List UInt8):List Row:=[]
def Qjd:List PT:=[.one (.int .u64)]
def Qih:List RT:=[]
def Qur(args:List D)(rows:List Row):(List UInt8):=Qb0 (argI args 0)
def Qwa(args:List D)(rows:List Row):Prop:=Q2l (argI args 0)
def Z39:Q09:=mkP 412 [] true Qjd Qih Qwa Qur Qdq Qe6
theorem Qqy(n:Int)(hw:Q2l n):Q2f pG 412 (Qij n) (Qi8 n) (Qdq (Qb0 n)) (Qe6 (Qb0 n)):=by
 have h20:(18446744073709551616:Int)<=10^20:=by decide
 exact xr (args:=[.int .u64 n]) (rows:=[]) (digM_ok 20) (by kernel_rfl) ⟨hw.1,Int.lt_of_lt_of_le hw.2 h20,hw.2,by decide,by decide⟩
set_option maxRecDepth 100000 in
theorem Qsq(args:List D)(rows:List Row):Qc8 Qjd args 0=Qij (argI args 0):=by kernel_rfl
set_option maxRecDepth 100000 in
theorem Qq8(args:List D)(rows:List Row):Q4d Qih rows 0=Qi8 (argI args 0):=by kernel_rfl
set_option maxRecDepth 100000 in
theorem Qy(X:List UInt8):(ffB (Qdq X)&&ffBR (Qe6 X))=true:=by kernel_rfl
theorem Qy2:Q05 pG Z39:=Qxh Tryz.call412 (λargs rows hp=>by rw[Qsq args rows,Qq8 args rows];exact Qqy (argI args 0) hp) (λ_ X=>Qy X)
def Q4z(n:Int):Tree (List UInt8):=
.br (decide (n<0)) (let E1:=wrap u64 (wrap u64 (wrap i64 (0-wrap i64 (n+1)))+1);.an (Q2l E1) (.lv (Qb0 E1) λ(x0:List UInt8)=>.cn (decide (1+x0.length<=maxLen)) (.lf ((45:UInt8)::x0)))) (.an (Q2l (wrap u64 n)) (.lv (Qb0 (wrap u64 n)) λ(x1:List UInt8)=>.lf x1))
def Qjh n:=(Q4z n).m
abbrev Qcl n:=(Q4z n).p
def Qy3:Q09:=mT 411 [] true [.one (.int .i64)] [] (λa r=>Q4z (argI a 0)) (λX=>.str X) (λX=>[])
theorem Qw9:Q05 pG Qy3:=oT (.cons Qy2 (.nil)) Tryz.func411 Tryz.call411 [] [] 2
def Qb4(r:Int):Tree (List UInt8):=
.an (Qcl r) (.lv (Qjh r) λ(x0:List UInt8)=>.cn (decide (1+x0.length<=maxLen)) (.lf ((114:UInt8)::x0)))
def Z9i r:=(Qb4 r).m
abbrev Qis r:=(Qb4 r).p
def Zbb:Q09:=mT 408 [] true [.one (.int .i64)] [] (λa r=>Qb4 (argI a 0)) (λX=>.str X) (λX=>[])
theorem Z7e:Q05 pG Zbb:=oT (.cons Qw9 (.nil)) Tryz.func408 Tryz.call408 [] [] 2
def Ql1(s:List UInt8)(z:(Int)):Prop:=0<=z/\z<=16
def Qc1(s:List UInt8)(z:(Int)):Nat:=(16-z).toNat
def Q8c(s:List UInt8):Tree (Int×Bool):=
.lp inferInstance (Qc1 s 0+1) ((rE (s:List UInt8)/\rE (0:Int)/\True)/\True) 0 λ(v0:Int)=>.br (decide (v0<16)) (.an (Qis v0) (.lv (Z9i v0) λ(x0:List UInt8)=>.br (decide (s=x0)) (.lf (Sum.inr (v0,true))) (.nx ((rE (s:List UInt8)/\rE ((wrap i64 (v0+1)):Int)/\True)/\True) (Sum.inl (wrap i64 (v0+1)))))) (.lf (Sum.inr (0,false)))
def Qei s:=(Q8c s).m
theorem Qm9(s:List UInt8):(Q8c s).p:=by
 unfold Tree.p Q8c
 have dp:∀x,Q2l (wrap .u64 x):=λx=>by unfold Q2l;rw[wrap_u64];omega
 have dl:∀x,(Qb0 x).length<=20:=λx=>digF_len 20 x
 have hd:∀x,(Q4z x).w (λr=>r.length<=21):=λx=>by
  unfold Q4z
  refine w_br (λ_=>w_an (dp _) (w_lv λx0 h0=>w_cn (dY ?_) ?_)) (λ_=>w_an (dp _) (w_lv λx1 h1=>?_))
  ·have:=dl (wrap .u64 (wrap .u64 (wrap .i64 (0-wrap .i64 (x+1)))+1));rw[<-h0]at this;simp[maxLen];omega
  ·have:=dl (wrap .u64 (wrap .u64 (wrap .i64 (0-wrap .i64 (x+1)))+1));rw[<-h0]at this;show(_::x0).length<=21;simp;omega
  ·rw[h1];exact Nat.le_trans (dl _) (by decide)
 have hr:∀x,(Qb4 x).p:=λx=>by
  unfold Tree.p Qb4
  refine w_an (Tree.pp (hd x)).1 (w_lv λx0 h0=>w_cn (dY ?_) trivial)
  have:(Qjh x).length<=21:=(Tree.pp (hd x)).2
  rw[<-h0]at this;simp[maxLen];omega
 refine w_lp (inv:=Ql1 s) (μ:=Qc1 s) ⟨by decide,by decide⟩ (dQ _) (λz hz=>?_)
 obtain⟨z1,z2⟩:=hz
 refine w_br (λhb=>w_an (hr _) (w_lv λx0 _=>w_br (λ_=>trivial) (λ_=>w_nx ?_))) (λ_=>trivial)
 have hb:=oY hb
 show(0<=i64.wrap (z+1)/\i64.wrap (z+1)<=16)/\(16-i64.wrap (z+1)).toNat<(16-z).toNat
 rw[wrap_i64];omega
def Qnh:LInv:={
 α:=(Int)
 F:=λst a=>([(0,(lk st 0)),(4,.int i64 a)],[])
 a0:=λst=>(lk st 4).toInt
 ex0:=λst=>[]++[]}
def Qku:List (Nat×LInv):=[(2,Qnh)]
def Qp4:Q09:=mS 393 [] true [.one (.str)] [] (λa r=>Q8c (argS a 0)) (λX=>.tup [.int .i64 (X.1),.bool (X.2)]) (λX=>[])
theorem Qfp:Q05 pG Qp4:=oS (.cons Z7e (.nil)) Tryz.func393 Tryz.call393 [] Qku 3 (λ_ _ _=>by kernel_rfl) (λa r=>Qm9 (argS a 0)) (λ_ X=>by kernel_rfl)
def Qdx(s:List UInt8):Tree Bool:=
.lv (Qei s) λ(x0:Int×Bool)=>.br (decide ((s.length:Int)>=(1:Int))) (.br (decide ((s.length:Int)<=(12:Int))) (.cn (decide ((0:Int)<=(0:Int)/\0<(s.length:Int))) (.lv (Qeg (↑(iC (s.getD (dM 0) (0:UInt8))):Int)) λ(x1:Bool)=>.br x1 (.lf (!x0.2)) (.lf false))) (.lf false)) (.lf false)
def Qv6 s:=(Qdx s).m
abbrev Qdg s:=(Qdx s).p
def Z7c:Q09:=mT 340 [] true [.one (.str)] [] (λa r=>Qdx (argS a 0)) (λX=>.bool X) (λX=>[])
theorem Qr8:Q05 pG Z7c:=oT (.cons Qfp (.cons Qlq (.nil))) Tryz.func340 Tryz.call340 [] [] 2
def Q7v(op:Int):Tree (List UInt8):=
let T1:Tree ((List UInt8)):=let T3:Tree ((List UInt8)):=.br (op==48) (.lf ([(106:UInt8),97,108])) (.br (op==49) (.lf ([(106:UInt8),97,108,114])) (.br (decide (op>=56)) (.br (decide (op<=64)) (.cn (bV 1 1&&bK 0 1&&decide (0<=wrap i64 (op-56)/\wrap i64 (op-56)<(↑9:Int))) (.lf (aK [[(101:UInt8),99,97,108,108],[(101:UInt8),114,101,116],[(99:UInt8),115,114,114],[(99:UInt8),115,114,119],[(105:UInt8),110],[(111:UInt8),117,116],[(119:UInt8),102,105],[(102:UInt8),108,117,115,104],[(104:UInt8),97,108,116]] (dM (wrap i64 (op-56))) (RK.dflt RK.str)))) (.lf ([]))) (.lf ([]))));.br (decide (op>=40)) (.br (decide (op<=45)) (.cn (bV 1 1&&bK 0 1&&decide (0<=wrap i64 (op-40)/\wrap i64 (op-40)<(↑6:Int))) (.lf (aK [[(98:UInt8),101,113],[(98:UInt8),110,101],[(98:UInt8),108,116],[(98:UInt8),103,101],[(98:UInt8),108,116,117],[(98:UInt8),103,101,117]] (dM (wrap i64 (op-40))) (RK.dflt RK.str)))) T3) T3;let T2:Tree ((List UInt8)):=let T4:Tree ((List UInt8)):=.br (decide (op>=32)) (.br (decide (op<=36)) (.cn (bV 1 1&&bK 0 1&&decide (0<=wrap i64 (op-32)/\wrap i64 (op-32)<(↑5:Int))) (.lf (aK [[(108:UInt8),119],[(108:UInt8),98],[(108:UInt8),98,117],[(115:UInt8),119],[(115:UInt8),98]] (dM (wrap i64 (op-32))) (RK.dflt RK.str)))) T1) T1;.br (decide (op>=16)) (.br (decide (op<=24)) (.cn (bV 1 1&&bK 0 1&&decide (0<=wrap i64 (op-16)/\wrap i64 (op-16)<(↑9:Int))) (.lf (aK [[(97:UInt8),100,100,105],[(97:UInt8),110,100,105],[(111:UInt8),114,105],[(120:UInt8),111,114,105],[(115:UInt8),104,108,105],[(115:UInt8),104,114,105],[(115:UInt8),97,114,105],[(115:UInt8),108,116,105],[(108:UInt8),117,105]] (dM (wrap i64 (op-16))) (RK.dflt RK.str)))) T4) T4;.br (decide (op>=1)) (.br (decide (op<=13)) (.cn (bV 1 1&&bK 0 1&&decide (0<=wrap i64 (op-1)/\wrap i64 (op-1)<(↑13:Int))) (.lf (aK [[(97:UInt8),100,100],[(115:UInt8),117,98],[(97:UInt8),110,100],[(111:UInt8),114],[(120:UInt8),111,114],[(115:UInt8),104,108],[(115:UInt8),104,114],[(115:UInt8),97,114],[(109:UInt8),117,108],[(100:UInt8),105,118],[(114:UInt8),101,109],[(115:UInt8),108,116],[(115:UInt8),108,116,117]] (dM (wrap i64 (op-1))) (RK.dflt RK.str)))) T2) T2
def Qng op:=(Q7v op).m
abbrev Qbi op:=(Q7v op).p
def Qwm:Q09:=mT 395 [] true [.one (.int .i64)] [] (λa r=>Q7v (argI a 0)) (λX=>.str X) (λX=>[])
theorem Qsh:Q05 pG Qwm:=oT (.nil) Tryz.func395 Tryz.call395 [] [] 2
def Ql(s:List UInt8)(z:(Int)):Nat:=(65-z).toNat
def Q68(s:List UInt8):Tree Int:=
.lp inferInstance (Ql s 1+1) ((rE (s:List UInt8)/\rE (1:Int)/\True)/\True) 1 λ(v0:Int)=>.br (decide (v0<=64)) (.lv (Qjq v0) λ(x0:Int)=>.br (decide (x0>0)) (.an (Qbi v0) (.lv (Qng v0) λ(x1:List UInt8)=>.br (decide (x1=s)) (.lf (Sum.inr v0)) (.nx ((rE (s:List UInt8)/\rE ((wrap i64 (v0+1)):Int)/\True)/\True) (Sum.inl (wrap i64 (v0+1)))))) (.nx ((rE (s:List UInt8)/\rE ((wrap i64 (v0+1)):Int)/\True)/\True) (Sum.inl (wrap i64 (v0+1))))) (.lf (Sum.inr 0))
def Q6p s:=(Q68 s).m
abbrev Q2k s:=(Q68 s).p
def Qow:LInv:={
 α:=(Int)
 F:=λst a=>([(0,(lk st 0)),(3,.int i64 a)],[])
 a0:=λst=>(lk st 3).toInt
 ex0:=λst=>[]++[]}
def Qmb:List (Nat×LInv):=[(2,Qow)]
def Qsl:Q09:=mT 343 [] true [.one (.str)] [] (λa r=>Q68 (argS a 0)) (λX=>.int .i64 X) (λX=>[])
theorem Qgs:Q05 pG Qsl:=oT (.cons Qf4 (.cons Qsh (.nil))) Tryz.func343 Tryz.call343 [] Qmb 3
def Q93(what:List UInt8):Tree ((List UInt8)×Bool):=
.an (Q2k what) (.lv (Q6p what) λ(x0:Int)=>.br (decide (what=[(46:UInt8),119,111,114,100])) (.lf ([(120:UInt8)],true)) (.br (decide (what=[(46:UInt8),115,112,97,99,101])) (.lf ([(110:UInt8)],true)) (.br (decide (what=[(108:UInt8),105])) (.lf ([(114:UInt8),44,120],true)) (.br (decide (what=[(109:UInt8),118])) (.lf ([(114:UInt8),44,114],true)) (.br (decide (what=[(110:UInt8),111,112])) (.lf ([],true)) (.br (x0==0) (.lf ([],false)) (let T1:Tree (((List UInt8)×Bool)):=.br (x0==48) (.lf ([(114:UInt8),44,120],true)) (.lv (Qjq x0) λ(x1:Int)=>.br (x1==1) (.lf ([],true)) (.br (x1==2) (.lf ([(114:UInt8),44,114,44,114],true)) (.br (decide (x1>=6)) (.lf ([(114:UInt8),44,110],true)) (.lf ([(114:UInt8),44,114,44,110],true)))));let T2:Tree (((List UInt8)×Bool)):=.br (decide (x0>=40)) (.br (decide (x0<=45)) (.lf ([(114:UInt8),44,114,44,120],true)) T1) T1;.br (decide (x0>=32)) (.br (decide (x0<=36)) (.lf ([(114:UInt8),44,110,40,114,41],true)) T2) T2)))))))
def Qbx what:=(Q93 what).m
abbrev Q4j what:=(Q93 what).p
def Qym:Q09:=mT 341 [] true [.one (.str)] [] (λa r=>Q93 (argS a 0)) (λX=>.tup [.str (X.1),.bool (X.2)]) (λX=>[])
theorem Qv8:Q05 pG Qym:=oT (.cons Qgs (.cons Qf4 (.nil))) Tryz.func341 Tryz.call341 [] [] 2
def Qqu(s:List UInt8)(z:(Int)×(Int)):Nat:=(s.length-z.2).toNat
def Qgn(s:List UInt8)(z:(Int)×(Int)):Nat:=(s.length-z.2).toNat
def Qak(s:List UInt8):Tree (Int×Bool):=
let E7:=decide ((0:Int)<=(0:Int)/\0<(s.length:Int));let E8:=(↑(iC (s.getD (dM 0) (0:UInt8))):Int);let T1:Tree ((Int×Bool)):=let T2:Tree ((Int×Bool)):=.br (decide (wrap i64 ((s.length:Int)-(0:Int))<1)) (.lf (0,false)) (.br (decide (wrap i64 ((s.length:Int)-(0:Int))>10)) (.lf (0,false)) (.lp inferInstance (Qgn s (0,0)+1) ((rE (s:List UInt8)/\rE (0:Int)/\rE (0:Int)/\rE (0:Int)/\True)/\True) (0,0) λ(v0:Int×Int)=>.br (decide (v0.2<(s.length:Int))) (let E9:=decide (0<=v0.2/\v0.2<(s.length:Int));.cn E9 (let E5:=(↑(iC (s.getD v0.2.toNat (0:UInt8))):Int);.lv (Qbj E5) λ(x2:Bool)=>.br (!x2) (.lf (Sum.inr (0,false))) (.cn E9 (.nx ((rE (s:List UInt8)/\rE (0:Int)/\rE ((wrap i64 (wrap i64 (10*v0.1)+wrap i64 (wrap u8 ((↑(iC (s.getD v0.2.toNat (0:UInt8))):Int)-(48:Int))))):Int)/\rE ((wrap i64 (v0.2+1)):Int)/\True)/\True) (Sum.inl (wrap i64 (wrap i64 (10*v0.1)+wrap i64 (wrap u8 (E5-(48:Int)))),wrap i64 (v0.2+1))))))) (.br (decide (v0.1>=(-2147483648))) (.lf (Sum.inr (v0.1,decide (v0.1<=4294967295)))) (.lf (Sum.inr (v0.1,false))))));.br (decide ((s.length:Int)>(0:Int))) (.cn E7 (.br (E8==(45:Int)) (.br (decide (wrap i64 ((s.length:Int)-(1:Int))<1)) (.lf (0,false)) (.br (decide (wrap i64 ((s.length:Int)-(1:Int))>10)) (.lf (0,false)) (.lp inferInstance (Qgn s (0,1)+1) ((rE (s:List UInt8)/\rE (1:Int)/\rE (0:Int)/\rE (1:Int)/\True)/\True) (0,1) λ(v0:Int×Int)=>.br (decide (v0.2<(s.length:Int))) (let E10:=decide (0<=v0.2/\v0.2<(s.length:Int));.cn E10 (let E6:=(↑(iC (s.getD v0.2.toNat (0:UInt8))):Int);.lv (Qbj E6) λ(x1:Bool)=>.br (!x1) (.lf (Sum.inr (0,false))) (.cn E10 (.nx ((rE (s:List UInt8)/\rE (1:Int)/\rE ((wrap i64 (wrap i64 (10*v0.1)+wrap i64 (wrap u8 ((↑(iC (s.getD v0.2.toNat (0:UInt8))):Int)-(48:Int))))):Int)/\rE ((wrap i64 (v0.2+1)):Int)/\True)/\True) (Sum.inl (wrap i64 (wrap i64 (10*v0.1)+wrap i64 (wrap u8 (E6-(48:Int)))),wrap i64 (v0.2+1))))))) (.br (decide (wrap i64 (0-v0.1)>=(-2147483648))) (.lf (Sum.inr (wrap i64 (0-v0.1),decide (wrap i64 (0-v0.1)<=4294967295)))) (.lf (Sum.inr (wrap i64 (0-v0.1),false))))))) T2)) T2;.br (decide ((s.length:Int)>(2:Int))) (.cn E7 (.br (E8==(48:Int)) (.cn (decide ((0:Int)<=(1:Int)/\1<(s.length:Int))) (.br ((↑(iC (s.getD (dM 1) (0:UInt8))):Int)==(120:Int)) (.br (decide ((s.length:Int)>(10:Int))) (.lf (0,false)) (.lp inferInstance (Qqu s (0,2)+1) ((rE (s:List UInt8)/\rE (0:Int)/\rE (2:Int)/\True)/\True) (0,2) λ(v0:Int×Int)=>.br (decide (v0.2<(s.length:Int))) (let E4:=decide (0<=v0.2/\v0.2<(s.length:Int));.cn E4 (let E3:=(↑(iC (s.getD v0.2.toNat (0:UInt8))):Int);.lv (Qbj E3) λ(x0:Bool)=>.br x0 (.cn E4 (.nx ((rE (s:List UInt8)/\rE ((wrap i64 (wrap i64 (16*v0.1)+wrap i64 (wrap u8 ((↑(iC (s.getD v0.2.toNat (0:UInt8))):Int)-(48:Int))))):Int)/\rE ((wrap i64 (v0.2+1)):Int)/\True)/\True) (Sum.inl (wrap i64 (wrap i64 (16*v0.1)+wrap i64 (wrap u8 (E3-(48:Int)))),wrap i64 (v0.2+1))))) (.cn E4 (.br (decide (E3>=(97:Int))) (.cn E4 (.br (decide (E3<=(102:Int))) (.cn E4 (.nx ((rE (s:List UInt8)/\rE ((wrap i64 (wrap i64 (wrap i64 (16*v0.1)+wrap i64 (wrap u8 ((↑(iC (s.getD v0.2.toNat (0:UInt8))):Int)-(97:Int))))+10)):Int)/\rE ((wrap i64 (v0.2+1)):Int)/\True)/\True) (Sum.inl (wrap i64 (wrap i64 (wrap i64 (16*v0.1)+wrap i64 (wrap u8 (E3-(97:Int))))+10),wrap i64 (v0.2+1))))) (.lf (Sum.inr (0,false))))) (.lf (Sum.inr (0,false))))))) (.lf (Sum.inr (v0.1,true))))) T1)) T1)) T1
def Qvp s:=(Qak s).m
abbrev Qe2 s:=(Qak s).p
def Qyq:LInv:={
 α:=(Int)×(Int)
 F:=λst a=>([(0,(lk st 0)),(4,.int i64 a.1),(5,.int i64 a.2)],[])
 a0:=λst=>((lk st 4).toInt,(lk st 5).toInt)
 ex0:=λst=>[]++[]}
def Qyz:LInv:={
 α:=(Int)×(Int)
 F:=λst a=>([(0,(lk st 0)),(6,(lk st 6)),(7,.int i64 a.1),(8,.int i64 a.2)],[])
 a0:=λst=>((lk st 7).toInt,(lk st 8).toInt)
 ex0:=λst=>[]++[]}
def Qsz:List (Nat×LInv):=[(6,Qyq),(21,Qyz)]
def Z3d:Q09:=mT 394 [] true [.one (.str)] [] (λa r=>Qak (argS a 0)) (λX=>.tup [.int .i64 (X.1),.bool (X.2)]) (λX=>[])
theorem Qyx:Q05 pG Z3d:=oT (.cons Qnt (.nil)) Tryz.func394 Tryz.call394 [] Qsz 3
def Qo0(l:List Q0c)(p:List UInt8)(z:(Int)×(List Q0r)):Nat:=(l.length-z.1).toNat
def Q94(l:List Q0c)(p:List UInt8):Tree ((List Q0r)×Bool):=
.br ((l.length:Int) !=(p.length:Int)) (.lf ([],false)) (.lp inferInstance (Qo0 l p (0,[])+1) ((nR RK.vmfleetref1Token 3 l/\rE (p:List UInt8)/\True/\rE (0:Int)/\True)/\rE ([]:List (RK.T RK.vmfleetref1Arg))/\True) (0,[]) λ(v0:Int×List Q0r)=>.br (decide (v0.1<(l.length:Int))) (.cn (bV 3 3&&bK 0 3&&decide (0<=v0.1/\v0.1<(l.length:Int))) (let E6:=decide (0<=v0.1/\v0.1<(p.length:Int));.cn E6 (let E3:=l.getD v0.1.toNat (RK.dflt RK.vmfleetref1Token);let E4:=(↑(iC (p.getD v0.1.toNat (0:UInt8))):Int);let E5:=decide (32*(v0.2.length+1)<=140737488355328);.br (E4==(114:Int)) (.lv (Qei E3.C9) λ(x0:Int×Bool)=>.br (E3.kind !=1) (.lf (Sum.inr ([],false))) (.br (!x0.2) (.lf (Sum.inr ([],false))) (.cn E5 (.nx ((nR RK.vmfleetref1Token 3 l/\rE (p:List UInt8)/\True/\rE ((wrap i64 (v0.1+1)):Int)/\True)/\rE ((v0.2++[{reg:=x0.1,num:=0,label:=[]}]):List (RK.T RK.vmfleetref1Arg))/\True) (Sum.inl (wrap i64 (v0.1+1),v0.2++[{reg:=x0.1,num:=0,label:=[]}])))))) (let T1:Tree ((Int×List Q0r)⊕(((List Q0r)×Bool))):=.an (Qe2 E3.C9) (.lv (Qvp E3.C9) λ(x2:Int×Bool)=>.br (E3.kind !=2) (.lf (Sum.inr ([],false))) (.br (!x2.2) (.lf (Sum.inr ([],false))) (.cn E5 (.nx ((nR RK.vmfleetref1Token 3 l/\rE (p:List UInt8)/\True/\rE ((wrap i64 (v0.1+1)):Int)/\True)/\rE ((v0.2++[{reg:=0,num:=x2.1,label:=[]}]):List (RK.T RK.vmfleetref1Arg))/\True) (Sum.inl (wrap i64 (v0.1+1),v0.2++[{reg:=0,num:=x2.1,label:=[]}]))))));let T2:Tree ((Int×List Q0r)⊕(((List Q0r)×Bool))):=.cn E6 (.br (E4==(120:Int)) (.br (E3.kind==1) (.an (Qdg E3.C9) (.lv (Qv6 E3.C9) λ(x1:Bool)=>.br x1 (.cn E5 (.nx ((nR RK.vmfleetref1Token 3 l/\rE (p:List UInt8)/\True/\rE ((wrap i64 (v0.1+1)):Int)/\True)/\rE ((v0.2++[{reg:=0,num:=0,label:=(l.getD v0.1.toNat (RK.dflt RK.vmfleetref1Token)).C9}]):List (RK.T RK.vmfleetref1Arg))/\True) (Sum.inl (wrap i64 (v0.1+1),v0.2++[{reg:=0,num:=0,label:=E3.C9}])))) T1)) T1) T1);.br (E4==(110:Int)) T2 (.br (E4==(120:Int)) T2 (.br (E3.kind !=3) (.lf (Sum.inr ([],false))) (.cn (decide (0<=v0.1/\v0.1<=wrap i64 (v0.1+1)/\wrap i64 (v0.1+1)<=(p.length:Int))) (.br (!decide (E3.C9=dU (dM (wrap i64 (v0.1+1))-dM v0.1) (dV v0.1.toNat p))) (.lf (Sum.inr ([],false))) (.nx ((nR RK.vmfleetref1Token 3 l/\rE (p:List UInt8)/\True/\rE ((wrap i64 (v0.1+1)):Int)/\True)/\rE v0.2/\True) (Sum.inl (wrap i64 (v0.1+1),v0.2))))))))))) (.lf (Sum.inr (v0.2,true))))
def Qbv l p:=(Q94 l p).m
abbrev Q4h l p:=(Q94 l p).p
def Qwx:LInv:={
 α:=(Int)×(List Q0r)
 F:=λst a=>([(0,(lk st 0)),(1,(lk st 1)),(6,.all 0),(7,.int i64 a.1)],[⟨false,288,3,.recs RK.vmfleetref1Arg a.2⟩])
 a0:=λst=>((lk st 7).toInt,(Q55 RK.vmfleetref1Arg st.rows (rN st 6)))
 ex0:=λst=>[]++[(rX st 6 0)]}
def Qp2:List (Nat×LInv):=[(5,Qwx)]
def Qyw:Q09:=mT 342 [] true [.one (.recs .vmfleetref1Token),.one (.str)] [] (λa r=>Q94 (argR .vmfleetref1Token a 0) (argS a 1)) (λX=>.tup [.all 0,.bool (X.2)]) (λX=>[⟨false,288,3,.recs .vmfleetref1Arg (X.1)⟩])
theorem Qwn:Q05 pG Qyw:=oT (.cons Qfp (.cons Qr8 (.cons Qyx (.nil)))) Tryz.func342 Tryz.call342 [.row 288 3 (.recs .vmfleetref1Arg)] Qp2 3
def Qp5(s:List UInt8)(z:(List UInt8)×(Int)):Nat:=(s.length-z.2).toNat
def Qam(s:List UInt8):Tree ((List UInt8)×Q06×Bool):=
.lp inferInstance (Qp5 s (s,0)+1) ((rE (s:List UInt8)/\rE ([]:List UInt8)/\rZ/\rE (false:Bool)/\rE (0:Int)/\True)/\(rE ([]:List UInt8)/\rE (0:Int)/\True/\rE (0:Int)/\rE (0:Int)/\rE (0:Int)/\True)/\True) (s,0) λ(v0:List UInt8×Int)=>.br (decide (v0.2<(v0.1.length:Int))) (.cn (decide (0<=v0.2/\v0.2<(v0.1.length:Int))) (.br ((↑(iC (v0.1.getD v0.2.toNat (0:UInt8))):Int)==(59:Int)) (.cn (decide ((0:Int)<=(0:Int)/\0<=v0.2/\v0.2<=(v0.1.length:Int))) (.nx ((rE ((dU (dM v0.2-dM 0) (dV (dM 0) v0.1)):List UInt8)/\rE ([]:List UInt8)/\rZ/\rE (false:Bool)/\rE ((wrap i64 (v0.2+1)):Int)/\True)/\(rE ([]:List UInt8)/\rE (0:Int)/\True/\rE (0:Int)/\rE (0:Int)/\rE (0:Int)/\True)/\True) (Sum.inl (dU (dM v0.2-dM 0) (dV (dM 0) v0.1),wrap i64 (v0.2+1))))) (.nx ((rE v0.1/\rE ([]:List UInt8)/\rZ/\rE (false:Bool)/\rE ((wrap i64 (v0.2+1)):Int)/\True)/\(rE ([]:List UInt8)/\rE (0:Int)/\True/\rE (0:Int)/\rE (0:Int)/\rE (0:Int)/\True)/\True) (Sum.inl (v0.1,wrap i64 (v0.2+1)))))) (.an (Qea v0.1) (.lv (Qwl v0.1) λ(x0:List Q0c×Bool)=>.br (!x0.2) (.lf (Sum.inr ([],{what:=[],op:=0,l:=[],D8:=0,at_:=0,size:=0},false))) (let E9:=x0.1.getD (dM 0) (RK.dflt RK.vmfleetref1Token);let T1:Tree ((List UInt8×Int)⊕(((List UInt8)×Q06×Bool))):=.an (Q4j E9.C9) (.lv (Qbx E9.C9) λ(x27:List UInt8×Bool)=>.br (!x27.2) (.lf (Sum.inr ([],{what:=[],op:=0,l:=[],D8:=0,at_:=0,size:=0},false))) (let E20:=dM (x0.1.length:Int)-dM 1;let T6:Tree ((List UInt8×Int)⊕(((List UInt8)×Q06×Bool))):=let E31:=dU E20 (dV (dM 1) x0.1);.an (Q4h E31 x27.1) (.lv (Qbv E31 x27.1) λ(x28:List Q0r×Bool)=>.br (!x28.2) (.lf (Sum.inr ([],{what:=[],op:=0,l:=[],D8:=0,at_:=0,size:=0},false))) (.an (Q2k E9.C9) (.lv (Q6p E9.C9) λ(x29:Int)=>.br (decide (E9.C9=[(108:UInt8),105])) (.lf (Sum.inr ([],{what:=E9.C9,op:=x29,l:=x28.1,D8:=0,at_:=0,size:=2},true))) (.br (decide (E9.C9=[(46:UInt8),115,112,97,99,101])) (let E13:=bV 3 3&&bK 0 3&&decide ((0:Int)<=(0:Int)/\0<(x28.1.length:Int));.cn E13 (let E21:=x28.1.getD (dM 0) (RK.dflt RK.vmfleetref1Arg);.br (decide (E21.num<0)) (.lf (Sum.inr ([],{what:=[],op:=0,l:=[],D8:=0,at_:=0,size:=0},false))) (.cn E13 (.br (decide (E21.num>1024)) (.lf (Sum.inr ([],{what:=[],op:=0,l:=[],D8:=0,at_:=0,size:=0},false))) (.cn E13 (.lf (Sum.inr ([],{what:=E9.C9,op:=x29,l:=x28.1,D8:=0,at_:=0,size:=E21.num},true)))))))) (.lf (Sum.inr ([],{what:=E9.C9,op:=x29,l:=x28.1,D8:=0,at_:=0,size:=1},true)))))));.br (decide ((↑E20:Int)>(0:Int))) (.cn (bV 3 3&&bK 0 3&&decide ((0:Int)<=(0:Int)/\0<(↑E20:Int))) (.br (!(x0.1.getD (dM 1+dM 0) (RK.dflt RK.vmfleetref1Token)).gap) (.lf (Sum.inr ([],{what:=[],op:=0,l:=[],D8:=0,at_:=0,size:=0},false))) T6)) T6));let E25:=dM (x0.1.length:Int)-dM 2;let E8:=(↑E25:Int);let E10:=x0.1.getD (dM 2+dM 0) (RK.dflt RK.vmfleetref1Token);let E12:=x0.1.getD (dM 1) (RK.dflt RK.vmfleetref1Token);let E16:=bV 3 3&&bK 0 3&&decide ((0:Int)<=(0:Int)/\0<(x0.1.length:Int));let E17:=bV 3 3&&bK 0 3&&decide ((0:Int)<=(1:Int)/\1<(x0.1.length:Int));let E19:=bV 3 3&&bK 0 3&&decide ((0:Int)<=(2:Int)/\2<=(x0.1.length:Int)/\(x0.1.length:Int)<=(x0.1.length:Int));let E28:=bV 3 3&&bK 0 3&&decide ((0:Int)<=(0:Int)/\0<E8);let E30:=decide ((x0.1.length:Int)>=(2:Int));let T3:Tree ((List UInt8×Int)⊕(((List UInt8)×Q06×Bool))):=.br ((x0.1.length:Int)==(0:Int)) (.lf (Sum.inr ([],{what:=[],op:=0,l:=[],D8:=0,at_:=0,size:=0},true))) (.cn E16 (.cn (bV 3 3&&bK 0 3&&decide ((0:Int)<=(1:Int)/\1<=(x0.1.length:Int)/\(x0.1.length:Int)<=(x0.1.length:Int))) (.br (decide (E9.C9=[(46:UInt8)])) (.br E30 (.cn E17 (.br (!E12.gap) (.cn E17 (.cn (decide (1+dR E12.C9<=maxLen)) (.cn E19 (.an (Q4j ((46:UInt8)::E12.C9)) (.lv (Qbx ([(46:UInt8)]++E12.C9)) λ(x22:List UInt8×Bool)=>.br (!x22.2) (.lf (Sum.inr ([],{what:=[],op:=0,l:=[],D8:=0,at_:=0,size:=0},false))) (let T7:Tree ((List UInt8×Int)⊕(((List UInt8)×Q06×Bool))):=let E32:=dU E25 (dV (dM 2) x0.1);.an (Q4h E32 x22.1) (.lv (Qbv E32 x22.1) λ(x23:List Q0r×Bool)=>.br (!x23.2) (.lf (Sum.inr ([],{what:=[],op:=0,l:=[],D8:=0,at_:=0,size:=0},false))) (.an (Q2k ((46:UInt8)::E12.C9)) (.lv (Q6p ([(46:UInt8)]++E12.C9)) λ(x24:Int)=>.br (decide ([(46:UInt8)]++E12.C9=[(46:UInt8),115,112,97,99,101])) (let E14:=bV 3 3&&bK 0 3&&decide ((0:Int)<=(0:Int)/\0<(x23.1.length:Int));.cn E14 (let E22:=x23.1.getD (dM 0) (RK.dflt RK.vmfleetref1Arg);.br (decide (E22.num<0)) (.lf (Sum.inr ([],{what:=[],op:=0,l:=[],D8:=0,at_:=0,size:=0},false))) (.cn E14 (.br (decide (E22.num>1024)) (.lf (Sum.inr ([],{what:=[],op:=0,l:=[],D8:=0,at_:=0,size:=0},false))) (.cn E14 (.lf (Sum.inr ([],{what:=(46:UInt8)::E12.C9,op:=x24,l:=x23.1,D8:=0,at_:=0,size:=E22.num},true)))))))) (.lf (Sum.inr ([],{what:=(46:UInt8)::E12.C9,op:=x24,l:=x23.1,D8:=0,at_:=0,size:=1},true))))));.br (decide (E8>(0:Int))) (.cn E28 (.br (!E10.gap) (.lf (Sum.inr ([],{what:=[],op:=0,l:=[],D8:=0,at_:=0,size:=0},false))) T7)) T7)))))) T1)) T1) T1)));.br E30 (.cn E17 (.br (decide (E12.C9=[(58:UInt8)])) (.cn E16 (.cn E16 (.br (E9.kind !=1) (.lf (Sum.inr ([],{what:=[],op:=0,l:=[],D8:=0,at_:=0,size:=0},false))) (.an (Qdg E9.C9) (.lv (Qv6 E9.C9) λ(x1:Bool)=>.br (!x1) (.lf (Sum.inr ([],{what:=[],op:=0,l:=[],D8:=0,at_:=0,size:=0},false))) (.cn E19 (.br (E8==(0:Int)) (.lf (Sum.inr (E9.C9,{what:=[],op:=0,l:=[],D8:=0,at_:=0,size:=0},true))) (.cn E28 (.cn (bV 3 3&&bK 0 3&&decide ((0:Int)<=(1:Int)/\1<=E8/\E8<=E8)) (let T2:Tree ((List UInt8×Int)⊕(((List UInt8)×Q06×Bool))):=.an (Q4j E10.C9) (.lv (Qbx E10.C9) λ(x7:List UInt8×Bool)=>.br (!x7.2) (.lf (Sum.inr ([],{what:=[],op:=0,l:=[],D8:=0,at_:=0,size:=0},false))) (let T4:Tree ((List UInt8×Int)⊕(((List UInt8)×Q06×Bool))):=let E26:=dU (dM E8-dM 1) (dV (dM 2+dM 1) x0.1);.an (Q4h E26 x7.1) (.lv (Qbv E26 x7.1) λ(x8:List Q0r×Bool)=>.br (!x8.2) (.lf (Sum.inr ([],{what:=[],op:=0,l:=[],D8:=0,at_:=0,size:=0},false))) (.an (Q2k E10.C9) (.lv (Q6p E10.C9) λ(x9:Int)=>.br (decide (E10.C9=[(108:UInt8),105])) (.lf (Sum.inr (E9.C9,{what:=E10.C9,op:=x9,l:=x8.1,D8:=0,at_:=0,size:=2},true))) (.br (decide (E10.C9=[(46:UInt8),115,112,97,99,101])) (let E15:=bV 3 3&&bK 0 3&&decide ((0:Int)<=(0:Int)/\0<(x8.1.length:Int));.cn E15 (let E23:=x8.1.getD (dM 0) (RK.dflt RK.vmfleetref1Arg);.br (decide (E23.num<0)) (.lf (Sum.inr ([],{what:=[],op:=0,l:=[],D8:=0,at_:=0,size:=0},false))) (.cn E15 (.br (decide (E23.num>1024)) (.lf (Sum.inr ([],{what:=[],op:=0,l:=[],D8:=0,at_:=0,size:=0},false))) (.cn E15 (.lf (Sum.inr (E9.C9,{what:=E10.C9,op:=x9,l:=x8.1,D8:=0,at_:=0,size:=E23.num},true)))))))) (.lf (Sum.inr (E9.C9,{what:=E10.C9,op:=x9,l:=x8.1,D8:=0,at_:=0,size:=1},true)))))));.br (decide ((↑(dM E8-dM 1):Int)>(0:Int))) (.cn (bV 3 3&&bK 0 3&&decide ((0:Int)<=(0:Int)/\0<(↑(dM E8-dM 1):Int))) (.br (!(x0.1.getD (dM 2+dM 1+dM 0) (RK.dflt RK.vmfleetref1Token)).gap) (.lf (Sum.inr ([],{what:=[],op:=0,l:=[],D8:=0,at_:=0,size:=0},false))) T4)) T4));.br (decide (E10.C9=[(46:UInt8)])) (.br (decide (E8>=(2:Int))) (let E29:=bV 3 3&&bK 0 3&&decide ((0:Int)<=(1:Int)/\1<E8);.cn E29 (let E11:=x0.1.getD (dM 2+dM 1) (RK.dflt RK.vmfleetref1Token);.br (!E11.gap) (.cn E29 (.cn (decide (1+dR E11.C9<=maxLen)) (.cn (bV 3 3&&bK 0 3&&decide ((0:Int)<=(2:Int)/\2<=E8/\E8<=E8)) (.an (Q4j ((46:UInt8)::E11.C9)) (.lv (Qbx ([(46:UInt8)]++E11.C9)) λ(x2:List UInt8×Bool)=>.br (!x2.2) (.lf (Sum.inr ([],{what:=[],op:=0,l:=[],D8:=0,at_:=0,size:=0},false))) (let T5:Tree ((List UInt8×Int)⊕(((List UInt8)×Q06×Bool))):=let E27:=dU (dM E8-dM 2) (dV (dM 2+dM 2) x0.1);.an (Q4h E27 x2.1) (.lv (Qbv E27 x2.1) λ(x3:List Q0r×Bool)=>.br (!x3.2) (.lf (Sum.inr ([],{what:=[],op:=0,l:=[],D8:=0,at_:=0,size:=0},false))) (.an (Q2k ((46:UInt8)::E11.C9)) (.lv (Q6p ([(46:UInt8)]++E11.C9)) λ(x4:Int)=>.br (decide ([(46:UInt8)]++E11.C9=[(46:UInt8),115,112,97,99,101])) (let E18:=bV 3 3&&bK 0 3&&decide ((0:Int)<=(0:Int)/\0<(x3.1.length:Int));.cn E18 (let E24:=x3.1.getD (dM 0) (RK.dflt RK.vmfleetref1Arg);.br (decide (E24.num<0)) (.lf (Sum.inr ([],{what:=[],op:=0,l:=[],D8:=0,at_:=0,size:=0},false))) (.cn E18 (.br (decide (E24.num>1024)) (.lf (Sum.inr ([],{what:=[],op:=0,l:=[],D8:=0,at_:=0,size:=0},false))) (.cn E18 (.lf (Sum.inr (E9.C9,{what:=(46:UInt8)::E11.C9,op:=x4,l:=x3.1,D8:=0,at_:=0,size:=E24.num},true)))))))) (.lf (Sum.inr (E9.C9,{what:=(46:UInt8)::E11.C9,op:=x4,l:=x3.1,D8:=0,at_:=0,size:=1},true))))));.br (decide ((↑(dM E8-dM 2):Int)>(0:Int))) (.cn (bV 3 3&&bK 0 3&&decide ((0:Int)<=(0:Int)/\0<(↑(dM E8-dM 2):Int))) (.br (!(x0.1.getD (dM 2+dM 2+dM 0) (RK.dflt RK.vmfleetref1Token)).gap) (.lf (Sum.inr ([],{what:=[],op:=0,l:=[],D8:=0,at_:=0,size:=0},false))) T5)) T5)))))) T2)) T2) T2)))))))))) T3)) T3)))
def Qvd s:=(Qam s).m
abbrev Qeq s:=(Qam s).p
def Qxm:LInv:={
 α:=(List UInt8)×(Int)
 F:=λst a=>([(0,.str a.1),(2,(lk st 2)),(3,.ptr 0 0 0),(4,(lk st 4)),(5,.int i64 a.2)],[⟨true,286,6,.gen [[(cT st 3 0),(cT st 3 1),(cT st 3 2),(cT st 3 3),(cT st 3 4),(cT st 3 5)]]⟩])
 a0:=λst=>((lk st 0).toStr,(lk st 5).toInt)
 ex0:=λst=>[]++[(rX st 3 0)]}
def Qt7:List (Nat×LInv):=[(2,Qxm)]
def Z32:Q09:=mT 260 [] false [.one (.str)] [] (λa r=>Qam (argS a 0)) (λX=>.tup [.str (X.1),.agg (Q06.cells (X.2.1)),.bool (X.2.2)]) (λX=>[])
theorem Qxn:Q05 pG Z32:=oT (.cons Qxt (.cons Qr8 (.cons Qv8 (.cons Qwn (.cons Qgs (.nil)))))) Tryz.func260 Tryz.call260 [.sl (.recs .vmfleetref1Arg) false] Qt7 3 (hff:=nofun)
def Qgv(l:List Q2)(label:List UInt8)(z:(Int)):Prop:=0<=z/\z<=l.length
def Qa9(l:List Q2)(label:List UInt8)(z:(Int)):Nat:=(l.length-z).toNat
def Qbr(l:List Q2)(label:List UInt8):Tree (Int×Bool):=
.lp inferInstance (Qa9 l label 0+1) ((nR RK.apiSymbol 2 l/\rE (label:List UInt8)/\rE (0:Int)/\True)/\True) 0 λ(v0:Int)=>.br (decide (v0<(l.length:Int))) (let E1:=bV 2 2&&bK 0 2&&decide (0<=v0/\v0<(l.length:Int));.cn E1 (let E2:=l.getD v0.toNat (RK.dflt RK.apiSymbol);.br (decide (E2.B8=label)) (.cn E1 (.lf (Sum.inr (E2.Addr,true)))) (.nx ((nR RK.apiSymbol 2 l/\rE (label:List UInt8)/\rE ((wrap i64 (v0+1)):Int)/\True)/\True) (Sum.inl (wrap i64 (v0+1)))))) (.lf (Sum.inr (0,false)))
def Qj5 l label:=(Qbr l label).m
def Q2w(l:List Q2)(label:List UInt8):Prop:=
l.length<=1000000000000
theorem Qsj(l:List Q2)(label:List UInt8)(hw:Q2w l label):(Qbr l label).p:=by
 simp only[Q2w]at hw
 unfold Tree.p Qbr
 repeat'(first|refine w_lp (inv:=Qgv l label) (μ:=Qa9 l label) ?_ (dQ _) (λ_ _=>?_)|exact trivial|refine w_br (λ_=>?_) (λ_=>?_)|refine w_cn ?_ ?_|refine w_an ?_ ?_|refine w_lv (λ_ _=>?_)|refine w_nx ?_|refine w_lf ?_|refine And.intro ?_ ?_)
 all_goals((try simp only[Qgv,Qa9]at*);exact fin0)
def Qx1:LInv:={
 α:=(Int)
 F:=λst a=>([(0,(lk st 0)),(1,(lk st 1)),(6,.int i64 a)],[])
 a0:=λst=>(lk st 6).toInt
 ex0:=λst=>[]++[]}
def Qqd:List (Nat×LInv):=[(2,Qx1)]
def Qy8:Q09:=mkP 161 [] true [.one (.recs .apiSymbol),.one (.str)] [] (λa r=>Q2w (argR .apiSymbol a 0) (argS a 1)) (λa r=>Qj5 (argR .apiSymbol a 0) (argS a 1)) (λX=>.tup [.int .u32 (X.1),.bool (X.2)]) (λX=>[])
theorem Qiw:Q05 pG Qy8:=Q0o drawn Q0k (.nil) Tryz.func161 Tryz.call161 (λa r=>Qbr (argR .apiSymbol a 0) (argS a 1)) [] Qqd 3 (hp:=λa r h=>Qsj (argR .apiSymbol a 0) (argS a 1) h)
def Qxg(src:List UInt8)(z:(Int)×(Int)×(List Q2)×(List Q06)):Nat:=((Qps src).length-z.2.1).toNat
def Qdw(src:List UInt8):Tree ((List Q2)×(List Q06)×Q1a):=
.br (decide ((src.length:Int)>(8192:Int))) (.lf ([],[],{Err:=300,Line:=0})) (.an (Qg src) (.lv (Qps src) λ(x0:List (List UInt8))=>.lp inferInstance (Qxg src (0,0,[],[])+1) ((rZ/\True/\True/\rE (0:Int)/\True/\rE (0:Int)/\True)/\(rE (0:Int)/\rE (0:Int)/\True)/\rE (x0:List (RK.T RK.str))/\rE ([]:List (RK.T RK.apiSymbol))/\rE ([]:List (RK.T RK.vmfleetref1Statement))/\True) (0,0,[],[]) λ(v0:Int×Int×List Q2×List Q06)=>.br (decide (v0.2.1<(x0.length:Int))) (.cn (bV 1 1&&bK 0 1&&decide (0<=v0.2.1/\v0.2.1<(x0.length:Int))) (let E3:=x0.getD v0.2.1.toNat (RK.dflt RK.str);.an (Qeq E3) (.lv (Qvd E3) λ(x1:List UInt8×Q06×Bool)=>.br (!x1.2.2) (.lf (Sum.inr ([],[],{Err:=301,Line:=wrap i64 (v0.2.1+1)}))) (let E1:=({Err:=305,Line:=wrap i64 (v0.2.1+1)}:Q1a);let E2:=decide (72*(v0.2.2.2.length+1)<=140737488355328);let E4:=decide (wrap i64 (v0.1+x1.2.1.size)>1024);.br (!decide (x1.1=[])) (.an (Q2w v0.2.2.1 x1.1) (.lv (Qj5 v0.2.2.1 x1.1) λ(x2:Int×Bool)=>.br x2.2 (.lf (Sum.inr ([],[],{Err:=303,Line:=wrap i64 (v0.2.1+1)}))) (.cn (decide (24*(v0.2.2.1.length+1)<=140737488355328)) (.br (!decide (x1.2.1.what=[])) (.cn E2 (.br E4 (.lf (Sum.inr ([],[],E1))) (.nx ((rZ/\True/\True/\rE ((wrap i64 (v0.1+x1.2.1.size)):Int)/\True/\rE ((wrap i64 (v0.2.1+1)):Int)/\True)/\(rE (0:Int)/\rE (0:Int)/\True)/\rE (x0:List (RK.T RK.str))/\rE ((v0.2.2.1++[{B8:=x1.1,Addr:=wrap u32 (wrap i64 (4*v0.1))}]):List (RK.T RK.apiSymbol))/\rE ((v0.2.2.2++[{what:=x1.2.1.what,op:=x1.2.1.op,l:=x1.2.1.l,D8:=wrap i64 (v0.2.1+1),at_:=v0.1,size:=x1.2.1.size}]):List (RK.T RK.vmfleetref1Statement))/\True) (Sum.inl (wrap i64 (v0.1+x1.2.1.size),wrap i64 (v0.2.1+1),v0.2.2.1++[{B8:=x1.1,Addr:=wrap u32 (wrap i64 (4*v0.1))}],v0.2.2.2++[{what:=x1.2.1.what,op:=x1.2.1.op,l:=x1.2.1.l,D8:=wrap i64 (v0.2.1+1),at_:=v0.1,size:=x1.2.1.size}]))))) (.br (decide (v0.1>1024)) (.lf (Sum.inr ([],[],E1))) (.nx ((rZ/\True/\True/\rE v0.1/\True/\rE ((wrap i64 (v0.2.1+1)):Int)/\True)/\(rE (0:Int)/\rE (0:Int)/\True)/\rE (x0:List (RK.T RK.str))/\rE ((v0.2.2.1++[{B8:=x1.1,Addr:=wrap u32 (wrap i64 (4*v0.1))}]):List (RK.T RK.apiSymbol))/\rE v0.2.2.2/\True) (Sum.inl (v0.1,wrap i64 (v0.2.1+1),v0.2.2.1++[{B8:=x1.1,Addr:=wrap u32 (wrap i64 (4*v0.1))}],v0.2.2.2)))))))) (.br (!decide (x1.2.1.what=[])) (.cn E2 (.br E4 (.lf (Sum.inr ([],[],E1))) (.nx ((rZ/\True/\True/\rE ((wrap i64 (v0.1+x1.2.1.size)):Int)/\True/\rE ((wrap i64 (v0.2.1+1)):Int)/\True)/\(rE (0:Int)/\rE (0:Int)/\True)/\rE (x0:List (RK.T RK.str))/\rE v0.2.2.1/\rE ((v0.2.2.2++[{what:=x1.2.1.what,op:=x1.2.1.op,l:=x1.2.1.l,D8:=wrap i64 (v0.2.1+1),at_:=v0.1,size:=x1.2.1.size}]):List (RK.T RK.vmfleetref1Statement))/\True) (Sum.inl (wrap i64 (v0.1+x1.2.1.size),wrap i64 (v0.2.1+1),v0.2.2.1,v0.2.2.2++[{what:=x1.2.1.what,op:=x1.2.1.op,l:=x1.2.1.l,D8:=wrap i64 (v0.2.1+1),at_:=v0.1,size:=x1.2.1.size}]))))) (.br (decide (v0.1>1024)) (.lf (Sum.inr ([],[],E1))) (.nx ((rZ/\True/\True/\rE v0.1/\True/\rE ((wrap i64 (v0.2.1+1)):Int)/\True)/\(rE (0:Int)/\rE (0:Int)/\True)/\rE (x0:List (RK.T RK.str))/\rE v0.2.2.1/\rE v0.2.2.2/\True) (Sum.inl (v0.1,wrap i64 (v0.2.1+1),v0.2.2.1,v0.2.2.2))))))))) (.lf (Sum.inr (v0.2.2.1,v0.2.2.2,{Err:=0,Line:=0})))))
def Qw2 src:=(Qdw src).m
abbrev Qh8 src:=(Qdw src).p
def Z5:LInv:={
 α:=(Int)×(Int)×(List Q2)×(List Q06)
 F:=λst a=>([(4,.ptr 0 0 0),(5,.all 2),(6,.all 3),(7,.int i64 a.1),(8,.all 1),(9,.int i64 a.2.1)],[⟨true,188,2,.gen [[(cT st 4 0),(cT st 4 1)]]⟩,⟨false,9,1,esOf st.rows (rN st 8)⟩,⟨false,396,2,.recs RK.apiSymbol a.2.2.1⟩,⟨false,286,6,.recs RK.vmfleetref1Statement a.2.2.2⟩])
 a0:=λst=>((lk st 7).toInt,(lk st 9).toInt,(Q55 RK.apiSymbol st.rows (rN st 5)),(Q55 RK.vmfleetref1Statement st.rows (rN st 6)))
 ex0:=λst=>[]++[(rX st 4 0),(rX st 8 1),(rX st 5 2),(rX st 6 3)]}
def Qy4:List (Nat×LInv):=[(8,Z5)]
def Z72:Q09:=mT 160 [] false [.one (.str)] [] (λa r=>Qdw (argS a 0)) (λX=>.tup [.all 0,.all 1,.agg (Q1a.cells (X.2.2))]) (λX=>[⟨false,396,2,.recs .apiSymbol (X.1)⟩,⟨false,286,6,.recs .vmfleetref1Statement (X.2.1)⟩])
theorem Z4k:Q05 pG Z72:=oT (.cons Z19 (.cons Qxn (.cons Qiw (.nil)))) Tryz.func160 Tryz.call160 [.row 396 2 (.recs .apiSymbol),.row 286 6 (.recs .vmfleetref1Statement)] Qy4 3 (hff:=nofun)
def Qdr(st:Q06)(v:Int):Tree (Int×Bool):=
.lv (Qjq st.op) λ(x0:Int)=>.lv (Qmj x0) λ(x1:Int×Int)=>let E7:=st.l.getD (dM 0) (RK.dflt RK.vmfleetref1Arg);let E8:=st.l.getD (dM 1) (RK.dflt RK.vmfleetref1Arg);let E9:=bV 3 3&&bK 0 3&&decide ((0:Int)<=(0:Int)/\0<(st.l.length:Int));let E10:=bV 3 3&&bK 0 3&&decide ((0:Int)<=(1:Int)/\1<(st.l.length:Int));let E11:=st.l.getD (dM 2) (RK.dflt RK.vmfleetref1Arg);let E12:=bV 3 3&&bK 0 3&&decide ((0:Int)<=(2:Int)/\2<(st.l.length:Int));.br (x0==2) (.cn E9 (.cn E10 (.cn E12 (let T2:Tree ((Int×Bool)):=.br (decide (0<x1.1)) (.lf (0,false)) (.br (decide (0>x1.2)) (.lf (0,false)) (.lv (Q1k {Op:=st.op,A:=E7.reg,B:=E8.reg,C:=E11.reg,F3:=wrap i32 0}) λ(x2:Int×Bool)=>.lf (x2.1,x2.2)));.br (x0==2) T2 (.br (x0==1) T2 (.br (decide (v<x1.1)) (.lf (0,false)) (.br (decide (v>x1.2)) (.lf (0,false)) (.lv (Q1k {Op:=st.op,A:=E7.reg,B:=E8.reg,C:=E11.reg,F3:=wrap i32 v}) λ(x4:Int×Bool)=>.lf (x4.1,x4.2))))))))) (let T1:Tree ((Int×Bool)):=.br (decide (x0>=6)) (.cn E9 (let T5:Tree ((Int×Bool)):=.br (decide (0<x1.1)) (.lf (0,false)) (.br (decide (0>x1.2)) (.lf (0,false)) (.lv (Q1k {Op:=st.op,A:=E7.reg,B:=0,C:=0,F3:=wrap i32 0}) λ(x8:Int×Bool)=>.lf (x8.1,x8.2)));.br (x0==2) T5 (.br (x0==1) T5 (.br (decide (v<x1.1)) (.lf (0,false)) (.br (decide (v>x1.2)) (.lf (0,false)) (.lv (Q1k {Op:=st.op,A:=E7.reg,B:=0,C:=0,F3:=wrap i32 v}) λ(x10:Int×Bool)=>.lf (x10.1,x10.2))))))) (.br (x0 !=1) (.cn E9 (.cn E10 (let T3:Tree ((Int×Bool)):=.br (decide (0<x1.1)) (.lf (0,false)) (.br (decide (0>x1.2)) (.lf (0,false)) (.lv (Q1k {Op:=st.op,A:=E7.reg,B:=E8.reg,C:=0,F3:=wrap i32 0}) λ(x11:Int×Bool)=>.lf (x11.1,x11.2)));.br (x0==2) T3 (.br (x0==1) T3 (.br (decide (v<x1.1)) (.lf (0,false)) (.br (decide (v>x1.2)) (.lf (0,false)) (.lv (Q1k {Op:=st.op,A:=E7.reg,B:=E8.reg,C:=0,F3:=wrap i32 v}) λ(x13:Int×Bool)=>.lf (x13.1,x13.2)))))))) (let T6:Tree ((Int×Bool)):=.br (decide (0<x1.1)) (.lf (0,false)) (.br (decide (0>x1.2)) (.lf (0,false)) (.lv (Q1k {Op:=st.op,A:=0,B:=0,C:=0,F3:=wrap i32 0}) λ(x14:Int×Bool)=>.lf (x14.1,x14.2)));.br (x0==2) T6 (.br (x0==1) T6 (.br (decide (v<x1.1)) (.lf (0,false)) (.br (decide (v>x1.2)) (.lf (0,false)) (.lv (Q1k {Op:=st.op,A:=0,B:=0,C:=0,F3:=wrap i32 v}) λ(x16:Int×Bool)=>.lf (x16.1,x16.2)))))));.br (decide (st.op>=32)) (.br (decide (st.op<=36)) (.cn E9 (.cn E12 (.cn E10 (let T4:Tree ((Int×Bool)):=.br (decide (0<x1.1)) (.lf (0,false)) (.br (decide (0>x1.2)) (.lf (0,false)) (.lv (Q1k {Op:=st.op,A:=E7.reg,B:=E11.reg,C:=0,F3:=wrap i32 0}) λ(x5:Int×Bool)=>.lf (x5.1,x5.2)));.br (x0==2) T4 (.br (x0==1) T4 (.br (decide (E8.num<x1.1)) (.lf (0,false)) (.br (decide (E8.num>x1.2)) (.lf (0,false)) (.lv (Q1k {Op:=st.op,A:=E7.reg,B:=E11.reg,C:=0,F3:=wrap i32 E8.num}) λ(x7:Int×Bool)=>.lf (x7.1,x7.2))))))))) T1) T1)
def Qk3 st v:=(Qdr st v).m
abbrev Q87 st v:=(Qdr st v).p
def Z80:Q09:=mT 163 [] true [.agg Q06.sig,.one (.int .i64)] [] (λa r=>Qdr (Q06.of (aC a 0)) (argI a 1)) (λX=>.tup [.int .u32 (X.1),.bool (X.2)]) (λX=>[])
theorem Z6a:Q05 pG Z80:=oT (.cons Qf4 (.cons Qli (.cons Qlk (.nil)))) Tryz.func163 Tryz.call163 [] [] 2

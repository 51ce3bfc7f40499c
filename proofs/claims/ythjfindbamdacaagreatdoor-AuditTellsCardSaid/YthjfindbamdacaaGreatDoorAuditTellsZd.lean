import Derived.Test.YthjfindbamdacaaGreatDoorAuditTellsYz
open UInt8 renaming toNat->eV,ofNat->eW
open List renaming take->cZ,drop->dA,length->dJ,getD->aK
open Int renaming toNat->dE,tdiv->eT
open Nat renaming lt_succ_self->cO,beq->bT,blt->bJ
set_option maxRecDepth 100000
set_option linter.all false
namespace Go.Proofs.YthjfindbamdacaaGreatDoor
open Go Go.GD Go.IntKind
noncomputable section
instance R9 {α β:Type} [Inhabited β]:Inhabited (α⊕β):=⟨.inr default⟩
def Z0g(src:List UInt8)(z:(Int)×(Int)×(List (List UInt8))):Nat:=(src.length-z.2.1).toNat
def NS(src:List UInt8):Tree (List (List UInt8)):=
.lp inferInstance (Z0g src (0,0,[])+1) ((rE (src:List UInt8)/\True/\rE (0:Int)/\rE (0:Int)/\True)/\rE ([]:List (RK.T RK.str))/\True) (0,0,[]) λ(v0:Int×Int×List (List UInt8))=>let E1:=decide (16*(v0.2.2.length+1)<=140737488355328);.br (decide (v0.2.1<(src.length:Int))) (.cn (decide (0<=v0.2.1/\v0.2.1<(src.length:Int))) (.br ((↑(eV (src.getD v0.2.1.toNat (0:UInt8))):Int)==(10:Int)) (.cn (decide (0<=v0.1/\v0.1<=v0.2.1/\v0.2.1<=(src.length:Int))) (.cn E1 (.nx ((rE (src:List UInt8)/\True/\rE ((wrap i64 (v0.2.1+1)):Int)/\rE ((wrap i64 (v0.2.1+1)):Int)/\True)/\rE ((v0.2.2++[cZ (dE v0.2.1-dE v0.1) (dA v0.1.toNat src)]):List (RK.T RK.str))/\True) (Sum.inl (wrap i64 (v0.2.1+1),wrap i64 (v0.2.1+1),v0.2.2++[cZ (dE v0.2.1-dE v0.1) (dA v0.1.toNat src)]))))) (.nx ((rE (src:List UInt8)/\True/\rE v0.1/\rE ((wrap i64 (v0.2.1+1)):Int)/\True)/\rE v0.2.2/\True) (Sum.inl (v0.1,wrap i64 (v0.2.1+1),v0.2.2))))) (.br (decide (v0.1<(src.length:Int))) (.cn (decide (0<=v0.1/\v0.1<=(src.length:Int)/\(src.length:Int)<=(src.length:Int))) (.cn E1 (.lf (Sum.inr (v0.2.2++[cZ (dE (src.length:Int)-dE v0.1) (dA v0.1.toNat src)]))))) (.lf (Sum.inr v0.2.2)))
def Qyg src:=(NS src).m
abbrev Qk2 src:=(NS src).p
def Zdy:bm:={
 α:=(Int)×(Int)×(List (List UInt8))
 F:=λst a=>([(0,(lk st 0)),(3,.all 0),(4,.int i64 a.1),(5,.int i64 a.2.1)],[⟨false,9,1,.ba RK.str a.2.2⟩])
 a0:=λst=>((lk st 4).toInt,(lk st 5).toInt,(Ea RK.str st.rows (rN st 3)))
 iy:=λst=>[]++[(rX st 3 0)]}
def Z5c:List (Nat×bm):=[(4,Zdy)]
def Zil:bb:=mT 151 [] true [.one (.str)] [] (λa r=>NS (gh a 0)) (λX=>.all 0) (λX=>[⟨false,9,1,.ba .str X⟩])
theorem Zdc:bj pG Zil:=oT (.nil) Tryz.func151 Tryz.call151 [.row 9 1 (.ba .str)] Z5c 3
def Qv5(c:Int):Tree Bool:=
.br (decide (c>=97)) (.lf (decide (c<=122))) (.lf false)
def VC c:=(Qv5 c).m
def Ze5:bb:=mS 287 [] true [.one (.int .u8)] [] (λa r=>Qv5 (av a 0)) (λX=>.bool X) (λX=>[])
theorem Qro:bj pG Ze5:=oS (.nil) Tryz.func287 Tryz.call287 [] [] 2
def Qz6(c:Int):Tree Bool:=
.br (decide (c>=48)) (.lf (decide (c<=57))) (.lf false)
def M6 c:=(Qz6 c).m
def Zfh:bb:=mS 288 [] true [.one (.int .u8)] [] (λa r=>Qz6 (av a 0)) (λX=>.bool X) (λX=>[])
theorem Quj:bj pG Zfh:=oS (.nil) Tryz.func288 Tryz.call288 [] [] 2
def Qxy(s:List UInt8)(z:(Bool)×(Int)×(List lI)):Nat:=(s.length-z.2.1).toNat
def Qxr(s:List UInt8)(v0:Bool×Int×List lI)(z:(Int)):Nat:=(s.length-z).toNat
def Qye(s:List UInt8)(v0:Bool×Int×List lI)(z:(Int)):Nat:=(s.length-z).toNat
def NT(s:List UInt8):Tree ((List lI)×Bool):=
.lp inferInstance (Qxy s (true,0,[])+1) ((rE (s:List UInt8)/\True/\rE (true:Bool)/\rE (0:Int)/\True)/\rE ([]:List (RK.T RK.ax))/\True) (true,0,[]) λ(v0:Bool×Int×List lI)=>.br (decide (v0.2.1<(s.length:Int))) (.cn (decide (0<=v0.2.1/\v0.2.1<(s.length:Int))) (let E7:=(↑(eV (s.getD v0.2.1.toNat (0:UInt8))):Int);.br (E7==(32:Int)) (.nx ((rE (s:List UInt8)/\True/\rE (true:Bool)/\rE ((wrap i64 (v0.2.1+1)):Int)/\True)/\rE v0.2.2/\True) (Sum.inl (true,wrap i64 (v0.2.1+1),v0.2.2))) (.lv (VC E7) λ(x0:Bool)=>let me:=decide (32*(v0.2.2.length+1)<=140737488355328);let BJ:=dA v0.2.1.toNat s;.br x0 (.lp inferInstance (Qxr s v0 v0.2.1+1) ((rE (s:List UInt8)/\True/\rE v0.1/\rE v0.2.1/\rE v0.2.1/\True)/\rE v0.2.2/\True) v0.2.1 λ(v1:Int)=>let T3:Tree ((Int)⊕((Bool×Int×List lI)⊕(((List lI)×Bool)))):=.cn (decide (0<=v0.2.1/\v0.2.1<=v1/\v1<=(s.length:Int))) (.cn me (.nx ((rE (s:List UInt8)/\True/\rE (false:Bool)/\rE (v1:Int)/\True)/\rE ((v0.2.2++[{kind:=1,text:=cZ (dE v1-dE v0.2.1) (dA v0.2.1.toNat s),Ar:=v0.1}]):List (RK.T RK.ax))/\True) (Sum.inr (Sum.inl (false,v1,v0.2.2++[{kind:=1,text:=cZ (dE v1-dE v0.2.1) BJ,Ar:=v0.1}])))));.br (decide (v1<(s.length:Int))) (let nZ:=decide (0<=v1/\v1<(s.length:Int));.cn nZ (let E8:=(↑(eV (s.getD v1.toNat (0:UInt8))):Int);.lv (VC E8) λ(x1:Bool)=>let T5:Tree ((Int)⊕((Bool×Int×List lI)⊕(((List lI)×Bool)))):=.nx ((rE (s:List UInt8)/\True/\rE v0.1/\rE ((wrap i64 (v1+1)):Int)/\rE v0.2.1/\True)/\rE v0.2.2/\True) (Sum.inl (wrap i64 (v1+1)));.br x1 T5 (.cn nZ (.lv (M6 E8) λ(x2:Bool)=>.br x2 T5 (.cn nZ (.br (E8==(95:Int)) T5 T3)))))) T3) (.lv (M6 E7) λ(x3:Bool)=>let T2:Tree ((Bool×Int×List lI)⊕(((List lI)×Bool))):=.lp inferInstance (Qye s v0 (wrap i64 (v0.2.1+1))+1) ((rE (s:List UInt8)/\True/\rE v0.1/\rE ((wrap i64 (v0.2.1+1)):Int)/\rE v0.2.1/\True)/\rE v0.2.2/\True) (wrap i64 (v0.2.1+1)) λ(v1:Int)=>let T4:Tree ((Int)⊕((Bool×Int×List lI)⊕(((List lI)×Bool)))):=.cn (decide (0<=v0.2.1/\v0.2.1<=v1/\v1<=(s.length:Int))) (.cn me (.nx ((rE (s:List UInt8)/\True/\rE (false:Bool)/\rE (v1:Int)/\True)/\rE ((v0.2.2++[{kind:=2,text:=cZ (dE v1-dE v0.2.1) (dA v0.2.1.toNat s),Ar:=v0.1}]):List (RK.T RK.ax))/\True) (Sum.inr (Sum.inl (false,v1,v0.2.2++[{kind:=2,text:=cZ (dE v1-dE v0.2.1) BJ,Ar:=v0.1}])))));.br (decide (v1<(s.length:Int))) (let o7:=decide (0<=v1/\v1<(s.length:Int));.cn o7 (let E9:=(↑(eV (s.getD v1.toNat (0:UInt8))):Int);.lv (VC E9) λ(x4:Bool)=>let T6:Tree ((Int)⊕((Bool×Int×List lI)⊕(((List lI)×Bool)))):=.nx ((rE (s:List UInt8)/\True/\rE v0.1/\rE ((wrap i64 (v1+1)):Int)/\rE v0.2.1/\True)/\rE v0.2.2/\True) (Sum.inl (wrap i64 (v1+1)));.br x4 T6 (.cn o7 (.lv (M6 E9) λ(x5:Bool)=>.br x5 T6 (.cn o7 (.br (E9==(95:Int)) T6 T4)))))) T4;.br x3 T2 (.br (E7==(45:Int)) T2 (let T1:Tree ((Bool×Int×List lI)⊕(((List lI)×Bool))):=.cn (decide (0<=v0.2.1/\v0.2.1<=wrap i64 (v0.2.1+1)/\wrap i64 (v0.2.1+1)<=(s.length:Int))) (.cn me (.nx ((rE (s:List UInt8)/\True/\rE (false:Bool)/\rE ((wrap i64 (v0.2.1+1)):Int)/\True)/\rE ((v0.2.2++[{kind:=3,text:=cZ (dE (wrap i64 (v0.2.1+1))-dE v0.2.1) (dA v0.2.1.toNat s),Ar:=v0.1}]):List (RK.T RK.ax))/\True) (Sum.inl (false,wrap i64 (v0.2.1+1),v0.2.2++[{kind:=3,text:=cZ (dE (wrap i64 (v0.2.1+1))-dE v0.2.1) BJ,Ar:=v0.1}]))));.br (E7==(44:Int)) T1 (.br (E7==(58:Int)) T1 (.br (E7==(40:Int)) T1 (.br (E7==(41:Int)) T1 (.br (E7==(46:Int)) T1 (.lf (Sum.inr ([],false))))))))))))) (.lf (Sum.inr (v0.2.2,true)))
def Z3t s:=(NT s).m
abbrev Qi7 s:=(NT s).p
def Z66:bm:={
 α:=(Bool)×(Int)×(List lI)
 F:=λst a=>([(0,(lk st 0)),(4,.all 0),(5,.bool a.1),(6,.int i64 a.2.1)],[⟨false,303,3,.ba RK.ax a.2.2⟩])
 a0:=λst=>((lk st 5).toBool,(lk st 6).toInt,(Ea RK.ax st.rows (rN st 4)))
 iy:=λst=>[]++[(rX st 4 0)]}
def Z7c:bm:={
 α:=(Int)
 F:=λst a=>([(0,(lk st 0)),(4,.all 0),(5,(lk st 5)),(6,.int i64 a),(8,(lk st 8))],[⟨false,303,3,nH st.rows (rN st 4)⟩])
 a0:=λst=>(lk st 6).toInt
 iy:=λst=>[]++[(rX st 4 0)]}
def Z69:bm:={
 α:=(Int)
 F:=λst a=>([(0,(lk st 0)),(4,.all 0),(5,(lk st 5)),(6,.int i64 a),(8,(lk st 8))],[⟨false,303,3,nH st.rows (rN st 4)⟩])
 a0:=λst=>(lk st 6).toInt
 iy:=λst=>[]++[(rX st 4 0)]}
def Z08:List (Nat×bm):=[(4,Z66),(12,Z7c),(17,Z69)]
def Zc3:bb:=mT 231 [] true [.one (.str)] [] (λa r=>NT (gh a 0)) (λX=>.dt [.all 0,.bool (X.2)]) (λX=>[⟨false,303,3,.ba .ax (X.1)⟩])
theorem Z7t:bj pG Zc3:=oT (.cons Qro (.cons Quj (.nil))) Tryz.func231 Tryz.call231 [.row 303 3 (.ba .ax)] Z08 3
 def FK (p:Int->Prop) (r:Int->List UInt8) (n:Int):Tree (List UInt8):=
 .br (decide (n<(10:Int))) (.lf ([(λ(n:Int)=>eW n.toNat) (wrap u8 (wrap u64 ((48:Int)+n)))])) (.an (p (wrap u64 (eT n (10:Int)))) (.lv (r (wrap u64 (eT n (10:Int)))) λ(x0:List UInt8)=>.cn (decide (x0.length+dJ [(λ(n:Int)=>eW n.toNat) (wrap u8 (wrap u64 ((48:Int)+Int.tmod n (10:Int))))]<=maxLen)) (.lf (x0++[(λ(n:Int)=>eW n.toNat) (wrap u8 (wrap u64 ((48:Int)+Int.tmod n (10:Int))))]))))
 def rH:Nat->Int->List UInt8
  |0,_=>[]
  |k+1,n=>(FK (λ_=>True) (rH k) n).m
 def Ks (k:Nat) (n:Int):Prop:=0<=n/\n<10^k/\n<18446744073709551616/\0<k/\k<=30
 def Jaj (k:Nat):bb:=mU 225 [] true [.one (.int .u64)] [] (λargs rows=>Ks k (av args 0)) (λargs rows=>rH k (av args 0)) (λX=>.str X) (λX=>[])
 theorem oP:∀k n,(rH k n).length<=k
  |0,_=>Nat.le_refl _
  |k+1,n=>by
   show(bif decide (n<10)then _ else dk (rH k _) λx0=>x0++_).length<=k+1
   have:=oP k (wrap u64 (eT n 10))
   cases decide (n<10)
   ·simp[dk,Tree.m];omega
   ·simp[Tree.m]
 theorem Al:∀k,bj pG (Jaj k)
  |0=>MZ Tryz.call225 (λargs rows h=>absurd h.2.2.2.1 (Nat.lt_irrefl 0)) (λ_ X=>by kernel_rfl)
  |k + 1=>by
   refine wv drawn nj (.cons (Al k) .nil) Tryz.func225 Tryz.call225 (λargs rows=>FK (Ks k) (rH k) (av args 0)) [] [] 2 (λ_ _ _=>by kernel_rfl) (λ_ _=>rfl) (λargs rows h=>?_) (λ_ X=>by kernel_rfl)
   obtain⟨h0,h1,h2,h3,h4⟩:=h
   generalize av args 0=n at*
   refine ab (λ_=>trivial) (λhn=>?_)
   have hn:=oN hn
   have e:wrap u64 (eT n 10)=n/10:=by rw[wrap_u64,Int.tdiv_eq_ediv_of_nonneg h0];omega
   refine cu (show Ks k _ from ?_) (au λx hx=>ar (dY ?_) trivial)
   ·rw[e]
    rw[Int.pow_succ]at h1
    have hk:0<k:=by
     rcases Nat.eq_zero_or_pos k with rfl|h
     ·simp at h1;omega
     ·exact h
    exact⟨by omega,by omega,by omega,hk,by omega⟩
   ·have:=oP k (wrap u64 (eT n 10))
    rw[<-hx]at this
    simp[maxLen];omega
def M7(n:Int):(List UInt8):=
rH 20 n
def Fp(n:Int):Prop:=
0<=n/\n<18446744073709551616
def Qmz(n:Int):List D:=[.int .u64 n]
def Qnf(n:Int):List Row:=[]
def Qgx(X:List UInt8):D:=.str X
def Qhw(X:List UInt8):List Row:=[]
def Qof:List PT:=[.one (.int .u64)]
def Qne:List RT:=[]
def Z5f(args:List D)(rows:List Row):(List UInt8):=M7 (av args 0)
def Z3a(args:List D)(rows:List Row):Prop:=Fp (av args 0)
def Zdg:bb:=mU 225 [] true Qof Qne Z3a Z5f Qgx Qhw
theorem Qxj(n:Int)(hw:Fp n):kq pG 225 (Qmz n) (Qnf n) (Qgx (M7 n)) (Qhw (M7 n)):=by
 have Yp:(18446744073709551616:Int)<=10^20:=by decide
 exact yz (args:=[.int .u64 n]) (rows:=[]) (Al 20) (by kernel_rfl) ⟨hw.1,Int.lt_of_lt_of_le hw.2 Yp,hw.2,by decide,by decide⟩
set_option maxRecDepth 100000 in
theorem Z06(args:List D)(rows:List Row):mq Qof args 0=Qmz (av args 0):=by kernel_rfl
set_option maxRecDepth 100000 in
theorem Qwr(args:List D)(rows:List Row):lG Qne rows 0=Qnf (av args 0):=by kernel_rfl
set_option maxRecDepth 100000 in
theorem Z7b(X:List UInt8):(wu (Qgx X)&&jP (Qhw X))=true:=by kernel_rfl
theorem Z5v:bj pG Zdg:=MZ Tryz.call225 (λargs rows hp=>by rw[Z06 args rows,Qwr args rows];exact Qxj (av args 0) hp) (λ_ X=>Z7b X)
def Fq(n:Int):Tree (List UInt8):=
.br (decide (n<0)) (let E1:=wrap u64 (wrap u64 (wrap i64 (0-wrap i64 (n+1)))+1);.an (Fp E1) (.lv (M7 E1) λ(x0:List UInt8)=>.cn (decide (1+x0.length<=maxLen)) (.lf ((45:UInt8)::x0)))) (.an (Fp (wrap u64 n)) (.lv (M7 (wrap u64 n)) λ(x1:List UInt8)=>.lf x1))
def Qjl n:=(Fq n).m
abbrev WX n:=(Fq n).p
def Z7s:bb:=mT 148 [] true [.one (.int .i64)] [] (λa r=>Fq (av a 0)) (λX=>.str X) (λX=>[])
theorem Qoi:bj pG Z7s:=oT (.cons Z5v (.nil)) Tryz.func148 Tryz.call148 [] [] 2
def IW(r:Int):Tree (List UInt8):=
.an (WX r) (.lv (Qjl r) λ(x0:List UInt8)=>.cn (decide (1+x0.length<=maxLen)) (.lf ((114:UInt8)::x0)))
def Zno r:=(IW r).m
abbrev Qpt r:=(IW r).p
def Zpl:bb:=mT 309 [] true [.one (.int .i64)] [] (λa r=>IW (av a 0)) (λX=>.str X) (λX=>[])
theorem Zlt:bj pG Zpl:=oT (.cons Qoi (.nil)) Tryz.func309 Tryz.call309 [] [] 2
def Qr6(s:List UInt8)(z:(Int)):Prop:=0<=z/\z<=16
def Qek(s:List UInt8)(z:(Int)):Nat:=(16-z).toNat
def VD(s:List UInt8):Tree (Int×Bool):=
.lp inferInstance (Qek s 0+1) ((rE (s:List UInt8)/\rE (0:Int)/\True)/\True) 0 λ(v0:Int)=>.br (decide (v0<16)) (.an (Qpt v0) (.lv (Zno v0) λ(x0:List UInt8)=>.br (decide (s=x0)) (.lf (Sum.inr (v0,true))) (.nx ((rE (s:List UInt8)/\rE ((wrap i64 (v0+1)):Int)/\True)/\True) (Sum.inl (wrap i64 (v0+1)))))) (.lf (Sum.inr (0,false)))
def Qic s:=(VD s).m
theorem Qsv(s:List UInt8):(VD s).p:=by
 unfold Tree.p VD
 have dp:∀x,Fp (wrap .u64 x):=λx=>by unfold Fp;rw[wrap_u64];omega
 have dl:∀x,(M7 x).length<=20:=λx=>oP 20 x
 have hd:∀x,(Fq x).w (λr=>r.length<=21):=λx=>by
  unfold Fq
  refine ab (λ_=>cu (dp _) (au λx0 h0=>ar (dY ?_) ?_)) (λ_=>cu (dp _) (au λx1 h1=>?_))
  ·have:=dl (wrap .u64 (wrap .u64 (wrap .i64 (0-wrap .i64 (x+1)))+1));rw[<-h0]at this;simp[maxLen];omega
  ·have:=dl (wrap .u64 (wrap .u64 (wrap .i64 (0-wrap .i64 (x+1)))+1));rw[<-h0]at this;show(_::x0).length<=21;simp;omega
  ·rw[h1];exact Nat.le_trans (dl _) (by decide)
 have hr:∀x,(IW x).p:=λx=>by
  unfold Tree.p IW
  refine cu (Tree.pp (hd x)).1 (au λx0 h0=>ar (dY ?_) trivial)
  have:(Qjl x).length<=21:=(Tree.pp (hd x)).2
  rw[<-h0]at this;simp[maxLen];omega
 refine ej (inv:=Qr6 s) (μ:=Qek s) ⟨by decide,by decide⟩ (cO _) (λz hz=>?_)
 obtain⟨z1,z2⟩:=hz
 refine ab (λhb=>cu (hr _) (au λx0 _=>ab (λ_=>trivial) (λ_=>dm ?_))) (λ_=>trivial)
 have hb:=oY hb
 show(0<=i64.wrap (z+1)/\i64.wrap (z+1)<=16)/\(16-i64.wrap (z+1)).toNat<(16-z).toNat
 rw[wrap_i64];omega
def Qvo:bm:={
 α:=(Int)
 F:=λst a=>([(0,(lk st 0)),(4,.int i64 a)],[])
 a0:=λst=>(lk st 4).toInt
 iy:=λst=>[]++[]}
def Qr0:List (Nat×bm):=[(2,Qvo)]
def Qy0:bb:=mS 289 [] true [.one (.str)] [] (λa r=>VD (gh a 0)) (λX=>.dt [.int .i64 (X.1),.bool (X.2)]) (λX=>[])
theorem Qj9:bj pG Qy0:=oS (.cons Zlt (.nil)) Tryz.func289 Tryz.call289 [] Qr0 3 (λ_ _ _=>by kernel_rfl) (λa r=>Qsv (gh a 0)) (λ_ X=>by kernel_rfl)
def Qh(s:List UInt8):Tree Bool:=
.lv (Qic s) λ(x0:Int×Bool)=>.br (decide ((s.length:Int)>=(1:Int))) (.br (decide ((s.length:Int)<=(12:Int))) (.cn (decide ((0:Int)<=(0:Int)/\0<(s.length:Int))) (.lv (VC (↑(eV (s.getD (dE 0) (0:UInt8))):Int)) λ(x1:Bool)=>.br x1 (.lf (!x0.2)) (.lf false))) (.lf false)) (.lf false)
def Z4z s:=(Qh s).m
abbrev WY s:=(Qh s).p
def Zls:bb:=mT 232 [] true [.one (.str)] [] (λa r=>Qh (gh a 0)) (λX=>.bool X) (λX=>[])
theorem Qz3:bj pG Zls:=oT (.cons Qj9 (.cons Qro (.nil))) Tryz.func232 Tryz.call232 [] [] 2
def NU(op:Int):Tree (List UInt8):=
let T1:Tree ((List UInt8)):=let T3:Tree ((List UInt8)):=.br (op==48) (.lf ([(106:UInt8),97,108])) (.br (op==49) (.lf ([(106:UInt8),97,108,114])) (.br (decide (op>=56)) (.br (decide (op<=64)) (.cn (bT 1 1&&bJ 0 1&&decide (0<=wrap i64 (op-56)/\wrap i64 (op-56)<(↑9:Int))) (.lf (aK [[(101:UInt8),99,97,108,108],[(101:UInt8),114,101,116],[(99:UInt8),115,114,114],[(99:UInt8),115,114,119],[(105:UInt8),110],[(111:UInt8),117,116],[(119:UInt8),102,105],[(102:UInt8),108,117,115,104],[(104:UInt8),97,108,116]] (dE (wrap i64 (op-56))) (RK.cg RK.str)))) (.lf ([]))) (.lf ([]))));.br (decide (op>=40)) (.br (decide (op<=45)) (.cn (bT 1 1&&bJ 0 1&&decide (0<=wrap i64 (op-40)/\wrap i64 (op-40)<(↑6:Int))) (.lf (aK [[(98:UInt8),101,113],[(98:UInt8),110,101],[(98:UInt8),108,116],[(98:UInt8),103,101],[(98:UInt8),108,116,117],[(98:UInt8),103,101,117]] (dE (wrap i64 (op-40))) (RK.cg RK.str)))) T3) T3;let T2:Tree ((List UInt8)):=let T4:Tree ((List UInt8)):=.br (decide (op>=32)) (.br (decide (op<=36)) (.cn (bT 1 1&&bJ 0 1&&decide (0<=wrap i64 (op-32)/\wrap i64 (op-32)<(↑5:Int))) (.lf (aK [[(108:UInt8),119],[(108:UInt8),98],[(108:UInt8),98,117],[(115:UInt8),119],[(115:UInt8),98]] (dE (wrap i64 (op-32))) (RK.cg RK.str)))) T1) T1;.br (decide (op>=16)) (.br (decide (op<=24)) (.cn (bT 1 1&&bJ 0 1&&decide (0<=wrap i64 (op-16)/\wrap i64 (op-16)<(↑9:Int))) (.lf (aK [[(97:UInt8),100,100,105],[(97:UInt8),110,100,105],[(111:UInt8),114,105],[(120:UInt8),111,114,105],[(115:UInt8),104,108,105],[(115:UInt8),104,114,105],[(115:UInt8),97,114,105],[(115:UInt8),108,116,105],[(108:UInt8),117,105]] (dE (wrap i64 (op-16))) (RK.cg RK.str)))) T4) T4;.br (decide (op>=1)) (.br (decide (op<=13)) (.cn (bT 1 1&&bJ 0 1&&decide (0<=wrap i64 (op-1)/\wrap i64 (op-1)<(↑13:Int))) (.lf (aK [[(97:UInt8),100,100],[(115:UInt8),117,98],[(97:UInt8),110,100],[(111:UInt8),114],[(120:UInt8),111,114],[(115:UInt8),104,108],[(115:UInt8),104,114],[(115:UInt8),97,114],[(109:UInt8),117,108],[(100:UInt8),105,118],[(114:UInt8),101,109],[(115:UInt8),108,116],[(115:UInt8),108,116,117]] (dE (wrap i64 (op-1))) (RK.cg RK.str)))) T2) T2
def Qu4 op:=(NU op).m
abbrev Qd2 op:=(NU op).p
def Z1x:bb:=mT 291 [] true [.one (.int .i64)] [] (λa r=>NU (av a 0)) (λX=>.str X) (λX=>[])
theorem Z12:bj pG Z1x:=oT (.nil) Tryz.func291 Tryz.call291 [] [] 2
def Qr9(s:List UInt8)(z:(Int)):Nat:=(65-z).toNat
def NV(s:List UInt8):Tree Int:=
.lp inferInstance (Qr9 s 1+1) ((rE (s:List UInt8)/\rE (1:Int)/\True)/\True) 1 λ(v0:Int)=>.br (decide (v0<=64)) (.lv (oW v0) λ(x0:Int)=>.br (decide (x0>0)) (.an (Qd2 v0) (.lv (Qu4 v0) λ(x1:List UInt8)=>.br (decide (x1=s)) (.lf (Sum.inr v0)) (.nx ((rE (s:List UInt8)/\rE ((wrap i64 (v0+1)):Int)/\True)/\True) (Sum.inl (wrap i64 (v0+1)))))) (.nx ((rE (s:List UInt8)/\rE ((wrap i64 (v0+1)):Int)/\True)/\True) (Sum.inl (wrap i64 (v0+1))))) (.lf (Sum.inr 0))
def Q8 s:=(NV s).m
abbrev KU s:=(NV s).p
def Qx:bm:={
 α:=(Int)
 F:=λst a=>([(0,(lk st 0)),(3,.int i64 a)],[])
 a0:=λst=>(lk st 3).toInt
 iy:=λst=>[]++[]}
def Qsb:List (Nat×bm):=[(2,Qx)]
def Z0n:bb:=mT 235 [] true [.one (.str)] [] (λa r=>NV (gh a 0)) (λX=>.int .i64 X) (λX=>[])
theorem Qlk:bj pG Z0n:=oT (.cons R8 (.cons Z12 (.nil))) Tryz.func235 Tryz.call235 [] Qsb 3
def NX(ea:List UInt8):Tree ((List UInt8)×Bool):=
.an (KU ea) (.lv (Q8 ea) λ(x0:Int)=>.br (decide (ea=[(46:UInt8),119,111,114,100])) (.lf ([(120:UInt8)],true)) (.br (decide (ea=[(46:UInt8),115,112,97,99,101])) (.lf ([(110:UInt8)],true)) (.br (decide (ea=[(108:UInt8),105])) (.lf ([(114:UInt8),44,120],true)) (.br (decide (ea=[(109:UInt8),118])) (.lf ([(114:UInt8),44,114],true)) (.br (decide (ea=[(110:UInt8),111,112])) (.lf ([],true)) (.br (x0==0) (.lf ([],false)) (let T1:Tree (((List UInt8)×Bool)):=.br (x0==48) (.lf ([(114:UInt8),44,120],true)) (.lv (oW x0) λ(x1:Int)=>.br (x1==1) (.lf ([],true)) (.br (x1==2) (.lf ([(114:UInt8),44,114,44,114],true)) (.br (decide (x1>=6)) (.lf ([(114:UInt8),44,110],true)) (.lf ([(114:UInt8),44,114,44,110],true)))));let T2:Tree (((List UInt8)×Bool)):=.br (decide (x0>=40)) (.br (decide (x0<=45)) (.lf ([(114:UInt8),44,114,44,120],true)) T1) T1;.br (decide (x0>=32)) (.br (decide (x0<=36)) (.lf ([(114:UInt8),44,110,40,114,41],true)) T2) T2)))))))
def VE ea:=(NX ea).m
abbrev NW ea:=(NX ea).p
def Z6:bb:=mT 233 [] true [.one (.str)] [] (λa r=>NX (gh a 0)) (λX=>.dt [.str (X.1),.bool (X.2)]) (λX=>[])
theorem Z4x:bj pG Z6:=oT (.cons Qlk (.cons R8 (.nil))) Tryz.func233 Tryz.call233 [] [] 2
def Qxq(s:List UInt8)(z:(Int)×(Int)):Nat:=(s.length-z.2).toNat
def Qke(s:List UInt8)(z:(Int)×(Int)):Nat:=(s.length-z.2).toNat
def NY(s:List UInt8):Tree (Int×Bool):=
let E7:=decide ((0:Int)<=(0:Int)/\0<(s.length:Int));let E8:=(↑(eV (s.getD (dE 0) (0:UInt8))):Int);let T1:Tree ((Int×Bool)):=let T2:Tree ((Int×Bool)):=.br (decide (wrap i64 ((s.length:Int)-(0:Int))<1)) (.lf (0,false)) (.br (decide (wrap i64 ((s.length:Int)-(0:Int))>10)) (.lf (0,false)) (.lp inferInstance (Qke s (0,0)+1) ((rE (s:List UInt8)/\rE (0:Int)/\rE (0:Int)/\rE (0:Int)/\True)/\True) (0,0) λ(v0:Int×Int)=>.br (decide (v0.2<(s.length:Int))) (let E9:=decide (0<=v0.2/\v0.2<(s.length:Int));.cn E9 (let E5:=(↑(eV (s.getD v0.2.toNat (0:UInt8))):Int);.lv (M6 E5) λ(x2:Bool)=>.br (!x2) (.lf (Sum.inr (0,false))) (.cn E9 (.nx ((rE (s:List UInt8)/\rE (0:Int)/\rE ((wrap i64 (wrap i64 (10*v0.1)+wrap i64 (wrap u8 ((↑(eV (s.getD v0.2.toNat (0:UInt8))):Int)-(48:Int))))):Int)/\rE ((wrap i64 (v0.2+1)):Int)/\True)/\True) (Sum.inl (wrap i64 (wrap i64 (10*v0.1)+wrap i64 (wrap u8 (E5-(48:Int)))),wrap i64 (v0.2+1))))))) (.br (decide (v0.1>=(-2147483648))) (.lf (Sum.inr (v0.1,decide (v0.1<=4294967295)))) (.lf (Sum.inr (v0.1,false))))));.br (decide ((s.length:Int)>(0:Int))) (.cn E7 (.br (E8==(45:Int)) (.br (decide (wrap i64 ((s.length:Int)-(1:Int))<1)) (.lf (0,false)) (.br (decide (wrap i64 ((s.length:Int)-(1:Int))>10)) (.lf (0,false)) (.lp inferInstance (Qke s (0,1)+1) ((rE (s:List UInt8)/\rE (1:Int)/\rE (0:Int)/\rE (1:Int)/\True)/\True) (0,1) λ(v0:Int×Int)=>.br (decide (v0.2<(s.length:Int))) (let me:=decide (0<=v0.2/\v0.2<(s.length:Int));.cn me (let E6:=(↑(eV (s.getD v0.2.toNat (0:UInt8))):Int);.lv (M6 E6) λ(x1:Bool)=>.br (!x1) (.lf (Sum.inr (0,false))) (.cn me (.nx ((rE (s:List UInt8)/\rE (1:Int)/\rE ((wrap i64 (wrap i64 (10*v0.1)+wrap i64 (wrap u8 ((↑(eV (s.getD v0.2.toNat (0:UInt8))):Int)-(48:Int))))):Int)/\rE ((wrap i64 (v0.2+1)):Int)/\True)/\True) (Sum.inl (wrap i64 (wrap i64 (10*v0.1)+wrap i64 (wrap u8 (E6-(48:Int)))),wrap i64 (v0.2+1))))))) (.br (decide (wrap i64 (0-v0.1)>=(-2147483648))) (.lf (Sum.inr (wrap i64 (0-v0.1),decide (wrap i64 (0-v0.1)<=4294967295)))) (.lf (Sum.inr (wrap i64 (0-v0.1),false))))))) T2)) T2;.br (decide ((s.length:Int)>(2:Int))) (.cn E7 (.br (E8==(48:Int)) (.cn (decide ((0:Int)<=(1:Int)/\1<(s.length:Int))) (.br ((↑(eV (s.getD (dE 1) (0:UInt8))):Int)==(120:Int)) (.br (decide ((s.length:Int)>(10:Int))) (.lf (0,false)) (.lp inferInstance (Qxq s (0,2)+1) ((rE (s:List UInt8)/\rE (0:Int)/\rE (2:Int)/\True)/\True) (0,2) λ(v0:Int×Int)=>.br (decide (v0.2<(s.length:Int))) (let E4:=decide (0<=v0.2/\v0.2<(s.length:Int));.cn E4 (let E3:=(↑(eV (s.getD v0.2.toNat (0:UInt8))):Int);.lv (M6 E3) λ(x0:Bool)=>.br x0 (.cn E4 (.nx ((rE (s:List UInt8)/\rE ((wrap i64 (wrap i64 (16*v0.1)+wrap i64 (wrap u8 ((↑(eV (s.getD v0.2.toNat (0:UInt8))):Int)-(48:Int))))):Int)/\rE ((wrap i64 (v0.2+1)):Int)/\True)/\True) (Sum.inl (wrap i64 (wrap i64 (16*v0.1)+wrap i64 (wrap u8 (E3-(48:Int)))),wrap i64 (v0.2+1))))) (.cn E4 (.br (decide (E3>=(97:Int))) (.cn E4 (.br (decide (E3<=(102:Int))) (.cn E4 (.nx ((rE (s:List UInt8)/\rE ((wrap i64 (wrap i64 (wrap i64 (16*v0.1)+wrap i64 (wrap u8 ((↑(eV (s.getD v0.2.toNat (0:UInt8))):Int)-(97:Int))))+10)):Int)/\rE ((wrap i64 (v0.2+1)):Int)/\True)/\True) (Sum.inl (wrap i64 (wrap i64 (wrap i64 (16*v0.1)+wrap i64 (wrap u8 (E3-(97:Int))))+10),wrap i64 (v0.2+1))))) (.lf (Sum.inr (0,false))))) (.lf (Sum.inr (0,false))))))) (.lf (Sum.inr (v0.1,true))))) T1)) T1)) T1
def Z4i s:=(NY s).m
abbrev Qh1 s:=(NY s).p
def Z74:bm:={
 α:=(Int)×(Int)
 F:=λst a=>([(0,(lk st 0)),(4,.int i64 a.1),(5,.int i64 a.2)],[])
 a0:=λst=>((lk st 4).toInt,(lk st 5).toInt)
 iy:=λst=>[]++[]}
def Z7d:bm:={
 α:=(Int)×(Int)
 F:=λst a=>([(0,(lk st 0)),(6,(lk st 6)),(7,.int i64 a.1),(8,.int i64 a.2)],[])
 a0:=λst=>((lk st 7).toInt,(lk st 8).toInt)
 iy:=λst=>[]++[]}
def Z05:List (Nat×bm):=[(6,Z74),(21,Z7d)]
def Zam:bb:=mT 290 [] true [.one (.str)] [] (λa r=>NY (gh a 0)) (λX=>.dt [.int .i64 (X.1),.bool (X.2)]) (λX=>[])
theorem Z72:bj pG Zam:=oT (.cons Quj (.nil)) Tryz.func290 Tryz.call290 [] Z05 3
def Qtj(l:List lI)(p:List UInt8)(z:(Int)×(List nD)):Nat:=(l.length-z.1).toNat
def N0(l:List lI)(p:List UInt8):Tree ((List nD)×Bool):=
.br ((l.length:Int) !=(p.length:Int)) (.lf ([],false)) (.lp inferInstance (Qtj l p (0,[])+1) ((nR RK.ax 3 l/\rE (p:List UInt8)/\True/\rE (0:Int)/\True)/\rE ([]:List (RK.T RK.ay))/\True) (0,[]) λ(v0:Int×List nD)=>.br (decide (v0.1<(l.length:Int))) (.cn (bT 3 3&&bJ 0 3&&decide (0<=v0.1/\v0.1<(l.length:Int))) (let E6:=decide (0<=v0.1/\v0.1<(p.length:Int));.cn E6 (let E3:=l.getD v0.1.toNat (RK.cg RK.ax);let E4:=(↑(eV (p.getD v0.1.toNat (0:UInt8))):Int);let E5:=decide (32*(v0.2.length+1)<=140737488355328);.br (E4==(114:Int)) (.lv (Qic E3.text) λ(x0:Int×Bool)=>.br (E3.kind !=1) (.lf (Sum.inr ([],false))) (.br (!x0.2) (.lf (Sum.inr ([],false))) (.cn E5 (.nx ((nR RK.ax 3 l/\rE (p:List UInt8)/\True/\rE ((wrap i64 (v0.1+1)):Int)/\True)/\rE ((v0.2++[{kJ:=x0.1,num:=0,label:=[]}]):List (RK.T RK.ay))/\True) (Sum.inl (wrap i64 (v0.1+1),v0.2++[{kJ:=x0.1,num:=0,label:=[]}])))))) (let T1:Tree ((Int×List nD)⊕(((List nD)×Bool))):=.an (Qh1 E3.text) (.lv (Z4i E3.text) λ(x2:Int×Bool)=>.br (E3.kind !=2) (.lf (Sum.inr ([],false))) (.br (!x2.2) (.lf (Sum.inr ([],false))) (.cn E5 (.nx ((nR RK.ax 3 l/\rE (p:List UInt8)/\True/\rE ((wrap i64 (v0.1+1)):Int)/\True)/\rE ((v0.2++[{kJ:=0,num:=x2.1,label:=[]}]):List (RK.T RK.ay))/\True) (Sum.inl (wrap i64 (v0.1+1),v0.2++[{kJ:=0,num:=x2.1,label:=[]}]))))));let T2:Tree ((Int×List nD)⊕(((List nD)×Bool))):=.cn E6 (.br (E4==(120:Int)) (.br (E3.kind==1) (.an (WY E3.text) (.lv (Z4z E3.text) λ(x1:Bool)=>.br x1 (.cn E5 (.nx ((nR RK.ax 3 l/\rE (p:List UInt8)/\True/\rE ((wrap i64 (v0.1+1)):Int)/\True)/\rE ((v0.2++[{kJ:=0,num:=0,label:=(l.getD v0.1.toNat (RK.cg RK.ax)).text}]):List (RK.T RK.ay))/\True) (Sum.inl (wrap i64 (v0.1+1),v0.2++[{kJ:=0,num:=0,label:=E3.text}])))) T1)) T1) T1);.br (E4==(110:Int)) T2 (.br (E4==(120:Int)) T2 (.br (E3.kind !=3) (.lf (Sum.inr ([],false))) (.cn (decide (0<=v0.1/\v0.1<=wrap i64 (v0.1+1)/\wrap i64 (v0.1+1)<=(p.length:Int))) (.br (!decide (E3.text=cZ (dE (wrap i64 (v0.1+1))-dE v0.1) (dA v0.1.toNat p))) (.lf (Sum.inr ([],false))) (.nx ((nR RK.ax 3 l/\rE (p:List UInt8)/\True/\rE ((wrap i64 (v0.1+1)):Int)/\True)/\rE v0.2/\True) (Sum.inl (wrap i64 (v0.1+1),v0.2))))))))))) (.lf (Sum.inr (v0.2,true))))
def VF l p:=(N0 l p).m
abbrev NZ l p:=(N0 l p).p
def Z29:bm:={
 α:=(Int)×(List nD)
 F:=λst a=>([(0,(lk st 0)),(1,(lk st 1)),(6,.all 0),(7,.int i64 a.1)],[⟨false,177,3,.ba RK.ay a.2⟩])
 a0:=λst=>((lk st 7).toInt,(Ea RK.ay st.rows (rN st 6)))
 iy:=λst=>[]++[(rX st 6 0)]}
def Qxi:List (Nat×bm):=[(5,Z29)]
def Z6c:bb:=mT 234 [] true [.one (.ba .ax),.one (.str)] [] (λa r=>N0 (ie .ax a 0) (gh a 1)) (λX=>.dt [.all 0,.bool (X.2)]) (λX=>[⟨false,177,3,.ba .ay (X.1)⟩])
theorem Z2t:bj pG Z6c:=oT (.cons Qj9 (.cons Qz3 (.cons Z72 (.nil)))) Tryz.func234 Tryz.call234 [.row 177 3 (.ba .ay)] Qxi 3
def Qy8(s:List UInt8)(z:(List UInt8)×(Int)):Nat:=(s.length-z.2).toNat
def N1(s:List UInt8):Tree ((List UInt8)×kC×Bool):=
.lp inferInstance (Qy8 s (s,0)+1) ((rE (s:List UInt8)/\rE ([]:List UInt8)/\rZ/\rE (false:Bool)/\rE (0:Int)/\True)/\(rE ([]:List UInt8)/\rE (0:Int)/\True/\rE (0:Int)/\rE (0:Int)/\rE (0:Int)/\True)/\True) (s,0) λ(v0:List UInt8×Int)=>.br (decide (v0.2<(v0.1.length:Int))) (.cn (decide (0<=v0.2/\v0.2<(v0.1.length:Int))) (.br ((↑(eV (v0.1.getD v0.2.toNat (0:UInt8))):Int)==(59:Int)) (.cn (decide ((0:Int)<=(0:Int)/\0<=v0.2/\v0.2<=(v0.1.length:Int))) (.nx ((rE ((cZ (dE v0.2-dE 0) (dA (dE 0) v0.1)):List UInt8)/\rE ([]:List UInt8)/\rZ/\rE (false:Bool)/\rE ((wrap i64 (v0.2+1)):Int)/\True)/\(rE ([]:List UInt8)/\rE (0:Int)/\True/\rE (0:Int)/\rE (0:Int)/\rE (0:Int)/\True)/\True) (Sum.inl (cZ (dE v0.2-dE 0) (dA (dE 0) v0.1),wrap i64 (v0.2+1))))) (.nx ((rE v0.1/\rE ([]:List UInt8)/\rZ/\rE (false:Bool)/\rE ((wrap i64 (v0.2+1)):Int)/\True)/\(rE ([]:List UInt8)/\rE (0:Int)/\True/\rE (0:Int)/\rE (0:Int)/\rE (0:Int)/\True)/\True) (Sum.inl (v0.1,wrap i64 (v0.2+1)))))) (.an (Qi7 v0.1) (.lv (Z3t v0.1) λ(x0:List lI×Bool)=>.br (!x0.2) (.lf (Sum.inr ([],{ea:=[],op:=0,l:=[],D5:=0,at_:=0,size:=0},false))) (let E9:=x0.1.getD (dE 0) (RK.cg RK.ax);let T1:Tree ((List UInt8×Int)⊕(((List UInt8)×kC×Bool))):=.an (NW E9.text) (.lv (VE E9.text) λ(O6:List UInt8×Bool)=>.br (!O6.2) (.lf (Sum.inr ([],{ea:=[],op:=0,l:=[],D5:=0,at_:=0,size:=0},false))) (let E20:=dE (x0.1.length:Int)-dE 1;let T6:Tree ((List UInt8×Int)⊕(((List UInt8)×kC×Bool))):=let E31:=cZ E20 (dA (dE 1) x0.1);.an (NZ E31 O6.1) (.lv (VF E31 O6.1) λ(Hg:List nD×Bool)=>.br (!Hg.2) (.lf (Sum.inr ([],{ea:=[],op:=0,l:=[],D5:=0,at_:=0,size:=0},false))) (.an (KU E9.text) (.lv (Q8 E9.text) λ(O7:Int)=>.br (decide (E9.text=[(108:UInt8),105])) (.lf (Sum.inr ([],{ea:=E9.text,op:=O7,l:=Hg.1,D5:=0,at_:=0,size:=2},true))) (.br (decide (E9.text=[(46:UInt8),115,112,97,99,101])) (let BJ:=bT 3 3&&bJ 0 3&&decide ((0:Int)<=(0:Int)/\0<(Hg.1.length:Int));.cn BJ (let E21:=Hg.1.getD (dE 0) (RK.cg RK.ay);.br (decide (E21.num<0)) (.lf (Sum.inr ([],{ea:=[],op:=0,l:=[],D5:=0,at_:=0,size:=0},false))) (.cn BJ (.br (decide (E21.num>1024)) (.lf (Sum.inr ([],{ea:=[],op:=0,l:=[],D5:=0,at_:=0,size:=0},false))) (.cn BJ (.lf (Sum.inr ([],{ea:=E9.text,op:=O7,l:=Hg.1,D5:=0,at_:=0,size:=E21.num},true)))))))) (.lf (Sum.inr ([],{ea:=E9.text,op:=O7,l:=Hg.1,D5:=0,at_:=0,size:=1},true)))))));.br (decide ((↑E20:Int)>(0:Int))) (.cn (bT 3 3&&bJ 0 3&&decide ((0:Int)<=(0:Int)/\0<(↑E20:Int))) (.br (!(x0.1.getD (dE 1+dE 0) (RK.cg RK.ax)).Ar) (.lf (Sum.inr ([],{ea:=[],op:=0,l:=[],D5:=0,at_:=0,size:=0},false))) T6)) T6));let E25:=dE (x0.1.length:Int)-dE 2;let E8:=(↑E25:Int);let me:=x0.1.getD (dE 2+dE 0) (RK.cg RK.ax);let o7:=x0.1.getD (dE 1) (RK.cg RK.ax);let E16:=bT 3 3&&bJ 0 3&&decide ((0:Int)<=(0:Int)/\0<(x0.1.length:Int));let E17:=bT 3 3&&bJ 0 3&&decide ((0:Int)<=(1:Int)/\1<(x0.1.length:Int));let E19:=bT 3 3&&bJ 0 3&&decide ((0:Int)<=(2:Int)/\2<=(x0.1.length:Int)/\(x0.1.length:Int)<=(x0.1.length:Int));let E28:=bT 3 3&&bJ 0 3&&decide ((0:Int)<=(0:Int)/\0<E8);let E30:=decide ((x0.1.length:Int)>=(2:Int));let T3:Tree ((List UInt8×Int)⊕(((List UInt8)×kC×Bool))):=.br ((x0.1.length:Int)==(0:Int)) (.lf (Sum.inr ([],{ea:=[],op:=0,l:=[],D5:=0,at_:=0,size:=0},true))) (.cn E16 (.cn (bT 3 3&&bJ 0 3&&decide ((0:Int)<=(1:Int)/\1<=(x0.1.length:Int)/\(x0.1.length:Int)<=(x0.1.length:Int))) (.br (decide (E9.text=[(46:UInt8)])) (.br E30 (.cn E17 (.br (!o7.Ar) (.cn E17 (.cn (decide (1+dJ o7.text<=maxLen)) (.cn E19 (.an (NW ((46:UInt8)::o7.text)) (.lv (VE ([(46:UInt8)]++o7.text)) λ(pB:List UInt8×Bool)=>.br (!pB.2) (.lf (Sum.inr ([],{ea:=[],op:=0,l:=[],D5:=0,at_:=0,size:=0},false))) (let T7:Tree ((List UInt8×Int)⊕(((List UInt8)×kC×Bool))):=let E32:=cZ E25 (dA (dE 2) x0.1);.an (NZ E32 pB.1) (.lv (VF E32 pB.1) λ(tQ:List nD×Bool)=>.br (!tQ.2) (.lf (Sum.inr ([],{ea:=[],op:=0,l:=[],D5:=0,at_:=0,size:=0},false))) (.an (KU ((46:UInt8)::o7.text)) (.lv (Q8 ([(46:UInt8)]++o7.text)) λ(AV:Int)=>.br (decide ([(46:UInt8)]++o7.text=[(46:UInt8),115,112,97,99,101])) (let Ic:=bT 3 3&&bJ 0 3&&decide ((0:Int)<=(0:Int)/\0<(tQ.1.length:Int));.cn Ic (let E22:=tQ.1.getD (dE 0) (RK.cg RK.ay);.br (decide (E22.num<0)) (.lf (Sum.inr ([],{ea:=[],op:=0,l:=[],D5:=0,at_:=0,size:=0},false))) (.cn Ic (.br (decide (E22.num>1024)) (.lf (Sum.inr ([],{ea:=[],op:=0,l:=[],D5:=0,at_:=0,size:=0},false))) (.cn Ic (.lf (Sum.inr ([],{ea:=(46:UInt8)::o7.text,op:=AV,l:=tQ.1,D5:=0,at_:=0,size:=E22.num},true)))))))) (.lf (Sum.inr ([],{ea:=(46:UInt8)::o7.text,op:=AV,l:=tQ.1,D5:=0,at_:=0,size:=1},true))))));.br (decide (E8>(0:Int))) (.cn E28 (.br (!me.Ar) (.lf (Sum.inr ([],{ea:=[],op:=0,l:=[],D5:=0,at_:=0,size:=0},false))) T7)) T7)))))) T1)) T1) T1)));.br E30 (.cn E17 (.br (decide (o7.text=[(58:UInt8)])) (.cn E16 (.cn E16 (.br (E9.kind !=1) (.lf (Sum.inr ([],{ea:=[],op:=0,l:=[],D5:=0,at_:=0,size:=0},false))) (.an (WY E9.text) (.lv (Z4z E9.text) λ(x1:Bool)=>.br (!x1) (.lf (Sum.inr ([],{ea:=[],op:=0,l:=[],D5:=0,at_:=0,size:=0},false))) (.cn E19 (.br (E8==(0:Int)) (.lf (Sum.inr (E9.text,{ea:=[],op:=0,l:=[],D5:=0,at_:=0,size:=0},true))) (.cn E28 (.cn (bT 3 3&&bJ 0 3&&decide ((0:Int)<=(1:Int)/\1<=E8/\E8<=E8)) (let T2:Tree ((List UInt8×Int)⊕(((List UInt8)×kC×Bool))):=.an (NW me.text) (.lv (VE me.text) λ(x7:List UInt8×Bool)=>.br (!x7.2) (.lf (Sum.inr ([],{ea:=[],op:=0,l:=[],D5:=0,at_:=0,size:=0},false))) (let T4:Tree ((List UInt8×Int)⊕(((List UInt8)×kC×Bool))):=let E26:=cZ (dE E8-dE 1) (dA (dE 2+dE 1) x0.1);.an (NZ E26 x7.1) (.lv (VF E26 x7.1) λ(x8:List nD×Bool)=>.br (!x8.2) (.lf (Sum.inr ([],{ea:=[],op:=0,l:=[],D5:=0,at_:=0,size:=0},false))) (.an (KU me.text) (.lv (Q8 me.text) λ(x9:Int)=>.br (decide (me.text=[(108:UInt8),105])) (.lf (Sum.inr (E9.text,{ea:=me.text,op:=x9,l:=x8.1,D5:=0,at_:=0,size:=2},true))) (.br (decide (me.text=[(46:UInt8),115,112,97,99,101])) (let Ie:=bT 3 3&&bJ 0 3&&decide ((0:Int)<=(0:Int)/\0<(x8.1.length:Int));.cn Ie (let E23:=x8.1.getD (dE 0) (RK.cg RK.ay);.br (decide (E23.num<0)) (.lf (Sum.inr ([],{ea:=[],op:=0,l:=[],D5:=0,at_:=0,size:=0},false))) (.cn Ie (.br (decide (E23.num>1024)) (.lf (Sum.inr ([],{ea:=[],op:=0,l:=[],D5:=0,at_:=0,size:=0},false))) (.cn Ie (.lf (Sum.inr (E9.text,{ea:=me.text,op:=x9,l:=x8.1,D5:=0,at_:=0,size:=E23.num},true)))))))) (.lf (Sum.inr (E9.text,{ea:=me.text,op:=x9,l:=x8.1,D5:=0,at_:=0,size:=1},true)))))));.br (decide ((↑(dE E8-dE 1):Int)>(0:Int))) (.cn (bT 3 3&&bJ 0 3&&decide ((0:Int)<=(0:Int)/\0<(↑(dE E8-dE 1):Int))) (.br (!(x0.1.getD (dE 2+dE 1+dE 0) (RK.cg RK.ax)).Ar) (.lf (Sum.inr ([],{ea:=[],op:=0,l:=[],D5:=0,at_:=0,size:=0},false))) T4)) T4));.br (decide (me.text=[(46:UInt8)])) (.br (decide (E8>=(2:Int))) (let E29:=bT 3 3&&bJ 0 3&&decide ((0:Int)<=(1:Int)/\1<E8);.cn E29 (let nZ:=x0.1.getD (dE 2+dE 1) (RK.cg RK.ax);.br (!nZ.Ar) (.cn E29 (.cn (decide (1+dJ nZ.text<=maxLen)) (.cn (bT 3 3&&bJ 0 3&&decide ((0:Int)<=(2:Int)/\2<=E8/\E8<=E8)) (.an (NW ((46:UInt8)::nZ.text)) (.lv (VE ([(46:UInt8)]++nZ.text)) λ(x2:List UInt8×Bool)=>.br (!x2.2) (.lf (Sum.inr ([],{ea:=[],op:=0,l:=[],D5:=0,at_:=0,size:=0},false))) (let T5:Tree ((List UInt8×Int)⊕(((List UInt8)×kC×Bool))):=let E27:=cZ (dE E8-dE 2) (dA (dE 2+dE 2) x0.1);.an (NZ E27 x2.1) (.lv (VF E27 x2.1) λ(x3:List nD×Bool)=>.br (!x3.2) (.lf (Sum.inr ([],{ea:=[],op:=0,l:=[],D5:=0,at_:=0,size:=0},false))) (.an (KU ((46:UInt8)::nZ.text)) (.lv (Q8 ([(46:UInt8)]++nZ.text)) λ(x4:Int)=>.br (decide ([(46:UInt8)]++nZ.text=[(46:UInt8),115,112,97,99,101])) (let E18:=bT 3 3&&bJ 0 3&&decide ((0:Int)<=(0:Int)/\0<(x3.1.length:Int));.cn E18 (let E24:=x3.1.getD (dE 0) (RK.cg RK.ay);.br (decide (E24.num<0)) (.lf (Sum.inr ([],{ea:=[],op:=0,l:=[],D5:=0,at_:=0,size:=0},false))) (.cn E18 (.br (decide (E24.num>1024)) (.lf (Sum.inr ([],{ea:=[],op:=0,l:=[],D5:=0,at_:=0,size:=0},false))) (.cn E18 (.lf (Sum.inr (E9.text,{ea:=(46:UInt8)::nZ.text,op:=x4,l:=x3.1,D5:=0,at_:=0,size:=E24.num},true)))))))) (.lf (Sum.inr (E9.text,{ea:=(46:UInt8)::nZ.text,op:=x4,l:=x3.1,D5:=0,at_:=0,size:=1},true))))));.br (decide ((↑(dE E8-dE 2):Int)>(0:Int))) (.cn (bT 3 3&&bJ 0 3&&decide ((0:Int)<=(0:Int)/\0<(↑(dE E8-dE 2):Int))) (.br (!(x0.1.getD (dE 2+dE 2+dE 0) (RK.cg RK.ax)).Ar) (.lf (Sum.inr ([],{ea:=[],op:=0,l:=[],D5:=0,at_:=0,size:=0},false))) T5)) T5)))))) T2)) T2) T2)))))))))) T3)) T3)))
def Z5r s:=(N1 s).m
abbrev Qi6 s:=(N1 s).p
def Z62:bm:={
 α:=(List UInt8)×(Int)
 F:=λst a=>([(0,.str a.1),(2,(lk st 2)),(3,.ptr 0 0 0),(4,(lk st 4)),(5,.int i64 a.2)],[⟨true,175,6,.gen [[(cT st 3 0),(cT st 3 1),(cT st 3 2),(cT st 3 3),(cT st 3 4),(cT st 3 5)]]⟩])
 a0:=λst=>((lk st 0).toStr,(lk st 5).toInt)
 iy:=λst=>[]++[(rX st 3 0)]}
def Z10:List (Nat×bm):=[(2,Z62)]
def Zde:bb:=mT 152 [] false [.one (.str)] [] (λa r=>N1 (gh a 0)) (λX=>.dt [.str (X.1),.agg (kC.cells (X.2.1)),.bool (X.2.2)]) (λX=>[])
theorem Z6u:bj pG Zde:=oT (.cons Z7t (.cons Qz3 (.cons Z4x (.cons Z2t (.cons Qlk (.nil)))))) Tryz.func152 Tryz.call152 [.sl (.ba .ay) false] Z10 3 (jZ:=nofun)
def Qkp(l:List Q2)(label:List UInt8)(z:(Int)):Prop:=0<=z/\z<=l.length
def Qcj(l:List Q2)(label:List UInt8)(z:(Int)):Nat:=(l.length-z).toNat
def VG(l:List Q2)(label:List UInt8):Tree (Int×Bool):=
.lp inferInstance (Qcj l label 0+1) ((nR RK.df 2 l/\rE (label:List UInt8)/\rE (0:Int)/\True)/\True) 0 λ(v0:Int)=>.br (decide (v0<(l.length:Int))) (let E1:=bT 2 2&&bJ 0 2&&decide (0<=v0/\v0<(l.length:Int));.cn E1 (let E2:=l.getD v0.toNat (RK.cg RK.df);.br (decide (E2.Name=label)) (.cn E1 (.lf (Sum.inr (E2.Addr,true)))) (.nx ((nR RK.df 2 l/\rE (label:List UInt8)/\rE ((wrap i64 (v0+1)):Int)/\True)/\True) (Sum.inl (wrap i64 (v0+1)))))) (.lf (Sum.inr (0,false)))
def Qpg l label:=(VG l label).m
def GC(l:List Q2)(label:List UInt8):Prop:=
l.length<=1000000000000
theorem Z0s(l:List Q2)(label:List UInt8)(hw:GC l label):(VG l label).p:=by
 simp only[GC]at hw
 unfold Tree.p VG
 repeat'(first|refine ej (inv:=Qkp l label) (μ:=Qcj l label) ?_ (cO _) (λ_ _=>?_)|exact trivial|refine ab (λ_=>?_) (λ_=>?_)|refine ar ?_ ?_|refine cu ?_ ?_|refine au (λ_ _=>?_)|refine dm ?_|refine bq ?_|refine And.intro ?_ ?_)
 all_goals((try simp only[Qkp,Qcj]at*);exact oM)
def Z4l:bm:={
 α:=(Int)
 F:=λst a=>([(0,(lk st 0)),(1,(lk st 1)),(6,.int i64 a)],[])
 a0:=λst=>(lk st 6).toInt
 iy:=λst=>[]++[]}
def Qwt:List (Nat×bm):=[(2,Z4l)]
def Z7h:bb:=mU 95 [] true [.one (.ba .df),.one (.str)] [] (λa r=>GC (ie .df a 0) (gh a 1)) (λa r=>Qpg (ie .df a 0) (gh a 1)) (λX=>.dt [.int .u32 (X.1),.bool (X.2)]) (λX=>[])
theorem Qpz:bj pG Z7h:=wv drawn nj (.nil) Tryz.func95 Tryz.call95 (λa r=>VG (ie .df a 0) (gh a 1)) [] Qwt 3 (hp:=λa r h=>Z0s (ie .df a 0) (gh a 1) h)
def Z2c(src:List UInt8)(z:(Int)×(Int)×(List Q2)×(List kC)):Nat:=((Qyg src).length-z.2.1).toNat
def N2(src:List UInt8):Tree ((List Q2)×(List kC)×tE):=
.br (decide ((src.length:Int)>(8192:Int))) (.lf ([],[],{Ap:=300,nC:=0})) (.an (Qk2 src) (.lv (Qyg src) λ(x0:List (List UInt8))=>.lp inferInstance (Z2c src (0,0,[],[])+1) ((rZ/\True/\True/\rE (0:Int)/\True/\rE (0:Int)/\True)/\(rE (0:Int)/\rE (0:Int)/\True)/\rE (x0:List (RK.T RK.str))/\rE ([]:List (RK.T RK.df))/\rE ([]:List (RK.T RK.aj))/\True) (0,0,[],[]) λ(v0:Int×Int×List Q2×List kC)=>.br (decide (v0.2.1<(x0.length:Int))) (.cn (bT 1 1&&bJ 0 1&&decide (0<=v0.2.1/\v0.2.1<(x0.length:Int))) (let E3:=x0.getD v0.2.1.toNat (RK.cg RK.str);.an (Qi6 E3) (.lv (Z5r E3) λ(x1:List UInt8×kC×Bool)=>.br (!x1.2.2) (.lf (Sum.inr ([],[],{Ap:=301,nC:=wrap i64 (v0.2.1+1)}))) (let E1:=({Ap:=305,nC:=wrap i64 (v0.2.1+1)}:tE);let E2:=decide (72*(v0.2.2.2.length+1)<=140737488355328);let E4:=decide (wrap i64 (v0.1+x1.2.1.size)>1024);.br (!decide (x1.1=[])) (.an (GC v0.2.2.1 x1.1) (.lv (Qpg v0.2.2.1 x1.1) λ(x2:Int×Bool)=>.br x2.2 (.lf (Sum.inr ([],[],{Ap:=303,nC:=wrap i64 (v0.2.1+1)}))) (.cn (decide (24*(v0.2.2.1.length+1)<=140737488355328)) (let E5:=({Name:=x1.1,Addr:=wrap u32 (wrap i64 (4*v0.1))}:Q2);.br (!decide (x1.2.1.ea=[])) (.cn E2 (.br E4 (.lf (Sum.inr ([],[],E1))) (.nx ((rZ/\True/\True/\rE ((wrap i64 (v0.1+x1.2.1.size)):Int)/\True/\rE ((wrap i64 (v0.2.1+1)):Int)/\True)/\(rE (0:Int)/\rE (0:Int)/\True)/\rE (x0:List (RK.T RK.str))/\rE ((v0.2.2.1++[{Name:=x1.1,Addr:=wrap u32 (wrap i64 (4*v0.1))}]):List (RK.T RK.df))/\rE ((v0.2.2.2++[{ea:=x1.2.1.ea,op:=x1.2.1.op,l:=x1.2.1.l,D5:=wrap i64 (v0.2.1+1),at_:=v0.1,size:=x1.2.1.size}]):List (RK.T RK.aj))/\True) (Sum.inl (wrap i64 (v0.1+x1.2.1.size),wrap i64 (v0.2.1+1),v0.2.2.1++[E5],v0.2.2.2++[{ea:=x1.2.1.ea,op:=x1.2.1.op,l:=x1.2.1.l,D5:=wrap i64 (v0.2.1+1),at_:=v0.1,size:=x1.2.1.size}]))))) (.br (decide (v0.1>1024)) (.lf (Sum.inr ([],[],E1))) (.nx ((rZ/\True/\True/\rE v0.1/\True/\rE ((wrap i64 (v0.2.1+1)):Int)/\True)/\(rE (0:Int)/\rE (0:Int)/\True)/\rE (x0:List (RK.T RK.str))/\rE ((v0.2.2.1++[{Name:=x1.1,Addr:=wrap u32 (wrap i64 (4*v0.1))}]):List (RK.T RK.df))/\rE v0.2.2.2/\True) (Sum.inl (v0.1,wrap i64 (v0.2.1+1),v0.2.2.1++[E5],v0.2.2.2)))))))) (.br (!decide (x1.2.1.ea=[])) (.cn E2 (.br E4 (.lf (Sum.inr ([],[],E1))) (.nx ((rZ/\True/\True/\rE ((wrap i64 (v0.1+x1.2.1.size)):Int)/\True/\rE ((wrap i64 (v0.2.1+1)):Int)/\True)/\(rE (0:Int)/\rE (0:Int)/\True)/\rE (x0:List (RK.T RK.str))/\rE v0.2.2.1/\rE ((v0.2.2.2++[{ea:=x1.2.1.ea,op:=x1.2.1.op,l:=x1.2.1.l,D5:=wrap i64 (v0.2.1+1),at_:=v0.1,size:=x1.2.1.size}]):List (RK.T RK.aj))/\True) (Sum.inl (wrap i64 (v0.1+x1.2.1.size),wrap i64 (v0.2.1+1),v0.2.2.1,v0.2.2.2++[{ea:=x1.2.1.ea,op:=x1.2.1.op,l:=x1.2.1.l,D5:=wrap i64 (v0.2.1+1),at_:=v0.1,size:=x1.2.1.size}]))))) (.br (decide (v0.1>1024)) (.lf (Sum.inr ([],[],E1))) (.nx ((rZ/\True/\True/\rE v0.1/\True/\rE ((wrap i64 (v0.2.1+1)):Int)/\True)/\(rE (0:Int)/\rE (0:Int)/\True)/\rE (x0:List (RK.T RK.str))/\rE v0.2.2.1/\rE v0.2.2.2/\True) (Sum.inl (v0.1,wrap i64 (v0.2.1+1),v0.2.2.1,v0.2.2.2))))))))) (.lf (Sum.inr (v0.2.2.1,v0.2.2.2,{Ap:=0,nC:=0})))))
def Z2y src:=(N2 src).m
abbrev Qmm src:=(N2 src).p
def Zfs:bm:={
 α:=(Int)×(Int)×(List Q2)×(List kC)
 F:=λst a=>([(4,.ptr 0 0 0),(5,.all 2),(6,.all 3),(7,.int i64 a.1),(8,.all 1),(9,.int i64 a.2.1)],[⟨true,112,2,.gen [[(cT st 4 0),(cT st 4 1)]]⟩,⟨false,9,1,nH st.rows (rN st 8)⟩,⟨false,238,2,.ba RK.df a.2.2.1⟩,⟨false,175,6,.ba RK.aj a.2.2.2⟩])
 a0:=λst=>((lk st 7).toInt,(lk st 9).toInt,(Ea RK.df st.rows (rN st 5)),(Ea RK.aj st.rows (rN st 6)))
 iy:=λst=>[]++[(rX st 4 0),(rX st 8 1),(rX st 5 2),(rX st 6 3)]}
def Z6t:List (Nat×bm):=[(8,Zfs)]
def Zk:bb:=mT 94 [] false [.one (.str)] [] (λa r=>N2 (gh a 0)) (λX=>.dt [.all 0,.all 1,.agg (tE.cells (X.2.2))]) (λX=>[⟨false,238,2,.ba .df (X.1)⟩,⟨false,175,6,.ba .aj (X.2.1)⟩])
theorem Zfm:bj pG Zk:=oT (.cons Zdc (.cons Z6u (.cons Qpz (.nil)))) Tryz.func94 Tryz.call94 [.row 238 2 (.ba .df),.row 175 6 (.ba .aj)] Z6t 3 (jZ:=nofun)
def N4(st:kC)(v:Int):Tree (Int×Bool):=
.lv (oW st.op) λ(x0:Int)=>.lv (Xq x0) λ(x1:Int×Int)=>let E7:=st.l.getD (dE 0) (RK.cg RK.ay);let E8:=st.l.getD (dE 1) (RK.cg RK.ay);let E9:=bT 3 3&&bJ 0 3&&decide ((0:Int)<=(0:Int)/\0<(st.l.length:Int));let me:=bT 3 3&&bJ 0 3&&decide ((0:Int)<=(1:Int)/\1<(st.l.length:Int));let nZ:=st.l.getD (dE 2) (RK.cg RK.ay);let o7:=bT 3 3&&bJ 0 3&&decide ((0:Int)<=(2:Int)/\2<(st.l.length:Int));.br (x0==2) (.cn E9 (.cn me (.cn o7 (let T2:Tree ((Int×Bool)):=.br (decide (0<x1.1)) (.lf (0,false)) (.br (decide (0>x1.2)) (.lf (0,false)) (.lv (oV {Op:=st.op,A:=E7.kJ,B:=E8.kJ,C:=nZ.kJ,bo:=wrap i32 0}) λ(x2:Int×Bool)=>.lf (x2.1,x2.2)));.br (x0==2) T2 (.br (x0==1) T2 (.br (decide (v<x1.1)) (.lf (0,false)) (.br (decide (v>x1.2)) (.lf (0,false)) (.lv (oV {Op:=st.op,A:=E7.kJ,B:=E8.kJ,C:=nZ.kJ,bo:=wrap i32 v}) λ(x4:Int×Bool)=>.lf (x4.1,x4.2))))))))) (let T1:Tree ((Int×Bool)):=.br (decide (x0>=6)) (.cn E9 (let T5:Tree ((Int×Bool)):=.br (decide (0<x1.1)) (.lf (0,false)) (.br (decide (0>x1.2)) (.lf (0,false)) (.lv (oV {Op:=st.op,A:=E7.kJ,B:=0,C:=0,bo:=wrap i32 0}) λ(x8:Int×Bool)=>.lf (x8.1,x8.2)));.br (x0==2) T5 (.br (x0==1) T5 (.br (decide (v<x1.1)) (.lf (0,false)) (.br (decide (v>x1.2)) (.lf (0,false)) (.lv (oV {Op:=st.op,A:=E7.kJ,B:=0,C:=0,bo:=wrap i32 v}) λ(ja:Int×Bool)=>.lf (ja.1,ja.2))))))) (.br (x0 !=1) (.cn E9 (.cn me (let T3:Tree ((Int×Bool)):=.br (decide (0<x1.1)) (.lf (0,false)) (.br (decide (0>x1.2)) (.lf (0,false)) (.lv (oV {Op:=st.op,A:=E7.kJ,B:=E8.kJ,C:=0,bo:=wrap i32 0}) λ(jv:Int×Bool)=>.lf (jv.1,jv.2)));.br (x0==2) T3 (.br (x0==1) T3 (.br (decide (v<x1.1)) (.lf (0,false)) (.br (decide (v>x1.2)) (.lf (0,false)) (.lv (oV {Op:=st.op,A:=E7.kJ,B:=E8.kJ,C:=0,bo:=wrap i32 v}) λ(jW:Int×Bool)=>.lf (jW.1,jW.2)))))))) (let T6:Tree ((Int×Bool)):=.br (decide (0<x1.1)) (.lf (0,false)) (.br (decide (0>x1.2)) (.lf (0,false)) (.lv (oV {Op:=st.op,A:=0,B:=0,C:=0,bo:=wrap i32 0}) λ(kF:Int×Bool)=>.lf (kF.1,kF.2)));.br (x0==2) T6 (.br (x0==1) T6 (.br (decide (v<x1.1)) (.lf (0,false)) (.br (decide (v>x1.2)) (.lf (0,false)) (.lv (oV {Op:=st.op,A:=0,B:=0,C:=0,bo:=wrap i32 v}) λ(lB:Int×Bool)=>.lf (lB.1,lB.2)))))));.br (decide (st.op>=32)) (.br (decide (st.op<=36)) (.cn E9 (.cn o7 (.cn me (let T4:Tree ((Int×Bool)):=.br (decide (0<x1.1)) (.lf (0,false)) (.br (decide (0>x1.2)) (.lf (0,false)) (.lv (oV {Op:=st.op,A:=E7.kJ,B:=nZ.kJ,C:=0,bo:=wrap i32 0}) λ(x5:Int×Bool)=>.lf (x5.1,x5.2)));.br (x0==2) T4 (.br (x0==1) T4 (.br (decide (E8.num<x1.1)) (.lf (0,false)) (.br (decide (E8.num>x1.2)) (.lf (0,false)) (.lv (oV {Op:=st.op,A:=E7.kJ,B:=nZ.kJ,C:=0,bo:=wrap i32 E8.num}) λ(x7:Int×Bool)=>.lf (x7.1,x7.2))))))))) T1) T1)
def VH st v:=(N4 st v).m
abbrev N3 st v:=(N4 st v).p
def Zjb:bb:=mT 97 [] true [.agg kC.sig,.one (.int .i64)] [] (λa r=>N4 (kC.of (aC a 0)) (av a 1)) (λX=>.dt [.int .u32 (X.1),.bool (X.2)]) (λX=>[])
theorem Zh1:bj pG Zjb:=oT (.cons R8 (.cons Qri (.cons Qjy (.nil)))) Tryz.func97 Tryz.call97 [] [] 2

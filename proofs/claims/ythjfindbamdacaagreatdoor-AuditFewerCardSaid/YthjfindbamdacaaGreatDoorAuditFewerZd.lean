import Derived.Test.YthjfindbamdacaaGreatDoorAuditFewerYz
open UInt8 renaming toNat->eW,ofNat->eX
open List renaming take->dB,drop->dC,length->dK,getD->aK
open Int renaming toNat->dF,tdiv->eU
open Nat renaming lt_succ_self->cO,beq->bT,blt->bJ
set_option maxRecDepth 100000
set_option linter.all false
namespace Go.Proofs.YthjfindbamdacaaGreatDoor
open Go Go.GD Go.IntKind
noncomputable section
instance Sk {α β:Type} [Inhabited β]:Inhabited (α⊕β):=⟨.inr default⟩
def Z0l(src:List UInt8)(z:(Int)×(Int)×(List (List UInt8))):Nat:=(src.length-z.2.1).toNat
def N0(src:List UInt8):Tree (List (List UInt8)):=
.lp inferInstance (Z0l src (0,0,[])+1) ((rE (src:List UInt8)/\True/\rE (0:Int)/\rE (0:Int)/\True)/\rE ([]:List (RK.T RK.str))/\True) (0,0,[]) λ(v0:Int×Int×List (List UInt8))=>let E1:=decide (16*(v0.2.2.length+1)<=140737488355328);.br (decide (v0.2.1<(src.length:Int))) (.cn (decide (0<=v0.2.1/\v0.2.1<(src.length:Int))) (.br ((↑(eW (src.getD v0.2.1.toNat (0:UInt8))):Int)==(10:Int)) (.cn (decide (0<=v0.1/\v0.1<=v0.2.1/\v0.2.1<=(src.length:Int))) (.cn E1 (.nx ((rE (src:List UInt8)/\True/\rE ((wrap i64 (v0.2.1+1)):Int)/\rE ((wrap i64 (v0.2.1+1)):Int)/\True)/\rE ((v0.2.2++[dB (dF v0.2.1-dF v0.1) (dC v0.1.toNat src)]):List (RK.T RK.str))/\True) (Sum.inl (wrap i64 (v0.2.1+1),wrap i64 (v0.2.1+1),v0.2.2++[dB (dF v0.2.1-dF v0.1) (dC v0.1.toNat src)]))))) (.nx ((rE (src:List UInt8)/\True/\rE v0.1/\rE ((wrap i64 (v0.2.1+1)):Int)/\True)/\rE v0.2.2/\True) (Sum.inl (v0.1,wrap i64 (v0.2.1+1),v0.2.2))))) (.br (decide (v0.1<(src.length:Int))) (.cn (decide (0<=v0.1/\v0.1<=(src.length:Int)/\(src.length:Int)<=(src.length:Int))) (.cn E1 (.lf (Sum.inr (v0.2.2++[dB (dF (src.length:Int)-dF v0.1) (dC v0.1.toNat src)]))))) (.lf (Sum.inr v0.2.2)))
def Qxf src:=(N0 src).m
abbrev Qk3 src:=(N0 src).p
def Ze2:bw:={
 α:=(Int)×(Int)×(List (List UInt8))
 F:=λst a=>([(0,(lk st 0)),(3,.all 0),(4,.int i64 a.1),(5,.int i64 a.2.1)],[⟨false,9,1,.av RK.str a.2.2⟩])
 a0:=λst=>((lk st 4).toInt,(lk st 5).toInt,(sM RK.str st.rows (rN st 3)))
 jo:=λst=>[]++[(rX st 3 0)]}
def Z47:List (Nat×bw):=[(4,Ze2)]
def Zfq:bc:=mT 151 [] true [.one (.str)] [] (λa r=>N0 (iq a 0)) (λX=>.all 0) (λX=>[⟨false,9,1,.av .str X⟩])
theorem Zb3:bn pG Zfq:=oT (.nil) Tryz.func151 Tryz.call151 [.row 9 1 (.av .str)] Z47 3
def Qtv(c:Int):Tree Bool:=
.br (decide (c>=97)) (.lf (decide (c<=122))) (.lf false)
def VZ c:=(Qtv c).m
def Zaw:bc:=mS 287 [] true [.one (.int .u8)] [] (λa r=>Qtv (aq a 0)) (λX=>.bool X) (λX=>[])
theorem Qru:bn pG Zaw:=oS (.nil) Tryz.func287 Tryz.call287 [] [] 2
def Qyl(c:Int):Tree Bool:=
.br (decide (c>=48)) (.lf (decide (c<=57))) (.lf false)
def Na c:=(Qyl c).m
def Zfm:bc:=mS 288 [] true [.one (.int .u8)] [] (λa r=>Qyl (aq a 0)) (λX=>.bool X) (λX=>[])
theorem Qw4:bn pG Zfm:=oS (.nil) Tryz.func288 Tryz.call288 [] [] 2
def Qw6(s:List UInt8)(z:(Bool)×(Int)×(List lI)):Nat:=(s.length-z.2.1).toNat
def Qwx(s:List UInt8)(v0:Bool×Int×List lI)(z:(Int)):Nat:=(s.length-z).toNat
def Qxz(s:List UInt8)(v0:Bool×Int×List lI)(z:(Int)):Nat:=(s.length-z).toNat
def N1(s:List UInt8):Tree ((List lI)×Bool):=
.lp inferInstance (Qw6 s (true,0,[])+1) ((rE (s:List UInt8)/\True/\rE (true:Bool)/\rE (0:Int)/\True)/\rE ([]:List (RK.T RK.ax))/\True) (true,0,[]) λ(v0:Bool×Int×List lI)=>.br (decide (v0.2.1<(s.length:Int))) (.cn (decide (0<=v0.2.1/\v0.2.1<(s.length:Int))) (let E7:=(↑(eW (s.getD v0.2.1.toNat (0:UInt8))):Int);.br (E7==(32:Int)) (.nx ((rE (s:List UInt8)/\True/\rE (true:Bool)/\rE ((wrap i64 (v0.2.1+1)):Int)/\True)/\rE v0.2.2/\True) (Sum.inl (true,wrap i64 (v0.2.1+1),v0.2.2))) (.lv (VZ E7) λ(x0:Bool)=>let nw:=decide (32*(v0.2.2.length+1)<=140737488355328);let BJ:=dC v0.2.1.toNat s;.br x0 (.lp inferInstance (Qwx s v0 v0.2.1+1) ((rE (s:List UInt8)/\True/\rE v0.1/\rE v0.2.1/\rE v0.2.1/\True)/\rE v0.2.2/\True) v0.2.1 λ(v1:Int)=>let T3:Tree ((Int)⊕((Bool×Int×List lI)⊕(((List lI)×Bool)))):=.cn (decide (0<=v0.2.1/\v0.2.1<=v1/\v1<=(s.length:Int))) (.cn nw (.nx ((rE (s:List UInt8)/\True/\rE (false:Bool)/\rE (v1:Int)/\True)/\rE ((v0.2.2++[{kind:=1,text:=dB (dF v1-dF v0.2.1) (dC v0.2.1.toNat s),Au:=v0.1}]):List (RK.T RK.ax))/\True) (Sum.inr (Sum.inl (false,v1,v0.2.2++[{kind:=1,text:=dB (dF v1-dF v0.2.1) BJ,Au:=v0.1}])))));.br (decide (v1<(s.length:Int))) (let oe:=decide (0<=v1/\v1<(s.length:Int));.cn oe (let E8:=(↑(eW (s.getD v1.toNat (0:UInt8))):Int);.lv (VZ E8) λ(x1:Bool)=>let T5:Tree ((Int)⊕((Bool×Int×List lI)⊕(((List lI)×Bool)))):=.nx ((rE (s:List UInt8)/\True/\rE v0.1/\rE ((wrap i64 (v1+1)):Int)/\rE v0.2.1/\True)/\rE v0.2.2/\True) (Sum.inl (wrap i64 (v1+1)));.br x1 T5 (.cn oe (.lv (Na E8) λ(x2:Bool)=>.br x2 T5 (.cn oe (.br (E8==(95:Int)) T5 T3)))))) T3) (.lv (Na E7) λ(x3:Bool)=>let T2:Tree ((Bool×Int×List lI)⊕(((List lI)×Bool))):=.lp inferInstance (Qxz s v0 (wrap i64 (v0.2.1+1))+1) ((rE (s:List UInt8)/\True/\rE v0.1/\rE ((wrap i64 (v0.2.1+1)):Int)/\rE v0.2.1/\True)/\rE v0.2.2/\True) (wrap i64 (v0.2.1+1)) λ(v1:Int)=>let T4:Tree ((Int)⊕((Bool×Int×List lI)⊕(((List lI)×Bool)))):=.cn (decide (0<=v0.2.1/\v0.2.1<=v1/\v1<=(s.length:Int))) (.cn nw (.nx ((rE (s:List UInt8)/\True/\rE (false:Bool)/\rE (v1:Int)/\True)/\rE ((v0.2.2++[{kind:=2,text:=dB (dF v1-dF v0.2.1) (dC v0.2.1.toNat s),Au:=v0.1}]):List (RK.T RK.ax))/\True) (Sum.inr (Sum.inl (false,v1,v0.2.2++[{kind:=2,text:=dB (dF v1-dF v0.2.1) BJ,Au:=v0.1}])))));.br (decide (v1<(s.length:Int))) (let pj:=decide (0<=v1/\v1<(s.length:Int));.cn pj (let E9:=(↑(eW (s.getD v1.toNat (0:UInt8))):Int);.lv (VZ E9) λ(x4:Bool)=>let T6:Tree ((Int)⊕((Bool×Int×List lI)⊕(((List lI)×Bool)))):=.nx ((rE (s:List UInt8)/\True/\rE v0.1/\rE ((wrap i64 (v1+1)):Int)/\rE v0.2.1/\True)/\rE v0.2.2/\True) (Sum.inl (wrap i64 (v1+1)));.br x4 T6 (.cn pj (.lv (Na E9) λ(x5:Bool)=>.br x5 T6 (.cn pj (.br (E9==(95:Int)) T6 T4)))))) T4;.br x3 T2 (.br (E7==(45:Int)) T2 (let T1:Tree ((Bool×Int×List lI)⊕(((List lI)×Bool))):=.cn (decide (0<=v0.2.1/\v0.2.1<=wrap i64 (v0.2.1+1)/\wrap i64 (v0.2.1+1)<=(s.length:Int))) (.cn nw (.nx ((rE (s:List UInt8)/\True/\rE (false:Bool)/\rE ((wrap i64 (v0.2.1+1)):Int)/\True)/\rE ((v0.2.2++[{kind:=3,text:=dB (dF (wrap i64 (v0.2.1+1))-dF v0.2.1) (dC v0.2.1.toNat s),Au:=v0.1}]):List (RK.T RK.ax))/\True) (Sum.inl (false,wrap i64 (v0.2.1+1),v0.2.2++[{kind:=3,text:=dB (dF (wrap i64 (v0.2.1+1))-dF v0.2.1) BJ,Au:=v0.1}]))));.br (E7==(44:Int)) T1 (.br (E7==(58:Int)) T1 (.br (E7==(40:Int)) T1 (.br (E7==(41:Int)) T1 (.br (E7==(46:Int)) T1 (.lf (Sum.inr ([],false))))))))))))) (.lf (Sum.inr (v0.2.2,true)))
def Z4p s:=(N1 s).m
abbrev Qih s:=(N1 s).p
def Z77:bw:={
 α:=(Bool)×(Int)×(List lI)
 F:=λst a=>([(0,(lk st 0)),(4,.all 0),(5,.bool a.1),(6,.int i64 a.2.1)],[⟨false,303,3,.av RK.ax a.2.2⟩])
 a0:=λst=>((lk st 5).toBool,(lk st 6).toInt,(sM RK.ax st.rows (rN st 4)))
 jo:=λst=>[]++[(rX st 4 0)]}
def Z6m:bw:={
 α:=(Int)
 F:=λst a=>([(0,(lk st 0)),(4,.all 0),(5,(lk st 5)),(6,.int i64 a),(8,(lk st 8))],[⟨false,303,3,ng st.rows (rN st 4)⟩])
 a0:=λst=>(lk st 6).toInt
 jo:=λst=>[]++[(rX st 4 0)]}
def Z71:bw:={
 α:=(Int)
 F:=λst a=>([(0,(lk st 0)),(4,.all 0),(5,(lk st 5)),(6,.int i64 a),(8,(lk st 8))],[⟨false,303,3,ng st.rows (rN st 4)⟩])
 a0:=λst=>(lk st 6).toInt
 jo:=λst=>[]++[(rX st 4 0)]}
def Z0t:List (Nat×bw):=[(4,Z77),(12,Z6m),(17,Z71)]
def Zcj:bc:=mT 231 [] true [.one (.str)] [] (λa r=>N1 (iq a 0)) (λX=>.du [.all 0,.bool (X.2)]) (λX=>[⟨false,303,3,.av .ax (X.1)⟩])
theorem Z7h:bn pG Zcj:=oT (.cons Qru (.cons Qw4 (.nil))) Tryz.func231 Tryz.call231 [.row 303 3 (.av .ax)] Z0t 3
 def Sl (p:Int->Prop) (r:Int->List UInt8) (n:Int):Tree (List UInt8):=
 .br (decide (n<(10:Int))) (.lf ([(λ(n:Int)=>eX n.toNat) (wrap u8 (wrap u64 ((48:Int)+n)))])) (.an (p (wrap u64 (eU n (10:Int)))) (.lv (r (wrap u64 (eU n (10:Int)))) λ(x0:List UInt8)=>.cn (decide (x0.length+dK [(λ(n:Int)=>eX n.toNat) (wrap u8 (wrap u64 ((48:Int)+Int.tmod n (10:Int))))]<=maxLen)) (.lf (x0++[(λ(n:Int)=>eX n.toNat) (wrap u8 (wrap u64 ((48:Int)+Int.tmod n (10:Int))))]))))
 def Bp:Nat->Int->List UInt8
  |0,_=>[]
  |k+1,n=>(Sl (λ_=>True) (Bp k) n).m
 def KA (k:Nat) (n:Int):Prop:=0<=n/\n<10^k/\n<18446744073709551616/\0<k/\k<=30
 def Jaq (k:Nat):bc:=mW 225 [] true [.one (.int .u64)] [] (λargs rows=>KA k (aq args 0)) (λargs rows=>Bp k (aq args 0)) (λX=>.str X) (λX=>[])
 theorem oV:∀k n,(Bp k n).length<=k
  |0,_=>Nat.le_refl _
  |k+1,n=>by
   show(bif decide (n<10)then _ else df (Bp k _) λx0=>x0++_).length<=k+1
   have:=oV k (wrap u64 (eU n 10))
   cases decide (n<10)
   ·simp[df,Tree.m];omega
   ·simp[Tree.m]
 theorem Am:∀k,bn pG (Jaq k)
  |0=>M4 Tryz.call225 (λargs rows h=>absurd h.2.2.2.1 (Nat.lt_irrefl 0)) (λ_ X=>by kernel_rfl)
  |k + 1=>by
   refine wo drawn mX (.cons (Am k) .nil) Tryz.func225 Tryz.call225 (λargs rows=>Sl (KA k) (Bp k) (aq args 0)) [] [] 2 (λ_ _ _=>by kernel_rfl) (λ_ _=>rfl) (λargs rows h=>?_) (λ_ X=>by kernel_rfl)
   obtain⟨h0,h1,h2,h3,h4⟩:=h
   generalize aq args 0=n at*
   refine aa (λ_=>trivial) (λhn=>?_)
   have hn:=oN hn
   have e:wrap u64 (eU n 10)=n/10:=by rw[wrap_u64,Int.tdiv_eq_ediv_of_nonneg h0];omega
   refine cz (show KA k _ from ?_) (ar λx hx=>ay (dY ?_) trivial)
   ·rw[e]
    rw[Int.pow_succ]at h1
    have hk:0<k:=by
     rcases Nat.eq_zero_or_pos k with rfl|h
     ·simp at h1;omega
     ·exact h
    exact⟨by omega,by omega,by omega,hk,by omega⟩
   ·have:=oV k (wrap u64 (eU n 10))
    rw[<-hx]at this
    simp[maxLen];omega
def Nb(n:Int):(List UInt8):=
Bp 20 n
def Fq(n:Int):Prop:=
0<=n/\n<18446744073709551616
def Qnd(n:Int):List D:=[.int .u64 n]
def Qmu(n:Int):List Row:=[]
def Qir(X:List UInt8):D:=.str X
def Qiw(X:List UInt8):List Row:=[]
def Qpu:List PT:=[.one (.int .u64)]
def Qmt:List RT:=[]
def Z39(args:List D)(rows:List Row):(List UInt8):=Nb (aq args 0)
def Z3d(args:List D)(rows:List Row):Prop:=Fq (aq args 0)
def Zb6:bc:=mW 225 [] true Qpu Qmt Z3d Z39 Qir Qiw
theorem Qx(n:Int)(hw:Fq n):kj pG 225 (Qnd n) (Qmu n) (Qir (Nb n)) (Qiw (Nb n)):=by
 have h20:(18446744073709551616:Int)<=10^20:=by decide
 exact xC (args:=[.int .u64 n]) (rows:=[]) (Am 20) (by kernel_rfl) ⟨hw.1,Int.lt_of_lt_of_le hw.2 h20,hw.2,by decide,by decide⟩
set_option maxRecDepth 100000 in
theorem Qzy(args:List D)(rows:List Row):mr Qpu args 0=Qnd (aq args 0):=by kernel_rfl
set_option maxRecDepth 100000 in
theorem Qwa(args:List D)(rows:List Row):lG Qmt rows 0=Qmu (aq args 0):=by kernel_rfl
set_option maxRecDepth 100000 in
theorem Z7a(X:List UInt8):(wm (Qir X)&&jK (Qiw X))=true:=by kernel_rfl
theorem Z7q:bn pG Zb6:=M4 Tryz.call225 (λargs rows hp=>by rw[Qzy args rows,Qwa args rows];exact Qx (aq args 0) hp) (λ_ X=>Z7a X)
def I5(n:Int):Tree (List UInt8):=
.br (decide (n<0)) (let E1:=wrap u64 (wrap u64 (wrap i64 (0-wrap i64 (n+1)))+1);.an (Fq E1) (.lv (Nb E1) λ(x0:List UInt8)=>.cn (decide (1+x0.length<=maxLen)) (.lf ((45:UInt8)::x0)))) (.an (Fq (wrap u64 n)) (.lv (Nb (wrap u64 n)) λ(x1:List UInt8)=>.lf x1))
def Qom n:=(I5 n).m
abbrev Qfj n:=(I5 n).p
def Z63:bc:=mT 148 [] true [.one (.int .i64)] [] (λa r=>I5 (aq a 0)) (λX=>.str X) (λX=>[])
theorem Z5z:bn pG Z63:=oT (.cons Z7q (.nil)) Tryz.func148 Tryz.call148 [] [] 2
def I6(r:Int):Tree (List UInt8):=
.an (Qfj r) (.lv (Qom r) λ(x0:List UInt8)=>.cn (decide (1+x0.length<=maxLen)) (.lf ((114:UInt8)::x0)))
def Zm1 r:=(I6 r).m
abbrev Qof r:=(I6 r).p
def Zpy:bc:=mT 309 [] true [.one (.int .i64)] [] (λa r=>I6 (aq a 0)) (λX=>.str X) (λX=>[])
theorem Zlp:bn pG Zpy:=oT (.cons Z5z (.nil)) Tryz.func309 Tryz.call309 [] [] 2
def Qr6(s:List UInt8)(z:(Int)):Prop:=0<=z/\z<=16
def Qen(s:List UInt8)(z:(Int)):Nat:=(16-z).toNat
def V0(s:List UInt8):Tree (Int×Bool):=
.lp inferInstance (Qen s 0+1) ((rE (s:List UInt8)/\rE (0:Int)/\True)/\True) 0 λ(v0:Int)=>.br (decide (v0<16)) (.an (Qof v0) (.lv (Zm1 v0) λ(x0:List UInt8)=>.br (decide (s=x0)) (.lf (Sum.inr (v0,true))) (.nx ((rE (s:List UInt8)/\rE ((wrap i64 (v0+1)):Int)/\True)/\True) (Sum.inl (wrap i64 (v0+1)))))) (.lf (Sum.inr (0,false)))
def Qhh s:=(V0 s).m
theorem Qt5(s:List UInt8):(V0 s).p:=by
 unfold Tree.p V0
 have dp:∀x,Fq (wrap .u64 x):=λx=>by unfold Fq;rw[wrap_u64];omega
 have dl:∀x,(Nb x).length<=20:=λx=>oV 20 x
 have hd:∀x,(I5 x).w (λr=>r.length<=21):=λx=>by
  unfold I5
  refine aa (λ_=>cz (dp _) (ar λx0 h0=>ay (dY ?_) ?_)) (λ_=>cz (dp _) (ar λx1 h1=>?_))
  ·have:=dl (wrap .u64 (wrap .u64 (wrap .i64 (0-wrap .i64 (x+1)))+1));rw[<-h0]at this;simp[maxLen];omega
  ·have:=dl (wrap .u64 (wrap .u64 (wrap .i64 (0-wrap .i64 (x+1)))+1));rw[<-h0]at this;show(_::x0).length<=21;simp;omega
  ·rw[h1];exact Nat.le_trans (dl _) (by decide)
 have hr:∀x,(I6 x).p:=λx=>by
  unfold Tree.p I6
  refine cz (Tree.pp (hd x)).1 (ar λx0 h0=>ay (dY ?_) trivial)
  have:(Qom x).length<=21:=(Tree.pp (hd x)).2
  rw[<-h0]at this;simp[maxLen];omega
 refine fy (inv:=Qr6 s) (μ:=Qen s) ⟨by decide,by decide⟩ (cO _) (λz hz=>?_)
 obtain⟨z1,z2⟩:=hz
 refine aa (λhb=>cz (hr _) (ar λx0 _=>aa (λ_=>trivial) (λ_=>ff ?_))) (λ_=>trivial)
 have hb:=oY hb
 show(0<=i64.wrap (z+1)/\i64.wrap (z+1)<=16)/\(16-i64.wrap (z+1)).toNat<(16-z).toNat
 rw[wrap_i64];omega
def Qui:bw:={
 α:=(Int)
 F:=λst a=>([(0,(lk st 0)),(4,.int i64 a)],[])
 a0:=λst=>(lk st 4).toInt
 jo:=λst=>[]++[]}
def Qr1:List (Nat×bw):=[(2,Qui)]
def Qxr:bc:=mS 289 [] true [.one (.str)] [] (λa r=>V0 (iq a 0)) (λX=>.du [.int .i64 (X.1),.bool (X.2)]) (λX=>[])
theorem Qj6:bn pG Qxr:=oS (.cons Zlp (.nil)) Tryz.func289 Tryz.call289 [] Qr1 3 (λ_ _ _=>by kernel_rfl) (λa r=>Qt5 (iq a 0)) (λ_ X=>by kernel_rfl)
def N2(s:List UInt8):Tree Bool:=
.lv (Qhh s) λ(x0:Int×Bool)=>.br (decide ((s.length:Int)>=(1:Int))) (.br (decide ((s.length:Int)<=(12:Int))) (.cn (decide ((0:Int)<=(0:Int)/\0<(s.length:Int))) (.lv (VZ (↑(eW (s.getD (dF 0) (0:UInt8))):Int)) λ(x1:Bool)=>.br x1 (.lf (!x0.2)) (.lf false))) (.lf false)) (.lf false)
def Z49 s:=(N2 s).m
abbrev Xl s:=(N2 s).p
def Zlr:bc:=mT 232 [] true [.one (.str)] [] (λa r=>N2 (iq a 0)) (λX=>.bool X) (λX=>[])
theorem Qzp:bn pG Zlr:=oT (.cons Qj6 (.cons Qru (.nil))) Tryz.func232 Tryz.call232 [] [] 2
def N3(op:Int):Tree (List UInt8):=
let T1:Tree ((List UInt8)):=let T3:Tree ((List UInt8)):=.br (op==48) (.lf ([(106:UInt8),97,108])) (.br (op==49) (.lf ([(106:UInt8),97,108,114])) (.br (decide (op>=56)) (.br (decide (op<=64)) (.cn (bT 1 1&&bJ 0 1&&decide (0<=wrap i64 (op-56)/\wrap i64 (op-56)<(↑9:Int))) (.lf (aK [[(101:UInt8),99,97,108,108],[(101:UInt8),114,101,116],[(99:UInt8),115,114,114],[(99:UInt8),115,114,119],[(105:UInt8),110],[(111:UInt8),117,116],[(119:UInt8),102,105],[(102:UInt8),108,117,115,104],[(104:UInt8),97,108,116]] (dF (wrap i64 (op-56))) (RK.cu RK.str)))) (.lf ([]))) (.lf ([]))));.br (decide (op>=40)) (.br (decide (op<=45)) (.cn (bT 1 1&&bJ 0 1&&decide (0<=wrap i64 (op-40)/\wrap i64 (op-40)<(↑6:Int))) (.lf (aK [[(98:UInt8),101,113],[(98:UInt8),110,101],[(98:UInt8),108,116],[(98:UInt8),103,101],[(98:UInt8),108,116,117],[(98:UInt8),103,101,117]] (dF (wrap i64 (op-40))) (RK.cu RK.str)))) T3) T3;let T2:Tree ((List UInt8)):=let T4:Tree ((List UInt8)):=.br (decide (op>=32)) (.br (decide (op<=36)) (.cn (bT 1 1&&bJ 0 1&&decide (0<=wrap i64 (op-32)/\wrap i64 (op-32)<(↑5:Int))) (.lf (aK [[(108:UInt8),119],[(108:UInt8),98],[(108:UInt8),98,117],[(115:UInt8),119],[(115:UInt8),98]] (dF (wrap i64 (op-32))) (RK.cu RK.str)))) T1) T1;.br (decide (op>=16)) (.br (decide (op<=24)) (.cn (bT 1 1&&bJ 0 1&&decide (0<=wrap i64 (op-16)/\wrap i64 (op-16)<(↑9:Int))) (.lf (aK [[(97:UInt8),100,100,105],[(97:UInt8),110,100,105],[(111:UInt8),114,105],[(120:UInt8),111,114,105],[(115:UInt8),104,108,105],[(115:UInt8),104,114,105],[(115:UInt8),97,114,105],[(115:UInt8),108,116,105],[(108:UInt8),117,105]] (dF (wrap i64 (op-16))) (RK.cu RK.str)))) T4) T4;.br (decide (op>=1)) (.br (decide (op<=13)) (.cn (bT 1 1&&bJ 0 1&&decide (0<=wrap i64 (op-1)/\wrap i64 (op-1)<(↑13:Int))) (.lf (aK [[(97:UInt8),100,100],[(115:UInt8),117,98],[(97:UInt8),110,100],[(111:UInt8),114],[(120:UInt8),111,114],[(115:UInt8),104,108],[(115:UInt8),104,114],[(115:UInt8),97,114],[(109:UInt8),117,108],[(100:UInt8),105,118],[(114:UInt8),101,109],[(115:UInt8),108,116],[(115:UInt8),108,116,117]] (dF (wrap i64 (op-1))) (RK.cu RK.str)))) T2) T2
def Quo op:=(N3 op).m
abbrev Qdu op:=(N3 op).p
def Z4u:bc:=mT 291 [] true [.one (.int .i64)] [] (λa r=>N3 (aq a 0)) (λX=>.str X) (λX=>[])
theorem Z10:bn pG Z4u:=oT (.nil) Tryz.func291 Tryz.call291 [] [] 2
def Qqy(s:List UInt8)(z:(Int)):Nat:=(65-z).toNat
def N4(s:List UInt8):Tree Int:=
.lp inferInstance (Qqy s 1+1) ((rE (s:List UInt8)/\rE (1:Int)/\True)/\True) 1 λ(v0:Int)=>.br (decide (v0<=64)) (.lv (o8 v0) λ(x0:Int)=>.br (decide (x0>0)) (.an (Qdu v0) (.lv (Quo v0) λ(x1:List UInt8)=>.br (decide (x1=s)) (.lf (Sum.inr v0)) (.nx ((rE (s:List UInt8)/\rE ((wrap i64 (v0+1)):Int)/\True)/\True) (Sum.inl (wrap i64 (v0+1)))))) (.nx ((rE (s:List UInt8)/\rE ((wrap i64 (v0+1)):Int)/\True)/\True) (Sum.inl (wrap i64 (v0+1))))) (.lf (Sum.inr 0))
def Sm s:=(N4 s).m
abbrev K3 s:=(N4 s).p
def Qxy:bw:={
 α:=(Int)
 F:=λst a=>([(0,(lk st 0)),(3,.int i64 a)],[])
 a0:=λst=>(lk st 3).toInt
 jo:=λst=>[]++[]}
def Qtd:List (Nat×bw):=[(2,Qxy)]
def Z00:bc:=mT 235 [] true [.one (.str)] [] (λa r=>N4 (iq a 0)) (λX=>.int .i64 X) (λX=>[])
theorem Qlk:bn pG Z00:=oT (.cons Si (.cons Z10 (.nil))) Tryz.func235 Tryz.call235 [] Qtd 3
def N6(eg:List UInt8):Tree ((List UInt8)×Bool):=
.an (K3 eg) (.lv (Sm eg) λ(x0:Int)=>.br (decide (eg=[(46:UInt8),119,111,114,100])) (.lf ([(120:UInt8)],true)) (.br (decide (eg=[(46:UInt8),115,112,97,99,101])) (.lf ([(110:UInt8)],true)) (.br (decide (eg=[(108:UInt8),105])) (.lf ([(114:UInt8),44,120],true)) (.br (decide (eg=[(109:UInt8),118])) (.lf ([(114:UInt8),44,114],true)) (.br (decide (eg=[(110:UInt8),111,112])) (.lf ([],true)) (.br (x0==0) (.lf ([],false)) (let T1:Tree (((List UInt8)×Bool)):=.br (x0==48) (.lf ([(114:UInt8),44,120],true)) (.lv (o8 x0) λ(x1:Int)=>.br (x1==1) (.lf ([],true)) (.br (x1==2) (.lf ([(114:UInt8),44,114,44,114],true)) (.br (decide (x1>=6)) (.lf ([(114:UInt8),44,110],true)) (.lf ([(114:UInt8),44,114,44,110],true)))));let T2:Tree (((List UInt8)×Bool)):=.br (decide (x0>=40)) (.br (decide (x0<=45)) (.lf ([(114:UInt8),44,114,44,120],true)) T1) T1;.br (decide (x0>=32)) (.br (decide (x0<=36)) (.lf ([(114:UInt8),44,110,40,114,41],true)) T2) T2)))))))
def V1 eg:=(N6 eg).m
abbrev N5 eg:=(N6 eg).p
def Z7:bc:=mT 233 [] true [.one (.str)] [] (λa r=>N6 (iq a 0)) (λX=>.du [.str (X.1),.bool (X.2)]) (λX=>[])
theorem Z4i:bn pG Z7:=oT (.cons Qlk (.cons Si (.nil))) Tryz.func233 Tryz.call233 [] [] 2
def Qy4(s:List UInt8)(z:(Int)×(Int)):Nat:=(s.length-z.2).toNat
def Qkp(s:List UInt8)(z:(Int)×(Int)):Nat:=(s.length-z.2).toNat
def N7(s:List UInt8):Tree (Int×Bool):=
let E7:=decide ((0:Int)<=(0:Int)/\0<(s.length:Int));let E8:=(↑(eW (s.getD (dF 0) (0:UInt8))):Int);let T1:Tree ((Int×Bool)):=let T2:Tree ((Int×Bool)):=.br (decide (wrap i64 ((s.length:Int)-(0:Int))<1)) (.lf (0,false)) (.br (decide (wrap i64 ((s.length:Int)-(0:Int))>10)) (.lf (0,false)) (.lp inferInstance (Qkp s (0,0)+1) ((rE (s:List UInt8)/\rE (0:Int)/\rE (0:Int)/\rE (0:Int)/\True)/\True) (0,0) λ(v0:Int×Int)=>.br (decide (v0.2<(s.length:Int))) (let E9:=decide (0<=v0.2/\v0.2<(s.length:Int));.cn E9 (let E5:=(↑(eW (s.getD v0.2.toNat (0:UInt8))):Int);.lv (Na E5) λ(x2:Bool)=>.br (!x2) (.lf (Sum.inr (0,false))) (.cn E9 (.nx ((rE (s:List UInt8)/\rE (0:Int)/\rE ((wrap i64 (wrap i64 (10*v0.1)+wrap i64 (wrap u8 ((↑(eW (s.getD v0.2.toNat (0:UInt8))):Int)-(48:Int))))):Int)/\rE ((wrap i64 (v0.2+1)):Int)/\True)/\True) (Sum.inl (wrap i64 (wrap i64 (10*v0.1)+wrap i64 (wrap u8 (E5-(48:Int)))),wrap i64 (v0.2+1))))))) (.br (decide (v0.1>=(-2147483648))) (.lf (Sum.inr (v0.1,decide (v0.1<=4294967295)))) (.lf (Sum.inr (v0.1,false))))));.br (decide ((s.length:Int)>(0:Int))) (.cn E7 (.br (E8==(45:Int)) (.br (decide (wrap i64 ((s.length:Int)-(1:Int))<1)) (.lf (0,false)) (.br (decide (wrap i64 ((s.length:Int)-(1:Int))>10)) (.lf (0,false)) (.lp inferInstance (Qkp s (0,1)+1) ((rE (s:List UInt8)/\rE (1:Int)/\rE (0:Int)/\rE (1:Int)/\True)/\True) (0,1) λ(v0:Int×Int)=>.br (decide (v0.2<(s.length:Int))) (let nw:=decide (0<=v0.2/\v0.2<(s.length:Int));.cn nw (let E6:=(↑(eW (s.getD v0.2.toNat (0:UInt8))):Int);.lv (Na E6) λ(x1:Bool)=>.br (!x1) (.lf (Sum.inr (0,false))) (.cn nw (.nx ((rE (s:List UInt8)/\rE (1:Int)/\rE ((wrap i64 (wrap i64 (10*v0.1)+wrap i64 (wrap u8 ((↑(eW (s.getD v0.2.toNat (0:UInt8))):Int)-(48:Int))))):Int)/\rE ((wrap i64 (v0.2+1)):Int)/\True)/\True) (Sum.inl (wrap i64 (wrap i64 (10*v0.1)+wrap i64 (wrap u8 (E6-(48:Int)))),wrap i64 (v0.2+1))))))) (.br (decide (wrap i64 (0-v0.1)>=(-2147483648))) (.lf (Sum.inr (wrap i64 (0-v0.1),decide (wrap i64 (0-v0.1)<=4294967295)))) (.lf (Sum.inr (wrap i64 (0-v0.1),false))))))) T2)) T2;.br (decide ((s.length:Int)>(2:Int))) (.cn E7 (.br (E8==(48:Int)) (.cn (decide ((0:Int)<=(1:Int)/\1<(s.length:Int))) (.br ((↑(eW (s.getD (dF 1) (0:UInt8))):Int)==(120:Int)) (.br (decide ((s.length:Int)>(10:Int))) (.lf (0,false)) (.lp inferInstance (Qy4 s (0,2)+1) ((rE (s:List UInt8)/\rE (0:Int)/\rE (2:Int)/\True)/\True) (0,2) λ(v0:Int×Int)=>.br (decide (v0.2<(s.length:Int))) (let E4:=decide (0<=v0.2/\v0.2<(s.length:Int));.cn E4 (let E3:=(↑(eW (s.getD v0.2.toNat (0:UInt8))):Int);.lv (Na E3) λ(x0:Bool)=>.br x0 (.cn E4 (.nx ((rE (s:List UInt8)/\rE ((wrap i64 (wrap i64 (16*v0.1)+wrap i64 (wrap u8 ((↑(eW (s.getD v0.2.toNat (0:UInt8))):Int)-(48:Int))))):Int)/\rE ((wrap i64 (v0.2+1)):Int)/\True)/\True) (Sum.inl (wrap i64 (wrap i64 (16*v0.1)+wrap i64 (wrap u8 (E3-(48:Int)))),wrap i64 (v0.2+1))))) (.cn E4 (.br (decide (E3>=(97:Int))) (.cn E4 (.br (decide (E3<=(102:Int))) (.cn E4 (.nx ((rE (s:List UInt8)/\rE ((wrap i64 (wrap i64 (wrap i64 (16*v0.1)+wrap i64 (wrap u8 ((↑(eW (s.getD v0.2.toNat (0:UInt8))):Int)-(97:Int))))+10)):Int)/\rE ((wrap i64 (v0.2+1)):Int)/\True)/\True) (Sum.inl (wrap i64 (wrap i64 (wrap i64 (16*v0.1)+wrap i64 (wrap u8 (E3-(97:Int))))+10),wrap i64 (v0.2+1))))) (.lf (Sum.inr (0,false))))) (.lf (Sum.inr (0,false))))))) (.lf (Sum.inr (v0.1,true))))) T1)) T1)) T1
def Z27 s:=(N7 s).m
abbrev Qhy s:=(N7 s).p
def Z7j:bw:={
 α:=(Int)×(Int)
 F:=λst a=>([(0,(lk st 0)),(4,.int i64 a.1),(5,.int i64 a.2)],[])
 a0:=λst=>((lk st 4).toInt,(lk st 5).toInt)
 jo:=λst=>[]++[]}
def Z80:bw:={
 α:=(Int)×(Int)
 F:=λst a=>([(0,(lk st 0)),(6,(lk st 6)),(7,.int i64 a.1),(8,.int i64 a.2)],[])
 a0:=λst=>((lk st 7).toInt,(lk st 8).toInt)
 jo:=λst=>[]++[]}
def Z15:List (Nat×bw):=[(6,Z7j),(21,Z80)]
def Zea:bc:=mT 290 [] true [.one (.str)] [] (λa r=>N7 (iq a 0)) (λX=>.du [.int .i64 (X.1),.bool (X.2)]) (λX=>[])
theorem Z6k:bn pG Zea:=oT (.cons Qw4 (.nil)) Tryz.func290 Tryz.call290 [] Z15 3
def Qtn(l:List lI)(p:List UInt8)(z:(Int)×(List nJ)):Nat:=(l.length-z.1).toNat
def N9(l:List lI)(p:List UInt8):Tree ((List nJ)×Bool):=
.br ((l.length:Int) !=(p.length:Int)) (.lf ([],false)) (.lp inferInstance (Qtn l p (0,[])+1) ((nR RK.ax 3 l/\rE (p:List UInt8)/\True/\rE (0:Int)/\True)/\rE ([]:List (RK.T RK.bb))/\True) (0,[]) λ(v0:Int×List nJ)=>.br (decide (v0.1<(l.length:Int))) (.cn (bT 3 3&&bJ 0 3&&decide (0<=v0.1/\v0.1<(l.length:Int))) (let E6:=decide (0<=v0.1/\v0.1<(p.length:Int));.cn E6 (let E3:=l.getD v0.1.toNat (RK.cu RK.ax);let E4:=(↑(eW (p.getD v0.1.toNat (0:UInt8))):Int);let E5:=decide (32*(v0.2.length+1)<=140737488355328);.br (E4==(114:Int)) (.lv (Qhh E3.text) λ(x0:Int×Bool)=>.br (E3.kind !=1) (.lf (Sum.inr ([],false))) (.br (!x0.2) (.lf (Sum.inr ([],false))) (.cn E5 (.nx ((nR RK.ax 3 l/\rE (p:List UInt8)/\True/\rE ((wrap i64 (v0.1+1)):Int)/\True)/\rE ((v0.2++[{kK:=x0.1,num:=0,label:=[]}]):List (RK.T RK.bb))/\True) (Sum.inl (wrap i64 (v0.1+1),v0.2++[{kK:=x0.1,num:=0,label:=[]}])))))) (let T1:Tree ((Int×List nJ)⊕(((List nJ)×Bool))):=.an (Qhy E3.text) (.lv (Z27 E3.text) λ(x2:Int×Bool)=>.br (E3.kind !=2) (.lf (Sum.inr ([],false))) (.br (!x2.2) (.lf (Sum.inr ([],false))) (.cn E5 (.nx ((nR RK.ax 3 l/\rE (p:List UInt8)/\True/\rE ((wrap i64 (v0.1+1)):Int)/\True)/\rE ((v0.2++[{kK:=0,num:=x2.1,label:=[]}]):List (RK.T RK.bb))/\True) (Sum.inl (wrap i64 (v0.1+1),v0.2++[{kK:=0,num:=x2.1,label:=[]}]))))));let T2:Tree ((Int×List nJ)⊕(((List nJ)×Bool))):=.cn E6 (.br (E4==(120:Int)) (.br (E3.kind==1) (.an (Xl E3.text) (.lv (Z49 E3.text) λ(x1:Bool)=>.br x1 (.cn E5 (.nx ((nR RK.ax 3 l/\rE (p:List UInt8)/\True/\rE ((wrap i64 (v0.1+1)):Int)/\True)/\rE ((v0.2++[{kK:=0,num:=0,label:=(l.getD v0.1.toNat (RK.cu RK.ax)).text}]):List (RK.T RK.bb))/\True) (Sum.inl (wrap i64 (v0.1+1),v0.2++[{kK:=0,num:=0,label:=E3.text}])))) T1)) T1) T1);.br (E4==(110:Int)) T2 (.br (E4==(120:Int)) T2 (.br (E3.kind !=3) (.lf (Sum.inr ([],false))) (.cn (decide (0<=v0.1/\v0.1<=wrap i64 (v0.1+1)/\wrap i64 (v0.1+1)<=(p.length:Int))) (.br (!decide (E3.text=dB (dF (wrap i64 (v0.1+1))-dF v0.1) (dC v0.1.toNat p))) (.lf (Sum.inr ([],false))) (.nx ((nR RK.ax 3 l/\rE (p:List UInt8)/\True/\rE ((wrap i64 (v0.1+1)):Int)/\True)/\rE v0.2/\True) (Sum.inl (wrap i64 (v0.1+1),v0.2))))))))))) (.lf (Sum.inr (v0.2,true))))
def V2 l p:=(N9 l p).m
abbrev N8 l p:=(N9 l p).p
def Z5o:bw:={
 α:=(Int)×(List nJ)
 F:=λst a=>([(0,(lk st 0)),(1,(lk st 1)),(6,.all 0),(7,.int i64 a.1)],[⟨false,177,3,.av RK.bb a.2⟩])
 a0:=λst=>((lk st 7).toInt,(sM RK.bb st.rows (rN st 6)))
 jo:=λst=>[]++[(rX st 6 0)]}
def Qwe:List (Nat×bw):=[(5,Z5o)]
def Z7l:bc:=mT 234 [] true [.one (.av .ax),.one (.str)] [] (λa r=>N9 (jj .ax a 0) (iq a 1)) (λX=>.du [.all 0,.bool (X.2)]) (λX=>[⟨false,177,3,.av .bb (X.1)⟩])
theorem Z4l:bn pG Z7l:=oT (.cons Qj6 (.cons Qzp (.cons Z6k (.nil)))) Tryz.func234 Tryz.call234 [.row 177 3 (.av .bb)] Qwe 3
def Qxh(s:List UInt8)(z:(List UInt8)×(Int)):Nat:=(s.length-z.2).toNat
def Oa(s:List UInt8):Tree ((List UInt8)×kE×Bool):=
.lp inferInstance (Qxh s (s,0)+1) ((rE (s:List UInt8)/\rE ([]:List UInt8)/\rZ/\rE (false:Bool)/\rE (0:Int)/\True)/\(rE ([]:List UInt8)/\rE (0:Int)/\True/\rE (0:Int)/\rE (0:Int)/\rE (0:Int)/\True)/\True) (s,0) λ(v0:List UInt8×Int)=>.br (decide (v0.2<(v0.1.length:Int))) (.cn (decide (0<=v0.2/\v0.2<(v0.1.length:Int))) (.br ((↑(eW (v0.1.getD v0.2.toNat (0:UInt8))):Int)==(59:Int)) (.cn (decide ((0:Int)<=(0:Int)/\0<=v0.2/\v0.2<=(v0.1.length:Int))) (.nx ((rE ((dB (dF v0.2-dF 0) (dC (dF 0) v0.1)):List UInt8)/\rE ([]:List UInt8)/\rZ/\rE (false:Bool)/\rE ((wrap i64 (v0.2+1)):Int)/\True)/\(rE ([]:List UInt8)/\rE (0:Int)/\True/\rE (0:Int)/\rE (0:Int)/\rE (0:Int)/\True)/\True) (Sum.inl (dB (dF v0.2-dF 0) (dC (dF 0) v0.1),wrap i64 (v0.2+1))))) (.nx ((rE v0.1/\rE ([]:List UInt8)/\rZ/\rE (false:Bool)/\rE ((wrap i64 (v0.2+1)):Int)/\True)/\(rE ([]:List UInt8)/\rE (0:Int)/\True/\rE (0:Int)/\rE (0:Int)/\rE (0:Int)/\True)/\True) (Sum.inl (v0.1,wrap i64 (v0.2+1)))))) (.an (Qih v0.1) (.lv (Z4p v0.1) λ(x0:List lI×Bool)=>.br (!x0.2) (.lf (Sum.inr ([],{eg:=[],op:=0,l:=[],E0:=0,at_:=0,size:=0},false))) (let E9:=x0.1.getD (dF 0) (RK.cu RK.ax);let T1:Tree ((List UInt8×Int)⊕(((List UInt8)×kE×Bool))):=.an (N5 E9.text) (.lv (V1 E9.text) λ(x27:List UInt8×Bool)=>.br (!x27.2) (.lf (Sum.inr ([],{eg:=[],op:=0,l:=[],E0:=0,at_:=0,size:=0},false))) (let E20:=dF (x0.1.length:Int)-dF 1;let T6:Tree ((List UInt8×Int)⊕(((List UInt8)×kE×Bool))):=let E31:=dB E20 (dC (dF 1) x0.1);.an (N8 E31 x27.1) (.lv (V2 E31 x27.1) λ(Nc:List nJ×Bool)=>.br (!Nc.2) (.lf (Sum.inr ([],{eg:=[],op:=0,l:=[],E0:=0,at_:=0,size:=0},false))) (.an (K3 E9.text) (.lv (Sm E9.text) λ(x29:Int)=>.br (decide (E9.text=[(108:UInt8),105])) (.lf (Sum.inr ([],{eg:=E9.text,op:=x29,l:=Nc.1,E0:=0,at_:=0,size:=2},true))) (.br (decide (E9.text=[(46:UInt8),115,112,97,99,101])) (let BJ:=bT 3 3&&bJ 0 3&&decide ((0:Int)<=(0:Int)/\0<(Nc.1.length:Int));.cn BJ (let E21:=Nc.1.getD (dF 0) (RK.cu RK.bb);.br (decide (E21.num<0)) (.lf (Sum.inr ([],{eg:=[],op:=0,l:=[],E0:=0,at_:=0,size:=0},false))) (.cn BJ (.br (decide (E21.num>1024)) (.lf (Sum.inr ([],{eg:=[],op:=0,l:=[],E0:=0,at_:=0,size:=0},false))) (.cn BJ (.lf (Sum.inr ([],{eg:=E9.text,op:=x29,l:=Nc.1,E0:=0,at_:=0,size:=E21.num},true)))))))) (.lf (Sum.inr ([],{eg:=E9.text,op:=x29,l:=Nc.1,E0:=0,at_:=0,size:=1},true)))))));.br (decide ((↑E20:Int)>(0:Int))) (.cn (bT 3 3&&bJ 0 3&&decide ((0:Int)<=(0:Int)/\0<(↑E20:Int))) (.br (!(x0.1.getD (dF 1+dF 0) (RK.cu RK.ax)).Au) (.lf (Sum.inr ([],{eg:=[],op:=0,l:=[],E0:=0,at_:=0,size:=0},false))) T6)) T6));let E25:=dF (x0.1.length:Int)-dF 2;let E8:=(↑E25:Int);let nw:=x0.1.getD (dF 2+dF 0) (RK.cu RK.ax);let pj:=x0.1.getD (dF 1) (RK.cu RK.ax);let E16:=bT 3 3&&bJ 0 3&&decide ((0:Int)<=(0:Int)/\0<(x0.1.length:Int));let E17:=bT 3 3&&bJ 0 3&&decide ((0:Int)<=(1:Int)/\1<(x0.1.length:Int));let E19:=bT 3 3&&bJ 0 3&&decide ((0:Int)<=(2:Int)/\2<=(x0.1.length:Int)/\(x0.1.length:Int)<=(x0.1.length:Int));let E28:=bT 3 3&&bJ 0 3&&decide ((0:Int)<=(0:Int)/\0<E8);let E30:=decide ((x0.1.length:Int)>=(2:Int));let T3:Tree ((List UInt8×Int)⊕(((List UInt8)×kE×Bool))):=.br ((x0.1.length:Int)==(0:Int)) (.lf (Sum.inr ([],{eg:=[],op:=0,l:=[],E0:=0,at_:=0,size:=0},true))) (.cn E16 (.cn (bT 3 3&&bJ 0 3&&decide ((0:Int)<=(1:Int)/\1<=(x0.1.length:Int)/\(x0.1.length:Int)<=(x0.1.length:Int))) (.br (decide (E9.text=[(46:UInt8)])) (.br E30 (.cn E17 (.br (!pj.Au) (.cn E17 (.cn (decide (1+dK pj.text<=maxLen)) (.cn E19 (.an (N5 ((46:UInt8)::pj.text)) (.lv (V1 ([(46:UInt8)]++pj.text)) λ(FO:List UInt8×Bool)=>.br (!FO.2) (.lf (Sum.inr ([],{eg:=[],op:=0,l:=[],E0:=0,at_:=0,size:=0},false))) (let T7:Tree ((List UInt8×Int)⊕(((List UInt8)×kE×Bool))):=let E32:=dB E25 (dC (dF 2) x0.1);.an (N8 E32 FO.1) (.lv (V2 E32 FO.1) λ(Sn:List nJ×Bool)=>.br (!Sn.2) (.lf (Sum.inr ([],{eg:=[],op:=0,l:=[],E0:=0,at_:=0,size:=0},false))) (.an (K3 ((46:UInt8)::pj.text)) (.lv (Sm ([(46:UInt8)]++pj.text)) λ(EK:Int)=>.br (decide ([(46:UInt8)]++pj.text=[(46:UInt8),115,112,97,99,101])) (let Im:=bT 3 3&&bJ 0 3&&decide ((0:Int)<=(0:Int)/\0<(Sn.1.length:Int));.cn Im (let E22:=Sn.1.getD (dF 0) (RK.cu RK.bb);.br (decide (E22.num<0)) (.lf (Sum.inr ([],{eg:=[],op:=0,l:=[],E0:=0,at_:=0,size:=0},false))) (.cn Im (.br (decide (E22.num>1024)) (.lf (Sum.inr ([],{eg:=[],op:=0,l:=[],E0:=0,at_:=0,size:=0},false))) (.cn Im (.lf (Sum.inr ([],{eg:=(46:UInt8)::pj.text,op:=EK,l:=Sn.1,E0:=0,at_:=0,size:=E22.num},true)))))))) (.lf (Sum.inr ([],{eg:=(46:UInt8)::pj.text,op:=EK,l:=Sn.1,E0:=0,at_:=0,size:=1},true))))));.br (decide (E8>(0:Int))) (.cn E28 (.br (!nw.Au) (.lf (Sum.inr ([],{eg:=[],op:=0,l:=[],E0:=0,at_:=0,size:=0},false))) T7)) T7)))))) T1)) T1) T1)));.br E30 (.cn E17 (.br (decide (pj.text=[(58:UInt8)])) (.cn E16 (.cn E16 (.br (E9.kind !=1) (.lf (Sum.inr ([],{eg:=[],op:=0,l:=[],E0:=0,at_:=0,size:=0},false))) (.an (Xl E9.text) (.lv (Z49 E9.text) λ(x1:Bool)=>.br (!x1) (.lf (Sum.inr ([],{eg:=[],op:=0,l:=[],E0:=0,at_:=0,size:=0},false))) (.cn E19 (.br (E8==(0:Int)) (.lf (Sum.inr (E9.text,{eg:=[],op:=0,l:=[],E0:=0,at_:=0,size:=0},true))) (.cn E28 (.cn (bT 3 3&&bJ 0 3&&decide ((0:Int)<=(1:Int)/\1<=E8/\E8<=E8)) (let T2:Tree ((List UInt8×Int)⊕(((List UInt8)×kE×Bool))):=.an (N5 nw.text) (.lv (V1 nw.text) λ(x7:List UInt8×Bool)=>.br (!x7.2) (.lf (Sum.inr ([],{eg:=[],op:=0,l:=[],E0:=0,at_:=0,size:=0},false))) (let T4:Tree ((List UInt8×Int)⊕(((List UInt8)×kE×Bool))):=let E26:=dB (dF E8-dF 1) (dC (dF 2+dF 1) x0.1);.an (N8 E26 x7.1) (.lv (V2 E26 x7.1) λ(x8:List nJ×Bool)=>.br (!x8.2) (.lf (Sum.inr ([],{eg:=[],op:=0,l:=[],E0:=0,at_:=0,size:=0},false))) (.an (K3 nw.text) (.lv (Sm nw.text) λ(x9:Int)=>.br (decide (nw.text=[(108:UInt8),105])) (.lf (Sum.inr (E9.text,{eg:=nw.text,op:=x9,l:=x8.1,E0:=0,at_:=0,size:=2},true))) (.br (decide (nw.text=[(46:UInt8),115,112,97,99,101])) (let Io:=bT 3 3&&bJ 0 3&&decide ((0:Int)<=(0:Int)/\0<(x8.1.length:Int));.cn Io (let E23:=x8.1.getD (dF 0) (RK.cu RK.bb);.br (decide (E23.num<0)) (.lf (Sum.inr ([],{eg:=[],op:=0,l:=[],E0:=0,at_:=0,size:=0},false))) (.cn Io (.br (decide (E23.num>1024)) (.lf (Sum.inr ([],{eg:=[],op:=0,l:=[],E0:=0,at_:=0,size:=0},false))) (.cn Io (.lf (Sum.inr (E9.text,{eg:=nw.text,op:=x9,l:=x8.1,E0:=0,at_:=0,size:=E23.num},true)))))))) (.lf (Sum.inr (E9.text,{eg:=nw.text,op:=x9,l:=x8.1,E0:=0,at_:=0,size:=1},true)))))));.br (decide ((↑(dF E8-dF 1):Int)>(0:Int))) (.cn (bT 3 3&&bJ 0 3&&decide ((0:Int)<=(0:Int)/\0<(↑(dF E8-dF 1):Int))) (.br (!(x0.1.getD (dF 2+dF 1+dF 0) (RK.cu RK.ax)).Au) (.lf (Sum.inr ([],{eg:=[],op:=0,l:=[],E0:=0,at_:=0,size:=0},false))) T4)) T4));.br (decide (nw.text=[(46:UInt8)])) (.br (decide (E8>=(2:Int))) (let E29:=bT 3 3&&bJ 0 3&&decide ((0:Int)<=(1:Int)/\1<E8);.cn E29 (let oe:=x0.1.getD (dF 2+dF 1) (RK.cu RK.ax);.br (!oe.Au) (.cn E29 (.cn (decide (1+dK oe.text<=maxLen)) (.cn (bT 3 3&&bJ 0 3&&decide ((0:Int)<=(2:Int)/\2<=E8/\E8<=E8)) (.an (N5 ((46:UInt8)::oe.text)) (.lv (V1 ([(46:UInt8)]++oe.text)) λ(x2:List UInt8×Bool)=>.br (!x2.2) (.lf (Sum.inr ([],{eg:=[],op:=0,l:=[],E0:=0,at_:=0,size:=0},false))) (let T5:Tree ((List UInt8×Int)⊕(((List UInt8)×kE×Bool))):=let E27:=dB (dF E8-dF 2) (dC (dF 2+dF 2) x0.1);.an (N8 E27 x2.1) (.lv (V2 E27 x2.1) λ(x3:List nJ×Bool)=>.br (!x3.2) (.lf (Sum.inr ([],{eg:=[],op:=0,l:=[],E0:=0,at_:=0,size:=0},false))) (.an (K3 ((46:UInt8)::oe.text)) (.lv (Sm ([(46:UInt8)]++oe.text)) λ(x4:Int)=>.br (decide ([(46:UInt8)]++oe.text=[(46:UInt8),115,112,97,99,101])) (let E18:=bT 3 3&&bJ 0 3&&decide ((0:Int)<=(0:Int)/\0<(x3.1.length:Int));.cn E18 (let E24:=x3.1.getD (dF 0) (RK.cu RK.bb);.br (decide (E24.num<0)) (.lf (Sum.inr ([],{eg:=[],op:=0,l:=[],E0:=0,at_:=0,size:=0},false))) (.cn E18 (.br (decide (E24.num>1024)) (.lf (Sum.inr ([],{eg:=[],op:=0,l:=[],E0:=0,at_:=0,size:=0},false))) (.cn E18 (.lf (Sum.inr (E9.text,{eg:=(46:UInt8)::oe.text,op:=x4,l:=x3.1,E0:=0,at_:=0,size:=E24.num},true)))))))) (.lf (Sum.inr (E9.text,{eg:=(46:UInt8)::oe.text,op:=x4,l:=x3.1,E0:=0,at_:=0,size:=1},true))))));.br (decide ((↑(dF E8-dF 2):Int)>(0:Int))) (.cn (bT 3 3&&bJ 0 3&&decide ((0:Int)<=(0:Int)/\0<(↑(dF E8-dF 2):Int))) (.br (!(x0.1.getD (dF 2+dF 2+dF 0) (RK.cu RK.ax)).Au) (.lf (Sum.inr ([],{eg:=[],op:=0,l:=[],E0:=0,at_:=0,size:=0},false))) T5)) T5)))))) T2)) T2) T2)))))))))) T3)) T3)))
def Z5h s:=(Oa s).m
abbrev Qh4 s:=(Oa s).p
def Z69:bw:={
 α:=(List UInt8)×(Int)
 F:=λst a=>([(0,.str a.1),(2,(lk st 2)),(3,.ptr 0 0 0),(4,(lk st 4)),(5,.int i64 a.2)],[⟨true,175,6,.gen [[(cT st 3 0),(cT st 3 1),(cT st 3 2),(cT st 3 3),(cT st 3 4),(cT st 3 5)]]⟩])
 a0:=λst=>((lk st 0).toStr,(lk st 5).toInt)
 jo:=λst=>[]++[(rX st 3 0)]}
def Z13:List (Nat×bw):=[(2,Z69)]
def Zar:bc:=mT 152 [] false [.one (.str)] [] (λa r=>Oa (iq a 0)) (λX=>.du [.str (X.1),.agg (kE.cells (X.2.1)),.bool (X.2.2)]) (λX=>[])
theorem Z6n:bn pG Zar:=oT (.cons Z7h (.cons Qzp (.cons Z4i (.cons Z4l (.cons Qlk (.nil)))))) Tryz.func152 Tryz.call152 [.sl (.av .bb) false] Z13 3 (jU:=nofun)
def Ql2(l:List om)(label:List UInt8)(z:(Int)):Prop:=0<=z/\z<=l.length
def Qcn(l:List om)(label:List UInt8)(z:(Int)):Nat:=(l.length-z).toNat
def V3(l:List om)(label:List UInt8):Tree (Int×Bool):=
.lp inferInstance (Qcn l label 0+1) ((nR RK.dm 2 l/\rE (label:List UInt8)/\rE (0:Int)/\True)/\True) 0 λ(v0:Int)=>.br (decide (v0<(l.length:Int))) (let E1:=bT 2 2&&bJ 0 2&&decide (0<=v0/\v0<(l.length:Int));.cn E1 (let E2:=l.getD v0.toNat (RK.cu RK.dm);.br (decide (E2.Name=label)) (.cn E1 (.lf (Sum.inr (E2.Addr,true)))) (.nx ((nR RK.dm 2 l/\rE (label:List UInt8)/\rE ((wrap i64 (v0+1)):Int)/\True)/\True) (Sum.inl (wrap i64 (v0+1)))))) (.lf (Sum.inr (0,false)))
def Qpp l label:=(V3 l label).m
def GS(l:List om)(label:List UInt8):Prop:=
l.length<=1000000000000
theorem Z0y(l:List om)(label:List UInt8)(hw:GS l label):(V3 l label).p:=by
 simp only[GS]at hw
 unfold Tree.p V3
 repeat'(first|refine fy (inv:=Ql2 l label) (μ:=Qcn l label) ?_ (cO _) (λ_ _=>?_)|exact trivial|refine aa (λ_=>?_) (λ_=>?_)|refine ay ?_ ?_|refine cz ?_ ?_|refine ar (λ_ _=>?_)|refine ff ?_|refine fe ?_|refine And.intro ?_ ?_)
 all_goals((try simp only[Ql2,Qcn]at*);exact oR)
def Z3o:bw:={
 α:=(Int)
 F:=λst a=>([(0,(lk st 0)),(1,(lk st 1)),(6,.int i64 a)],[])
 a0:=λst=>(lk st 6).toInt
 jo:=λst=>[]++[]}
def Qxx:List (Nat×bw):=[(2,Z3o)]
def Z75:bc:=mW 95 [] true [.one (.av .dm),.one (.str)] [] (λa r=>GS (jj .dm a 0) (iq a 1)) (λa r=>Qpp (jj .dm a 0) (iq a 1)) (λX=>.du [.int .u32 (X.1),.bool (X.2)]) (λX=>[])
theorem Qp0:bn pG Z75:=wo drawn mX (.nil) Tryz.func95 Tryz.call95 (λa r=>V3 (jj .dm a 0) (iq a 1)) [] Qxx 3 (hp:=λa r h=>Z0y (jj .dm a 0) (iq a 1) h)
def Z2t(src:List UInt8)(z:(Int)×(Int)×(List om)×(List kE)):Nat:=((Qxf src).length-z.2.1).toNat
def Ob(src:List UInt8):Tree ((List om)×(List kE)×tH):=
.br (decide ((src.length:Int)>(8192:Int))) (.lf ([],[],{Aq:=300,nI:=0})) (.an (Qk3 src) (.lv (Qxf src) λ(x0:List (List UInt8))=>.lp inferInstance (Z2t src (0,0,[],[])+1) ((rZ/\True/\True/\rE (0:Int)/\True/\rE (0:Int)/\True)/\(rE (0:Int)/\rE (0:Int)/\True)/\rE (x0:List (RK.T RK.str))/\rE ([]:List (RK.T RK.dm))/\rE ([]:List (RK.T RK.ai))/\True) (0,0,[],[]) λ(v0:Int×Int×List om×List kE)=>.br (decide (v0.2.1<(x0.length:Int))) (.cn (bT 1 1&&bJ 0 1&&decide (0<=v0.2.1/\v0.2.1<(x0.length:Int))) (let E3:=x0.getD v0.2.1.toNat (RK.cu RK.str);.an (Qh4 E3) (.lv (Z5h E3) λ(x1:List UInt8×kE×Bool)=>.br (!x1.2.2) (.lf (Sum.inr ([],[],{Aq:=301,nI:=wrap i64 (v0.2.1+1)}))) (let E1:=({Aq:=305,nI:=wrap i64 (v0.2.1+1)}:tH);let E2:=decide (72*(v0.2.2.2.length+1)<=140737488355328);let E4:=decide (wrap i64 (v0.1+x1.2.1.size)>1024);.br (!decide (x1.1=[])) (.an (GS v0.2.2.1 x1.1) (.lv (Qpp v0.2.2.1 x1.1) λ(x2:Int×Bool)=>.br x2.2 (.lf (Sum.inr ([],[],{Aq:=303,nI:=wrap i64 (v0.2.1+1)}))) (.cn (decide (24*(v0.2.2.1.length+1)<=140737488355328)) (let E5:=({Name:=x1.1,Addr:=wrap u32 (wrap i64 (4*v0.1))}:om);.br (!decide (x1.2.1.eg=[])) (.cn E2 (.br E4 (.lf (Sum.inr ([],[],E1))) (.nx ((rZ/\True/\True/\rE ((wrap i64 (v0.1+x1.2.1.size)):Int)/\True/\rE ((wrap i64 (v0.2.1+1)):Int)/\True)/\(rE (0:Int)/\rE (0:Int)/\True)/\rE (x0:List (RK.T RK.str))/\rE ((v0.2.2.1++[{Name:=x1.1,Addr:=wrap u32 (wrap i64 (4*v0.1))}]):List (RK.T RK.dm))/\rE ((v0.2.2.2++[{eg:=x1.2.1.eg,op:=x1.2.1.op,l:=x1.2.1.l,E0:=wrap i64 (v0.2.1+1),at_:=v0.1,size:=x1.2.1.size}]):List (RK.T RK.ai))/\True) (Sum.inl (wrap i64 (v0.1+x1.2.1.size),wrap i64 (v0.2.1+1),v0.2.2.1++[E5],v0.2.2.2++[{eg:=x1.2.1.eg,op:=x1.2.1.op,l:=x1.2.1.l,E0:=wrap i64 (v0.2.1+1),at_:=v0.1,size:=x1.2.1.size}]))))) (.br (decide (v0.1>1024)) (.lf (Sum.inr ([],[],E1))) (.nx ((rZ/\True/\True/\rE v0.1/\True/\rE ((wrap i64 (v0.2.1+1)):Int)/\True)/\(rE (0:Int)/\rE (0:Int)/\True)/\rE (x0:List (RK.T RK.str))/\rE ((v0.2.2.1++[{Name:=x1.1,Addr:=wrap u32 (wrap i64 (4*v0.1))}]):List (RK.T RK.dm))/\rE v0.2.2.2/\True) (Sum.inl (v0.1,wrap i64 (v0.2.1+1),v0.2.2.1++[E5],v0.2.2.2)))))))) (.br (!decide (x1.2.1.eg=[])) (.cn E2 (.br E4 (.lf (Sum.inr ([],[],E1))) (.nx ((rZ/\True/\True/\rE ((wrap i64 (v0.1+x1.2.1.size)):Int)/\True/\rE ((wrap i64 (v0.2.1+1)):Int)/\True)/\(rE (0:Int)/\rE (0:Int)/\True)/\rE (x0:List (RK.T RK.str))/\rE v0.2.2.1/\rE ((v0.2.2.2++[{eg:=x1.2.1.eg,op:=x1.2.1.op,l:=x1.2.1.l,E0:=wrap i64 (v0.2.1+1),at_:=v0.1,size:=x1.2.1.size}]):List (RK.T RK.ai))/\True) (Sum.inl (wrap i64 (v0.1+x1.2.1.size),wrap i64 (v0.2.1+1),v0.2.2.1,v0.2.2.2++[{eg:=x1.2.1.eg,op:=x1.2.1.op,l:=x1.2.1.l,E0:=wrap i64 (v0.2.1+1),at_:=v0.1,size:=x1.2.1.size}]))))) (.br (decide (v0.1>1024)) (.lf (Sum.inr ([],[],E1))) (.nx ((rZ/\True/\True/\rE v0.1/\True/\rE ((wrap i64 (v0.2.1+1)):Int)/\True)/\(rE (0:Int)/\rE (0:Int)/\True)/\rE (x0:List (RK.T RK.str))/\rE v0.2.2.1/\rE v0.2.2.2/\True) (Sum.inl (v0.1,wrap i64 (v0.2.1+1),v0.2.2.1,v0.2.2.2))))))))) (.lf (Sum.inr (v0.2.2.1,v0.2.2.2,{Aq:=0,nI:=0})))))
def Z3h src:=(Ob src).m
abbrev Qm7 src:=(Ob src).p
def Zfo:bw:={
 α:=(Int)×(Int)×(List om)×(List kE)
 F:=λst a=>([(4,.ptr 0 0 0),(5,.all 2),(6,.all 3),(7,.int i64 a.1),(8,.all 1),(9,.int i64 a.2.1)],[⟨true,112,2,.gen [[(cT st 4 0),(cT st 4 1)]]⟩,⟨false,9,1,ng st.rows (rN st 8)⟩,⟨false,238,2,.av RK.dm a.2.2.1⟩,⟨false,175,6,.av RK.ai a.2.2.2⟩])
 a0:=λst=>((lk st 7).toInt,(lk st 9).toInt,(sM RK.dm st.rows (rN st 5)),(sM RK.ai st.rows (rN st 6)))
 jo:=λst=>[]++[(rX st 4 0),(rX st 8 1),(rX st 5 2),(rX st 6 3)]}
def Z6q:List (Nat×bw):=[(8,Zfo)]
def Zlc:bc:=mT 94 [] false [.one (.str)] [] (λa r=>Ob (iq a 0)) (λX=>.du [.all 0,.all 1,.agg (tH.cells (X.2.2))]) (λX=>[⟨false,238,2,.av .dm (X.1)⟩,⟨false,175,6,.av .ai (X.2.1)⟩])
theorem Zg7:bn pG Zlc:=oT (.cons Zb3 (.cons Z6n (.cons Qp0 (.nil)))) Tryz.func94 Tryz.call94 [.row 238 2 (.av .dm),.row 175 6 (.av .ai)] Z6q 3 (jU:=nofun)
def Od(st:kE)(v:Int):Tree (Int×Bool):=
.lv (o8 st.op) λ(x0:Int)=>.lv (XJ x0) λ(x1:Int×Int)=>let E7:=st.l.getD (dF 0) (RK.cu RK.bb);let E8:=st.l.getD (dF 1) (RK.cu RK.bb);let E9:=bT 3 3&&bJ 0 3&&decide ((0:Int)<=(0:Int)/\0<(st.l.length:Int));let nw:=bT 3 3&&bJ 0 3&&decide ((0:Int)<=(1:Int)/\1<(st.l.length:Int));let oe:=st.l.getD (dF 2) (RK.cu RK.bb);let pj:=bT 3 3&&bJ 0 3&&decide ((0:Int)<=(2:Int)/\2<(st.l.length:Int));.br (x0==2) (.cn E9 (.cn nw (.cn pj (let T2:Tree ((Int×Bool)):=.br (decide (0<x1.1)) (.lf (0,false)) (.br (decide (0>x1.2)) (.lf (0,false)) (.lv (o7 {Op:=st.op,A:=E7.kK,B:=E8.kK,C:=oe.kK,bq:=wrap i32 0}) λ(x2:Int×Bool)=>.lf (x2.1,x2.2)));.br (x0==2) T2 (.br (x0==1) T2 (.br (decide (v<x1.1)) (.lf (0,false)) (.br (decide (v>x1.2)) (.lf (0,false)) (.lv (o7 {Op:=st.op,A:=E7.kK,B:=E8.kK,C:=oe.kK,bq:=wrap i32 v}) λ(x4:Int×Bool)=>.lf (x4.1,x4.2))))))))) (let T1:Tree ((Int×Bool)):=.br (decide (x0>=6)) (.cn E9 (let T5:Tree ((Int×Bool)):=.br (decide (0<x1.1)) (.lf (0,false)) (.br (decide (0>x1.2)) (.lf (0,false)) (.lv (o7 {Op:=st.op,A:=E7.kK,B:=0,C:=0,bq:=wrap i32 0}) λ(x8:Int×Bool)=>.lf (x8.1,x8.2)));.br (x0==2) T5 (.br (x0==1) T5 (.br (decide (v<x1.1)) (.lf (0,false)) (.br (decide (v>x1.2)) (.lf (0,false)) (.lv (o7 {Op:=st.op,A:=E7.kK,B:=0,C:=0,bq:=wrap i32 v}) λ(ki:Int×Bool)=>.lf (ki.1,ki.2))))))) (.br (x0 !=1) (.cn E9 (.cn nw (let T3:Tree ((Int×Bool)):=.br (decide (0<x1.1)) (.lf (0,false)) (.br (decide (0>x1.2)) (.lf (0,false)) (.lv (o7 {Op:=st.op,A:=E7.kK,B:=E8.kK,C:=0,bq:=wrap i32 0}) λ(mI:Int×Bool)=>.lf (mI.1,mI.2)));.br (x0==2) T3 (.br (x0==1) T3 (.br (decide (v<x1.1)) (.lf (0,false)) (.br (decide (v>x1.2)) (.lf (0,false)) (.lv (o7 {Op:=st.op,A:=E7.kK,B:=E8.kK,C:=0,bq:=wrap i32 v}) λ(me:Int×Bool)=>.lf (me.1,me.2)))))))) (let T6:Tree ((Int×Bool)):=.br (decide (0<x1.1)) (.lf (0,false)) (.br (decide (0>x1.2)) (.lf (0,false)) (.lv (o7 {Op:=st.op,A:=0,B:=0,C:=0,bq:=wrap i32 0}) λ(uM:Int×Bool)=>.lf (uM.1,uM.2)));.br (x0==2) T6 (.br (x0==1) T6 (.br (decide (v<x1.1)) (.lf (0,false)) (.br (decide (v>x1.2)) (.lf (0,false)) (.lv (o7 {Op:=st.op,A:=0,B:=0,C:=0,bq:=wrap i32 v}) λ(uO:Int×Bool)=>.lf (uO.1,uO.2)))))));.br (decide (st.op>=32)) (.br (decide (st.op<=36)) (.cn E9 (.cn pj (.cn nw (let T4:Tree ((Int×Bool)):=.br (decide (0<x1.1)) (.lf (0,false)) (.br (decide (0>x1.2)) (.lf (0,false)) (.lv (o7 {Op:=st.op,A:=E7.kK,B:=oe.kK,C:=0,bq:=wrap i32 0}) λ(x5:Int×Bool)=>.lf (x5.1,x5.2)));.br (x0==2) T4 (.br (x0==1) T4 (.br (decide (E8.num<x1.1)) (.lf (0,false)) (.br (decide (E8.num>x1.2)) (.lf (0,false)) (.lv (o7 {Op:=st.op,A:=E7.kK,B:=oe.kK,C:=0,bq:=wrap i32 E8.num}) λ(x7:Int×Bool)=>.lf (x7.1,x7.2))))))))) T1) T1)
def V4 st v:=(Od st v).m
abbrev Oc st v:=(Od st v).p
def Zjq:bc:=mT 97 [] true [.agg kE.sig,.one (.int .i64)] [] (λa r=>Od (kE.of (aC a 0)) (aq a 1)) (λX=>.du [.int .u32 (X.1),.bool (X.2)]) (λX=>[])
theorem Zet:bn pG Zjq:=oT (.cons Si (.cons Qsb (.cons Qjz (.nil)))) Tryz.func97 Tryz.call97 [] [] 2

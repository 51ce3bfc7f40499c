import Derived.Test.YthjfindbamdacaaGreatDoorAuditComparesYz
open UInt8 renaming toNat->eW,ofNat->eX
open List renaming take->cZ,drop->dA,length->dK,getD->aK
open Int renaming toNat->dF,tdiv->eU
open Nat renaming lt_succ_self->cO,beq->bT,blt->bJ
set_option maxRecDepth 100000
set_option linter.all false
namespace Go.Proofs.YthjfindbamdacaaGreatDoor
open Go Go.GD Go.IntKind
noncomputable section
instance Rc {α β:Type} [Inhabited β]:Inhabited (α⊕β):=⟨.inr default⟩
def Qyw(src:List UInt8)(z:(Int)×(Int)×(List (List UInt8))):Nat:=(src.length-z.2.1).toNat
def M0(src:List UInt8):Tree (List (List UInt8)):=
.lp inferInstance (Qyw src (0,0,[])+1) ((rE (src:List UInt8)/\True/\rE (0:Int)/\rE (0:Int)/\True)/\rE ([]:List (RK.T RK.str))/\True) (0,0,[]) λ(v0:Int×Int×List (List UInt8))=>let E1:=decide (16*(v0.2.2.length+1)<=140737488355328);.br (decide (v0.2.1<(src.length:Int))) (.cn (decide (0<=v0.2.1/\v0.2.1<(src.length:Int))) (.br ((↑(eW (src.getD v0.2.1.toNat (0:UInt8))):Int)==(10:Int)) (.cn (decide (0<=v0.1/\v0.1<=v0.2.1/\v0.2.1<=(src.length:Int))) (.cn E1 (.nx ((rE (src:List UInt8)/\True/\rE ((wrap i64 (v0.2.1+1)):Int)/\rE ((wrap i64 (v0.2.1+1)):Int)/\True)/\rE ((v0.2.2++[cZ (dF v0.2.1-dF v0.1) (dA v0.1.toNat src)]):List (RK.T RK.str))/\True) (Sum.inl (wrap i64 (v0.2.1+1),wrap i64 (v0.2.1+1),v0.2.2++[cZ (dF v0.2.1-dF v0.1) (dA v0.1.toNat src)]))))) (.nx ((rE (src:List UInt8)/\True/\rE v0.1/\rE ((wrap i64 (v0.2.1+1)):Int)/\True)/\rE v0.2.2/\True) (Sum.inl (v0.1,wrap i64 (v0.2.1+1),v0.2.2))))) (.br (decide (v0.1<(src.length:Int))) (.cn (decide (0<=v0.1/\v0.1<=(src.length:Int)/\(src.length:Int)<=(src.length:Int))) (.cn E1 (.lf (Sum.inr (v0.2.2++[cZ (dF (src.length:Int)-dF v0.1) (dA v0.1.toNat src)]))))) (.lf (Sum.inr v0.2.2)))
def Qwf src:=(M0 src).m
abbrev Qir src:=(M0 src).p
def Zb4:bw:={
 α:=(Int)×(Int)×(List (List UInt8))
 F:=λst a=>([(0,(lk st 0)),(3,.all 0),(4,.int i64 a.1),(5,.int i64 a.2.1)],[⟨false,9,1,.bc RK.str a.2.2⟩])
 a0:=λst=>((lk st 4).toInt,(lk st 5).toInt,(Qf RK.str st.rows (rN st 3)))
 ji:=λst=>[]++[(rX st 3 0)]}
def Z3p:List (Nat×bw):=[(4,Zb4)]
def Zes:ba:=mT 151 [] true [.one (.str)] [] (λa r=>M0 (gw a 0)) (λX=>.all 0) (λX=>[⟨false,9,1,.bc .str X⟩])
theorem Zbs:bj pG Zes:=oT (.nil) Tryz.func151 Tryz.call151 [.row 9 1 (.bc .str)] Z3p 3
def Qsm(c:Int):Tree Bool:=
.br (decide (c>=97)) (.lf (decide (c<=122))) (.lf false)
def UI c:=(Qsm c).m
def Zan:ba:=mS 287 [] true [.one (.int .u8)] [] (λa r=>Qsm (ar a 0)) (λX=>.bool X) (λX=>[])
theorem Qqe:bj pG Zan:=oS (.nil) Tryz.func287 Tryz.call287 [] [] 2
def Qy(c:Int):Tree Bool:=
.br (decide (c>=48)) (.lf (decide (c<=57))) (.lf false)
def Mf c:=(Qy c).m
def Zg3:ba:=mS 288 [] true [.one (.int .u8)] [] (λa r=>Qy (ar a 0)) (λX=>.bool X) (λX=>[])
theorem Qua:bj pG Zg3:=oS (.nil) Tryz.func288 Tryz.call288 [] [] 2
def Qv8(s:List UInt8)(z:(Bool)×(Int)×(List kX)):Nat:=(s.length-z.2.1).toNat
def Qwa(s:List UInt8)(v0:Bool×Int×List kX)(z:(Int)):Nat:=(s.length-z).toNat
def Quw(s:List UInt8)(v0:Bool×Int×List kX)(z:(Int)):Nat:=(s.length-z).toNat
def M1(s:List UInt8):Tree ((List kX)×Bool):=
.lp inferInstance (Qv8 s (true,0,[])+1) ((rE (s:List UInt8)/\True/\rE (true:Bool)/\rE (0:Int)/\True)/\rE ([]:List (RK.T RK.av))/\True) (true,0,[]) λ(v0:Bool×Int×List kX)=>.br (decide (v0.2.1<(s.length:Int))) (.cn (decide (0<=v0.2.1/\v0.2.1<(s.length:Int))) (let E7:=(↑(eW (s.getD v0.2.1.toNat (0:UInt8))):Int);.br (E7==(32:Int)) (.nx ((rE (s:List UInt8)/\True/\rE (true:Bool)/\rE ((wrap i64 (v0.2.1+1)):Int)/\True)/\rE v0.2.2/\True) (Sum.inl (true,wrap i64 (v0.2.1+1),v0.2.2))) (.lv (UI E7) λ(x0:Bool)=>let mL:=decide (32*(v0.2.2.length+1)<=140737488355328);let Bc:=dA v0.2.1.toNat s;.br x0 (.lp inferInstance (Qwa s v0 v0.2.1+1) ((rE (s:List UInt8)/\True/\rE v0.1/\rE v0.2.1/\rE v0.2.1/\True)/\rE v0.2.2/\True) v0.2.1 λ(v1:Int)=>let T3:Tree ((Int)⊕((Bool×Int×List kX)⊕(((List kX)×Bool)))):=.cn (decide (0<=v0.2.1/\v0.2.1<=v1/\v1<=(s.length:Int))) (.cn mL (.nx ((rE (s:List UInt8)/\True/\rE (false:Bool)/\rE (v1:Int)/\True)/\rE ((v0.2.2++[{kind:=1,text:=cZ (dF v1-dF v0.2.1) (dA v0.2.1.toNat s),wT:=v0.1}]):List (RK.T RK.av))/\True) (Sum.inr (Sum.inl (false,v1,v0.2.2++[{kind:=1,text:=cZ (dF v1-dF v0.2.1) Bc,wT:=v0.1}])))));.br (decide (v1<(s.length:Int))) (let nH:=decide (0<=v1/\v1<(s.length:Int));.cn nH (let E8:=(↑(eW (s.getD v1.toNat (0:UInt8))):Int);.lv (UI E8) λ(x1:Bool)=>let T5:Tree ((Int)⊕((Bool×Int×List kX)⊕(((List kX)×Bool)))):=.nx ((rE (s:List UInt8)/\True/\rE v0.1/\rE ((wrap i64 (v1+1)):Int)/\rE v0.2.1/\True)/\rE v0.2.2/\True) (Sum.inl (wrap i64 (v1+1)));.br x1 T5 (.cn nH (.lv (Mf E8) λ(x2:Bool)=>.br x2 T5 (.cn nH (.br (E8==(95:Int)) T5 T3)))))) T3) (.lv (Mf E7) λ(x3:Bool)=>let T2:Tree ((Bool×Int×List kX)⊕(((List kX)×Bool))):=.lp inferInstance (Quw s v0 (wrap i64 (v0.2.1+1))+1) ((rE (s:List UInt8)/\True/\rE v0.1/\rE ((wrap i64 (v0.2.1+1)):Int)/\rE v0.2.1/\True)/\rE v0.2.2/\True) (wrap i64 (v0.2.1+1)) λ(v1:Int)=>let T4:Tree ((Int)⊕((Bool×Int×List kX)⊕(((List kX)×Bool)))):=.cn (decide (0<=v0.2.1/\v0.2.1<=v1/\v1<=(s.length:Int))) (.cn mL (.nx ((rE (s:List UInt8)/\True/\rE (false:Bool)/\rE (v1:Int)/\True)/\rE ((v0.2.2++[{kind:=2,text:=cZ (dF v1-dF v0.2.1) (dA v0.2.1.toNat s),wT:=v0.1}]):List (RK.T RK.av))/\True) (Sum.inr (Sum.inl (false,v1,v0.2.2++[{kind:=2,text:=cZ (dF v1-dF v0.2.1) Bc,wT:=v0.1}])))));.br (decide (v1<(s.length:Int))) (let oF:=decide (0<=v1/\v1<(s.length:Int));.cn oF (let E9:=(↑(eW (s.getD v1.toNat (0:UInt8))):Int);.lv (UI E9) λ(x4:Bool)=>let T6:Tree ((Int)⊕((Bool×Int×List kX)⊕(((List kX)×Bool)))):=.nx ((rE (s:List UInt8)/\True/\rE v0.1/\rE ((wrap i64 (v1+1)):Int)/\rE v0.2.1/\True)/\rE v0.2.2/\True) (Sum.inl (wrap i64 (v1+1)));.br x4 T6 (.cn oF (.lv (Mf E9) λ(x5:Bool)=>.br x5 T6 (.cn oF (.br (E9==(95:Int)) T6 T4)))))) T4;.br x3 T2 (.br (E7==(45:Int)) T2 (let T1:Tree ((Bool×Int×List kX)⊕(((List kX)×Bool))):=.cn (decide (0<=v0.2.1/\v0.2.1<=wrap i64 (v0.2.1+1)/\wrap i64 (v0.2.1+1)<=(s.length:Int))) (.cn mL (.nx ((rE (s:List UInt8)/\True/\rE (false:Bool)/\rE ((wrap i64 (v0.2.1+1)):Int)/\True)/\rE ((v0.2.2++[{kind:=3,text:=cZ (dF (wrap i64 (v0.2.1+1))-dF v0.2.1) (dA v0.2.1.toNat s),wT:=v0.1}]):List (RK.T RK.av))/\True) (Sum.inl (false,wrap i64 (v0.2.1+1),v0.2.2++[{kind:=3,text:=cZ (dF (wrap i64 (v0.2.1+1))-dF v0.2.1) Bc,wT:=v0.1}]))));.br (E7==(44:Int)) T1 (.br (E7==(58:Int)) T1 (.br (E7==(40:Int)) T1 (.br (E7==(41:Int)) T1 (.br (E7==(46:Int)) T1 (.lf (Sum.inr ([],false))))))))))))) (.lf (Sum.inr (v0.2.2,true)))
def Z1y s:=(M1 s).m
abbrev Qhb s:=(M1 s).p
def Z5x:bw:={
 α:=(Bool)×(Int)×(List kX)
 F:=λst a=>([(0,(lk st 0)),(4,.all 0),(5,.bool a.1),(6,.int i64 a.2.1)],[⟨false,303,3,.bc RK.av a.2.2⟩])
 a0:=λst=>((lk st 5).toBool,(lk st 6).toInt,(Qf RK.av st.rows (rN st 4)))
 ji:=λst=>[]++[(rX st 4 0)]}
def Z43:bw:={
 α:=(Int)
 F:=λst a=>([(0,(lk st 0)),(4,.all 0),(5,(lk st 5)),(6,.int i64 a),(8,(lk st 8))],[⟨false,303,3,nW st.rows (rN st 4)⟩])
 a0:=λst=>(lk st 6).toInt
 ji:=λst=>[]++[(rX st 4 0)]}
def Z3x:bw:={
 α:=(Int)
 F:=λst a=>([(0,(lk st 0)),(4,.all 0),(5,(lk st 5)),(6,.int i64 a),(8,(lk st 8))],[⟨false,303,3,nW st.rows (rN st 4)⟩])
 a0:=λst=>(lk st 6).toInt
 ji:=λst=>[]++[(rX st 4 0)]}
def Qz7:List (Nat×bw):=[(4,Z5x),(12,Z43),(17,Z3x)]
def Zb6:ba:=mT 231 [] true [.one (.str)] [] (λa r=>M1 (gw a 0)) (λX=>.dt [.all 0,.bool (X.2)]) (λX=>[⟨false,303,3,.bc .av (X.1)⟩])
theorem Z4m:bj pG Zb6:=oT (.cons Qqe (.cons Qua (.nil))) Tryz.func231 Tryz.call231 [.row 303 3 (.bc .av)] Qz7 3
 def EO (p:Int->Prop) (r:Int->List UInt8) (n:Int):Tree (List UInt8):=
 .br (decide (n<(10:Int))) (.lf ([(λ(n:Int)=>eX n.toNat) (wrap u8 (wrap u64 ((48:Int)+n)))])) (.an (p (wrap u64 (eU n (10:Int)))) (.lv (r (wrap u64 (eU n (10:Int)))) λ(x0:List UInt8)=>.cn (decide (x0.length+dK [(λ(n:Int)=>eX n.toNat) (wrap u8 (wrap u64 ((48:Int)+Int.tmod n (10:Int))))]<=maxLen)) (.lf (x0++[(λ(n:Int)=>eX n.toNat) (wrap u8 (wrap u64 ((48:Int)+Int.tmod n (10:Int))))]))))
 def pS:Nat->Int->List UInt8
  |0,_=>[]
  |k+1,n=>(EO (λ_=>True) (pS k) n).m
 def JL (k:Nat) (n:Int):Prop:=0<=n/\n<10^k/\n<18446744073709551616/\0<k/\k<=30
 def ZQ (k:Nat):ba:=mo 225 [] true [.one (.int .u64)] [] (λargs rows=>JL k (ar args 0)) (λargs rows=>pS k (ar args 0)) (λX=>.str X) (λX=>[])
 theorem ox:∀k n,(pS k n).length<=k
  |0,_=>Nat.le_refl _
  |k+1,n=>by
   show(bif decide (n<10)then _ else dj (pS k _) λx0=>x0++_).length<=k+1
   have:=ox k (wrap u64 (eU n 10))
   cases decide (n<10)
   ·simp[dj,Tree.m];omega
   ·simp[Tree.m]
 theorem wN:∀k,bj pG (ZQ k)
  |0=>L9 Tryz.call225 (λargs rows h=>absurd h.2.2.2.1 (Nat.lt_irrefl 0)) (λ_ X=>by kernel_rfl)
  |k + 1=>by
   refine uK drawn mM (.cons (wN k) .nil) Tryz.func225 Tryz.call225 (λargs rows=>EO (JL k) (pS k) (ar args 0)) [] [] 2 (λ_ _ _=>by kernel_rfl) (λ_ _=>rfl) (λargs rows h=>?_) (λ_ X=>by kernel_rfl)
   obtain⟨h0,h1,h2,h3,h4⟩:=h
   generalize ar args 0=n at*
   refine aa (λ_=>trivial) (λhn=>?_)
   have hn:=oN hn
   have e:wrap u64 (eU n 10)=n/10:=by rw[wrap_u64,Int.tdiv_eq_ediv_of_nonneg h0];omega
   refine cr (show JL k _ from ?_) (aq λx hx=>ax (dY ?_) trivial)
   ·rw[e]
    rw[Int.pow_succ]at h1
    have hk:0<k:=by
     rcases Nat.eq_zero_or_pos k with rfl|h
     ·simp at h1;omega
     ·exact h
    exact⟨by omega,by omega,by omega,hk,by omega⟩
   ·have:=ox k (wrap u64 (eU n 10))
    rw[<-hx]at this
    simp[maxLen];omega
def Mg(n:Int):(List UInt8):=
pS 20 n
def Es(n:Int):Prop:=
0<=n/\n<18446744073709551616
def Qlz(n:Int):List D:=[.int .u64 n]
def Qlx(n:Int):List Row:=[]
def Qg(X:List UInt8):D:=.str X
def ZR(X:List UInt8):List Row:=[]
def Qmq:List PT:=[.one (.int .u64)]
def Qlt:List RT:=[]
def Z36(args:List D)(rows:List Row):(List UInt8):=Mg (ar args 0)
def Z2e(args:List D)(rows:List Row):Prop:=Es (ar args 0)
def Za0:ba:=mo 225 [] true Qmq Qlt Z2e Z36 Qg ZR
theorem Qw7(n:Int)(hw:Es n):jZ pG 225 (Qlz n) (Qlx n) (Qg (Mg n)) (ZR (Mg n)):=by
 have h20:(18446744073709551616:Int)<=10^20:=by decide
 exact xA (args:=[.int .u64 n]) (rows:=[]) (wN 20) (by kernel_rfl) ⟨hw.1,Int.lt_of_lt_of_le hw.2 h20,hw.2,by decide,by decide⟩
set_option maxRecDepth 100000 in
theorem Qyu(args:List D)(rows:List Row):lL Qmq args 0=Qlz (ar args 0):=by kernel_rfl
set_option maxRecDepth 100000 in
theorem Qwj(args:List D)(rows:List Row):kU Qlt rows 0=Qlx (ar args 0):=by kernel_rfl
set_option maxRecDepth 100000 in
theorem Z4g(X:List UInt8):(uJ (Qg X)&&jE (ZR X))=true:=by kernel_rfl
theorem Z4i:bj pG Za0:=L9 Tryz.call225 (λargs rows hp=>by rw[Qyu args rows,Qwj args rows];exact Qw7 (ar args 0) hp) (λ_ X=>Z4g X)
def Et(n:Int):Tree (List UInt8):=
.br (decide (n<0)) (let E1:=wrap u64 (wrap u64 (wrap i64 (0-wrap i64 (n+1)))+1);.an (Es E1) (.lv (Mg E1) λ(x0:List UInt8)=>.cn (decide (1+x0.length<=maxLen)) (.lf ((45:UInt8)::x0)))) (.an (Es (wrap u64 n)) (.lv (Mg (wrap u64 n)) λ(x1:List UInt8)=>.lf x1))
def ZS n:=(Et n).m
abbrev V0 n:=(Et n).p
def Z4o:ba:=mT 148 [] true [.one (.int .i64)] [] (λa r=>Et (ar a 0)) (λX=>.str X) (λX=>[])
theorem Qop:bj pG Z4o:=oT (.cons Z4i (.nil)) Tryz.func148 Tryz.call148 [] [] 2
def Ia(r:Int):Tree (List UInt8):=
.an (V0 r) (.lv (ZS r) λ(x0:List UInt8)=>.cn (decide (1+x0.length<=maxLen)) (.lf ((114:UInt8)::x0)))
def Zle r:=(Ia r).m
abbrev Qnq r:=(Ia r).p
def Zmd:ba:=mT 309 [] true [.one (.int .i64)] [] (λa r=>Ia (ar a 0)) (λX=>.str X) (λX=>[])
theorem Zh7:bj pG Zmd:=oT (.cons Qop (.nil)) Tryz.func309 Tryz.call309 [] [] 2
def Qpp(s:List UInt8)(z:(Int)):Prop:=0<=z/\z<=16
def Qds(s:List UInt8)(z:(Int)):Nat:=(16-z).toNat
def UJ(s:List UInt8):Tree (Int×Bool):=
.lp inferInstance (Qds s 0+1) ((rE (s:List UInt8)/\rE (0:Int)/\True)/\True) 0 λ(v0:Int)=>.br (decide (v0<16)) (.an (Qnq v0) (.lv (Zle v0) λ(x0:List UInt8)=>.br (decide (s=x0)) (.lf (Sum.inr (v0,true))) (.nx ((rE (s:List UInt8)/\rE ((wrap i64 (v0+1)):Int)/\True)/\True) (Sum.inl (wrap i64 (v0+1)))))) (.lf (Sum.inr (0,false)))
def Qho s:=(UJ s).m
theorem Qqr(s:List UInt8):(UJ s).p:=by
 unfold Tree.p UJ
 have dp:∀x,Es (wrap .u64 x):=λx=>by unfold Es;rw[wrap_u64];omega
 have dl:∀x,(Mg x).length<=20:=λx=>ox 20 x
 have hd:∀x,(Et x).w (λr=>r.length<=21):=λx=>by
  unfold Et
  refine aa (λ_=>cr (dp _) (aq λx0 h0=>ax (dY ?_) ?_)) (λ_=>cr (dp _) (aq λx1 h1=>?_))
  ·have:=dl (wrap .u64 (wrap .u64 (wrap .i64 (0-wrap .i64 (x+1)))+1));rw[<-h0]at this;simp[maxLen];omega
  ·have:=dl (wrap .u64 (wrap .u64 (wrap .i64 (0-wrap .i64 (x+1)))+1));rw[<-h0]at this;show(_::x0).length<=21;simp;omega
  ·rw[h1];exact Nat.le_trans (dl _) (by decide)
 have hr:∀x,(Ia x).p:=λx=>by
  unfold Tree.p Ia
  refine cr (Tree.pp (hd x)).1 (aq λx0 h0=>ax (dY ?_) trivial)
  have:(ZS x).length<=21:=(Tree.pp (hd x)).2
  rw[<-h0]at this;simp[maxLen];omega
 refine fg (inv:=Qpp s) (μ:=Qds s) ⟨by decide,by decide⟩ (cO _) (λz hz=>?_)
 obtain⟨z1,z2⟩:=hz
 refine aa (λhb=>cr (hr _) (aq λx0 _=>aa (λ_=>trivial) (λ_=>ek ?_))) (λ_=>trivial)
 have hb:=oY hb
 show(0<=i64.wrap (z+1)/\i64.wrap (z+1)<=16)/\(16-i64.wrap (z+1)).toNat<(16-z).toNat
 rw[wrap_i64];omega
def Qsk:bw:={
 α:=(Int)
 F:=λst a=>([(0,(lk st 0)),(4,.int i64 a)],[])
 a0:=λst=>(lk st 4).toInt
 ji:=λst=>[]++[]}
def Qpo:List (Nat×bw):=[(2,Qsk)]
def Qui:ba:=mS 289 [] true [.one (.str)] [] (λa r=>UJ (gw a 0)) (λX=>.dt [.int .i64 (X.1),.bool (X.2)]) (λX=>[])
theorem Qi5:bj pG Qui:=oS (.cons Zh7 (.nil)) Tryz.func289 Tryz.call289 [] Qpo 3 (λ_ _ _=>by kernel_rfl) (λa r=>Qqr (gw a 0)) (λ_ X=>by kernel_rfl)
def M3(s:List UInt8):Tree Bool:=
.lv (Qho s) λ(x0:Int×Bool)=>.br (decide ((s.length:Int)>=(1:Int))) (.br (decide ((s.length:Int)<=(12:Int))) (.cn (decide ((0:Int)<=(0:Int)/\0<(s.length:Int))) (.lv (UI (↑(eW (s.getD (dF 0) (0:UInt8))):Int)) λ(x1:Bool)=>.br x1 (.lf (!x0.2)) (.lf false))) (.lf false)) (.lf false)
def Z3h s:=(M3 s).m
abbrev V1 s:=(M3 s).p
def Zgk:ba:=mT 232 [] true [.one (.str)] [] (λa r=>M3 (gw a 0)) (λX=>.bool X) (λX=>[])
theorem Qxw:bj pG Zgk:=oT (.cons Qi5 (.cons Qqe (.nil))) Tryz.func232 Tryz.call232 [] [] 2
def M4(op:Int):Tree (List UInt8):=
let T1:Tree ((List UInt8)):=let T3:Tree ((List UInt8)):=.br (op==48) (.lf ([(106:UInt8),97,108])) (.br (op==49) (.lf ([(106:UInt8),97,108,114])) (.br (decide (op>=56)) (.br (decide (op<=64)) (.cn (bT 1 1&&bJ 0 1&&decide (0<=wrap i64 (op-56)/\wrap i64 (op-56)<(↑9:Int))) (.lf (aK [[(101:UInt8),99,97,108,108],[(101:UInt8),114,101,116],[(99:UInt8),115,114,114],[(99:UInt8),115,114,119],[(105:UInt8),110],[(111:UInt8),117,116],[(119:UInt8),102,105],[(102:UInt8),108,117,115,104],[(104:UInt8),97,108,116]] (dF (wrap i64 (op-56))) (RK.cz RK.str)))) (.lf ([]))) (.lf ([]))));.br (decide (op>=40)) (.br (decide (op<=45)) (.cn (bT 1 1&&bJ 0 1&&decide (0<=wrap i64 (op-40)/\wrap i64 (op-40)<(↑6:Int))) (.lf (aK [[(98:UInt8),101,113],[(98:UInt8),110,101],[(98:UInt8),108,116],[(98:UInt8),103,101],[(98:UInt8),108,116,117],[(98:UInt8),103,101,117]] (dF (wrap i64 (op-40))) (RK.cz RK.str)))) T3) T3;let T2:Tree ((List UInt8)):=let T4:Tree ((List UInt8)):=.br (decide (op>=32)) (.br (decide (op<=36)) (.cn (bT 1 1&&bJ 0 1&&decide (0<=wrap i64 (op-32)/\wrap i64 (op-32)<(↑5:Int))) (.lf (aK [[(108:UInt8),119],[(108:UInt8),98],[(108:UInt8),98,117],[(115:UInt8),119],[(115:UInt8),98]] (dF (wrap i64 (op-32))) (RK.cz RK.str)))) T1) T1;.br (decide (op>=16)) (.br (decide (op<=24)) (.cn (bT 1 1&&bJ 0 1&&decide (0<=wrap i64 (op-16)/\wrap i64 (op-16)<(↑9:Int))) (.lf (aK [[(97:UInt8),100,100,105],[(97:UInt8),110,100,105],[(111:UInt8),114,105],[(120:UInt8),111,114,105],[(115:UInt8),104,108,105],[(115:UInt8),104,114,105],[(115:UInt8),97,114,105],[(115:UInt8),108,116,105],[(108:UInt8),117,105]] (dF (wrap i64 (op-16))) (RK.cz RK.str)))) T4) T4;.br (decide (op>=1)) (.br (decide (op<=13)) (.cn (bT 1 1&&bJ 0 1&&decide (0<=wrap i64 (op-1)/\wrap i64 (op-1)<(↑13:Int))) (.lf (aK [[(97:UInt8),100,100],[(115:UInt8),117,98],[(97:UInt8),110,100],[(111:UInt8),114],[(120:UInt8),111,114],[(115:UInt8),104,108],[(115:UInt8),104,114],[(115:UInt8),97,114],[(109:UInt8),117,108],[(100:UInt8),105,118],[(114:UInt8),101,109],[(115:UInt8),108,116],[(115:UInt8),108,116,117]] (dF (wrap i64 (op-1))) (RK.cz RK.str)))) T2) T2
def Qsj op:=(M4 op).m
abbrev Qcu op:=(M4 op).p
def Z0k:ba:=mT 291 [] true [.one (.int .i64)] [] (λa r=>M4 (ar a 0)) (λX=>.str X) (λX=>[])
theorem Qyr:bj pG Z0k:=oT (.nil) Tryz.func291 Tryz.call291 [] [] 2
def Qps(s:List UInt8)(z:(Int)):Nat:=(65-z).toNat
def M5(s:List UInt8):Tree Int:=
.lp inferInstance (Qps s 1+1) ((rE (s:List UInt8)/\rE (1:Int)/\True)/\True) 1 λ(v0:Int)=>.br (decide (v0<=64)) (.lv (oC v0) λ(x0:Int)=>.br (decide (x0>0)) (.an (Qcu v0) (.lv (Qsj v0) λ(x1:List UInt8)=>.br (decide (x1=s)) (.lf (Sum.inr v0)) (.nx ((rE (s:List UInt8)/\rE ((wrap i64 (v0+1)):Int)/\True)/\True) (Sum.inl (wrap i64 (v0+1)))))) (.nx ((rE (s:List UInt8)/\rE ((wrap i64 (v0+1)):Int)/\True)/\True) (Sum.inl (wrap i64 (v0+1))))) (.lf (Sum.inr 0))
def Rd s:=(M5 s).m
abbrev Ka s:=(M5 s).p
def Qwc:bw:={
 α:=(Int)
 F:=λst a=>([(0,(lk st 0)),(3,.int i64 a)],[])
 a0:=λst=>(lk st 3).toInt
 ji:=λst=>[]++[]}
def Qrh:List (Nat×bw):=[(2,Qwc)]
def Qy7:ba:=mT 235 [] true [.one (.str)] [] (λa r=>M5 (gw a 0)) (λX=>.int .i64 X) (λX=>[])
theorem Qjn:bj pG Qy7:=oT (.cons Rb (.cons Qyr (.nil))) Tryz.func235 Tryz.call235 [] Qrh 3
def M7(dz:List UInt8):Tree ((List UInt8)×Bool):=
.an (Ka dz) (.lv (Rd dz) λ(x0:Int)=>.br (decide (dz=[(46:UInt8),119,111,114,100])) (.lf ([(120:UInt8)],true)) (.br (decide (dz=[(46:UInt8),115,112,97,99,101])) (.lf ([(110:UInt8)],true)) (.br (decide (dz=[(108:UInt8),105])) (.lf ([(114:UInt8),44,120],true)) (.br (decide (dz=[(109:UInt8),118])) (.lf ([(114:UInt8),44,114],true)) (.br (decide (dz=[(110:UInt8),111,112])) (.lf ([],true)) (.br (x0==0) (.lf ([],false)) (let T1:Tree (((List UInt8)×Bool)):=.br (x0==48) (.lf ([(114:UInt8),44,120],true)) (.lv (oC x0) λ(x1:Int)=>.br (x1==1) (.lf ([],true)) (.br (x1==2) (.lf ([(114:UInt8),44,114,44,114],true)) (.br (decide (x1>=6)) (.lf ([(114:UInt8),44,110],true)) (.lf ([(114:UInt8),44,114,44,110],true)))));let T2:Tree (((List UInt8)×Bool)):=.br (decide (x0>=40)) (.br (decide (x0<=45)) (.lf ([(114:UInt8),44,114,44,120],true)) T1) T1;.br (decide (x0>=32)) (.br (decide (x0<=36)) (.lf ([(114:UInt8),44,110,40,114,41],true)) T2) T2)))))))
def UK dz:=(M7 dz).m
abbrev M6 dz:=(M7 dz).p
def Z4x:ba:=mT 233 [] true [.one (.str)] [] (λa r=>M7 (gw a 0)) (λX=>.dt [.str (X.1),.bool (X.2)]) (λX=>[])
theorem Z2f:bj pG Z4x:=oT (.cons Qjn (.cons Rb (.nil))) Tryz.func233 Tryz.call233 [] [] 2
def Qut(s:List UInt8)(z:(Int)×(Int)):Nat:=(s.length-z.2).toNat
def Qki(s:List UInt8)(z:(Int)×(Int)):Nat:=(s.length-z.2).toNat
def M8(s:List UInt8):Tree (Int×Bool):=
let E7:=decide ((0:Int)<=(0:Int)/\0<(s.length:Int));let E8:=(↑(eW (s.getD (dF 0) (0:UInt8))):Int);let T1:Tree ((Int×Bool)):=let T2:Tree ((Int×Bool)):=.br (decide (wrap i64 ((s.length:Int)-(0:Int))<1)) (.lf (0,false)) (.br (decide (wrap i64 ((s.length:Int)-(0:Int))>10)) (.lf (0,false)) (.lp inferInstance (Qki s (0,0)+1) ((rE (s:List UInt8)/\rE (0:Int)/\rE (0:Int)/\rE (0:Int)/\True)/\True) (0,0) λ(v0:Int×Int)=>.br (decide (v0.2<(s.length:Int))) (let E9:=decide (0<=v0.2/\v0.2<(s.length:Int));.cn E9 (let E5:=(↑(eW (s.getD v0.2.toNat (0:UInt8))):Int);.lv (Mf E5) λ(x2:Bool)=>.br (!x2) (.lf (Sum.inr (0,false))) (.cn E9 (.nx ((rE (s:List UInt8)/\rE (0:Int)/\rE ((wrap i64 (wrap i64 (10*v0.1)+wrap i64 (wrap u8 ((↑(eW (s.getD v0.2.toNat (0:UInt8))):Int)-(48:Int))))):Int)/\rE ((wrap i64 (v0.2+1)):Int)/\True)/\True) (Sum.inl (wrap i64 (wrap i64 (10*v0.1)+wrap i64 (wrap u8 (E5-(48:Int)))),wrap i64 (v0.2+1))))))) (.br (decide (v0.1>=(-2147483648))) (.lf (Sum.inr (v0.1,decide (v0.1<=4294967295)))) (.lf (Sum.inr (v0.1,false))))));.br (decide ((s.length:Int)>(0:Int))) (.cn E7 (.br (E8==(45:Int)) (.br (decide (wrap i64 ((s.length:Int)-(1:Int))<1)) (.lf (0,false)) (.br (decide (wrap i64 ((s.length:Int)-(1:Int))>10)) (.lf (0,false)) (.lp inferInstance (Qki s (0,1)+1) ((rE (s:List UInt8)/\rE (1:Int)/\rE (0:Int)/\rE (1:Int)/\True)/\True) (0,1) λ(v0:Int×Int)=>.br (decide (v0.2<(s.length:Int))) (let mL:=decide (0<=v0.2/\v0.2<(s.length:Int));.cn mL (let E6:=(↑(eW (s.getD v0.2.toNat (0:UInt8))):Int);.lv (Mf E6) λ(x1:Bool)=>.br (!x1) (.lf (Sum.inr (0,false))) (.cn mL (.nx ((rE (s:List UInt8)/\rE (1:Int)/\rE ((wrap i64 (wrap i64 (10*v0.1)+wrap i64 (wrap u8 ((↑(eW (s.getD v0.2.toNat (0:UInt8))):Int)-(48:Int))))):Int)/\rE ((wrap i64 (v0.2+1)):Int)/\True)/\True) (Sum.inl (wrap i64 (wrap i64 (10*v0.1)+wrap i64 (wrap u8 (E6-(48:Int)))),wrap i64 (v0.2+1))))))) (.br (decide (wrap i64 (0-v0.1)>=(-2147483648))) (.lf (Sum.inr (wrap i64 (0-v0.1),decide (wrap i64 (0-v0.1)<=4294967295)))) (.lf (Sum.inr (wrap i64 (0-v0.1),false))))))) T2)) T2;.br (decide ((s.length:Int)>(2:Int))) (.cn E7 (.br (E8==(48:Int)) (.cn (decide ((0:Int)<=(1:Int)/\1<(s.length:Int))) (.br ((↑(eW (s.getD (dF 1) (0:UInt8))):Int)==(120:Int)) (.br (decide ((s.length:Int)>(10:Int))) (.lf (0,false)) (.lp inferInstance (Qut s (0,2)+1) ((rE (s:List UInt8)/\rE (0:Int)/\rE (2:Int)/\True)/\True) (0,2) λ(v0:Int×Int)=>.br (decide (v0.2<(s.length:Int))) (let E4:=decide (0<=v0.2/\v0.2<(s.length:Int));.cn E4 (let E3:=(↑(eW (s.getD v0.2.toNat (0:UInt8))):Int);.lv (Mf E3) λ(x0:Bool)=>.br x0 (.cn E4 (.nx ((rE (s:List UInt8)/\rE ((wrap i64 (wrap i64 (16*v0.1)+wrap i64 (wrap u8 ((↑(eW (s.getD v0.2.toNat (0:UInt8))):Int)-(48:Int))))):Int)/\rE ((wrap i64 (v0.2+1)):Int)/\True)/\True) (Sum.inl (wrap i64 (wrap i64 (16*v0.1)+wrap i64 (wrap u8 (E3-(48:Int)))),wrap i64 (v0.2+1))))) (.cn E4 (.br (decide (E3>=(97:Int))) (.cn E4 (.br (decide (E3<=(102:Int))) (.cn E4 (.nx ((rE (s:List UInt8)/\rE ((wrap i64 (wrap i64 (wrap i64 (16*v0.1)+wrap i64 (wrap u8 ((↑(eW (s.getD v0.2.toNat (0:UInt8))):Int)-(97:Int))))+10)):Int)/\rE ((wrap i64 (v0.2+1)):Int)/\True)/\True) (Sum.inl (wrap i64 (wrap i64 (wrap i64 (16*v0.1)+wrap i64 (wrap u8 (E3-(97:Int))))+10),wrap i64 (v0.2+1))))) (.lf (Sum.inr (0,false))))) (.lf (Sum.inr (0,false))))))) (.lf (Sum.inr (v0.1,true))))) T1)) T1)) T1
def Z3e s:=(M8 s).m
abbrev Qh7 s:=(M8 s).p
def Z48:bw:={
 α:=(Int)×(Int)
 F:=λst a=>([(0,(lk st 0)),(4,.int i64 a.1),(5,.int i64 a.2)],[])
 a0:=λst=>((lk st 4).toInt,(lk st 5).toInt)
 ji:=λst=>[]++[]}
def Z4q:bw:={
 α:=(Int)×(Int)
 F:=λst a=>([(0,(lk st 0)),(6,(lk st 6)),(7,.int i64 a.1),(8,.int i64 a.2)],[])
 a0:=λst=>((lk st 7).toInt,(lk st 8).toInt)
 ji:=λst=>[]++[]}
def Qz8:List (Nat×bw):=[(6,Z48),(21,Z4q)]
def Zaf:ba:=mT 290 [] true [.one (.str)] [] (λa r=>M8 (gw a 0)) (λX=>.dt [.int .i64 (X.1),.bool (X.2)]) (λX=>[])
theorem Z42:bj pG Zaf:=oT (.cons Qua (.nil)) Tryz.func290 Tryz.call290 [] Qz8 3
def Qty(l:List kX)(p:List UInt8)(z:(Int)×(List nf)):Nat:=(l.length-z.1).toNat
def Na(l:List kX)(p:List UInt8):Tree ((List nf)×Bool):=
.br ((l.length:Int) !=(p.length:Int)) (.lf ([],false)) (.lp inferInstance (Qty l p (0,[])+1) ((nR RK.av 3 l/\rE (p:List UInt8)/\True/\rE (0:Int)/\True)/\rE ([]:List (RK.T RK.ay))/\True) (0,[]) λ(v0:Int×List nf)=>.br (decide (v0.1<(l.length:Int))) (.cn (bT 3 3&&bJ 0 3&&decide (0<=v0.1/\v0.1<(l.length:Int))) (let E6:=decide (0<=v0.1/\v0.1<(p.length:Int));.cn E6 (let E3:=l.getD v0.1.toNat (RK.cz RK.av);let E4:=(↑(eW (p.getD v0.1.toNat (0:UInt8))):Int);let E5:=decide (32*(v0.2.length+1)<=140737488355328);.br (E4==(114:Int)) (.lv (Qho E3.text) λ(x0:Int×Bool)=>.br (E3.kind !=1) (.lf (Sum.inr ([],false))) (.br (!x0.2) (.lf (Sum.inr ([],false))) (.cn E5 (.nx ((nR RK.av 3 l/\rE (p:List UInt8)/\True/\rE ((wrap i64 (v0.1+1)):Int)/\True)/\rE ((v0.2++[{ku:=x0.1,num:=0,label:=[]}]):List (RK.T RK.ay))/\True) (Sum.inl (wrap i64 (v0.1+1),v0.2++[{ku:=x0.1,num:=0,label:=[]}])))))) (let T1:Tree ((Int×List nf)⊕(((List nf)×Bool))):=.an (Qh7 E3.text) (.lv (Z3e E3.text) λ(x2:Int×Bool)=>.br (E3.kind !=2) (.lf (Sum.inr ([],false))) (.br (!x2.2) (.lf (Sum.inr ([],false))) (.cn E5 (.nx ((nR RK.av 3 l/\rE (p:List UInt8)/\True/\rE ((wrap i64 (v0.1+1)):Int)/\True)/\rE ((v0.2++[{ku:=0,num:=x2.1,label:=[]}]):List (RK.T RK.ay))/\True) (Sum.inl (wrap i64 (v0.1+1),v0.2++[{ku:=0,num:=x2.1,label:=[]}]))))));let T2:Tree ((Int×List nf)⊕(((List nf)×Bool))):=.cn E6 (.br (E4==(120:Int)) (.br (E3.kind==1) (.an (V1 E3.text) (.lv (Z3h E3.text) λ(x1:Bool)=>.br x1 (.cn E5 (.nx ((nR RK.av 3 l/\rE (p:List UInt8)/\True/\rE ((wrap i64 (v0.1+1)):Int)/\True)/\rE ((v0.2++[{ku:=0,num:=0,label:=(l.getD v0.1.toNat (RK.cz RK.av)).text}]):List (RK.T RK.ay))/\True) (Sum.inl (wrap i64 (v0.1+1),v0.2++[{ku:=0,num:=0,label:=E3.text}])))) T1)) T1) T1);.br (E4==(110:Int)) T2 (.br (E4==(120:Int)) T2 (.br (E3.kind !=3) (.lf (Sum.inr ([],false))) (.cn (decide (0<=v0.1/\v0.1<=wrap i64 (v0.1+1)/\wrap i64 (v0.1+1)<=(p.length:Int))) (.br (!decide (E3.text=cZ (dF (wrap i64 (v0.1+1))-dF v0.1) (dA v0.1.toNat p))) (.lf (Sum.inr ([],false))) (.nx ((nR RK.av 3 l/\rE (p:List UInt8)/\True/\rE ((wrap i64 (v0.1+1)):Int)/\True)/\rE v0.2/\True) (Sum.inl (wrap i64 (v0.1+1),v0.2))))))))))) (.lf (Sum.inr (v0.2,true))))
def UL l p:=(Na l p).m
abbrev M9 l p:=(Na l p).p
def Z02:bw:={
 α:=(Int)×(List nf)
 F:=λst a=>([(0,(lk st 0)),(1,(lk st 1)),(6,.all 0),(7,.int i64 a.1)],[⟨false,177,3,.bc RK.ay a.2⟩])
 a0:=λst=>((lk st 7).toInt,(Qf RK.ay st.rows (rN st 6)))
 ji:=λst=>[]++[(rX st 6 0)]}
def Qv5:List (Nat×bw):=[(5,Z02)]
def Z3y:ba:=mT 234 [] true [.one (.bc .av),.one (.str)] [] (λa r=>Na (jc .av a 0) (gw a 1)) (λX=>.dt [.all 0,.bool (X.2)]) (λX=>[⟨false,177,3,.bc .ay (X.1)⟩])
theorem Z14:bj pG Z3y:=oT (.cons Qi5 (.cons Qxw (.cons Z42 (.nil)))) Tryz.func234 Tryz.call234 [.row 177 3 (.bc .ay)] Qv5 3
def Qw(s:List UInt8)(z:(List UInt8)×(Int)):Nat:=(s.length-z.2).toNat
def Nb(s:List UInt8):Tree ((List UInt8)×j8×Bool):=
.lp inferInstance (Qw s (s,0)+1) ((rE (s:List UInt8)/\rE ([]:List UInt8)/\rZ/\rE (false:Bool)/\rE (0:Int)/\True)/\(rE ([]:List UInt8)/\rE (0:Int)/\True/\rE (0:Int)/\rE (0:Int)/\rE (0:Int)/\True)/\True) (s,0) λ(v0:List UInt8×Int)=>.br (decide (v0.2<(v0.1.length:Int))) (.cn (decide (0<=v0.2/\v0.2<(v0.1.length:Int))) (.br ((↑(eW (v0.1.getD v0.2.toNat (0:UInt8))):Int)==(59:Int)) (.cn (decide ((0:Int)<=(0:Int)/\0<=v0.2/\v0.2<=(v0.1.length:Int))) (.nx ((rE ((cZ (dF v0.2-dF 0) (dA (dF 0) v0.1)):List UInt8)/\rE ([]:List UInt8)/\rZ/\rE (false:Bool)/\rE ((wrap i64 (v0.2+1)):Int)/\True)/\(rE ([]:List UInt8)/\rE (0:Int)/\True/\rE (0:Int)/\rE (0:Int)/\rE (0:Int)/\True)/\True) (Sum.inl (cZ (dF v0.2-dF 0) (dA (dF 0) v0.1),wrap i64 (v0.2+1))))) (.nx ((rE v0.1/\rE ([]:List UInt8)/\rZ/\rE (false:Bool)/\rE ((wrap i64 (v0.2+1)):Int)/\True)/\(rE ([]:List UInt8)/\rE (0:Int)/\True/\rE (0:Int)/\rE (0:Int)/\rE (0:Int)/\True)/\True) (Sum.inl (v0.1,wrap i64 (v0.2+1)))))) (.an (Qhb v0.1) (.lv (Z1y v0.1) λ(x0:List kX×Bool)=>.br (!x0.2) (.lf (Sum.inr ([],{dz:=[],op:=0,l:=[],D4:=0,at_:=0,size:=0},false))) (let E9:=x0.1.getD (dF 0) (RK.cz RK.av);let T1:Tree ((List UInt8×Int)⊕(((List UInt8)×j8×Bool))):=.an (M6 E9.text) (.lv (UK E9.text) λ(ZT:List UInt8×Bool)=>.br (!ZT.2) (.lf (Sum.inr ([],{dz:=[],op:=0,l:=[],D4:=0,at_:=0,size:=0},false))) (let ZU:=dF (x0.1.length:Int)-dF 1;let T6:Tree ((List UInt8×Int)⊕(((List UInt8)×j8×Bool))):=let E31:=cZ ZU (dA (dF 1) x0.1);.an (M9 E31 ZT.1) (.lv (UL E31 ZT.1) λ(Mh:List nf×Bool)=>.br (!Mh.2) (.lf (Sum.inr ([],{dz:=[],op:=0,l:=[],D4:=0,at_:=0,size:=0},false))) (.an (Ka E9.text) (.lv (Rd E9.text) λ(ZV:Int)=>.br (decide (E9.text=[(108:UInt8),105])) (.lf (Sum.inr ([],{dz:=E9.text,op:=ZV,l:=Mh.1,D4:=0,at_:=0,size:=2},true))) (.br (decide (E9.text=[(46:UInt8),115,112,97,99,101])) (let Bc:=bT 3 3&&bJ 0 3&&decide ((0:Int)<=(0:Int)/\0<(Mh.1.length:Int));.cn Bc (let ZW:=Mh.1.getD (dF 0) (RK.cz RK.ay);.br (decide (ZW.num<0)) (.lf (Sum.inr ([],{dz:=[],op:=0,l:=[],D4:=0,at_:=0,size:=0},false))) (.cn Bc (.br (decide (ZW.num>1024)) (.lf (Sum.inr ([],{dz:=[],op:=0,l:=[],D4:=0,at_:=0,size:=0},false))) (.cn Bc (.lf (Sum.inr ([],{dz:=E9.text,op:=ZV,l:=Mh.1,D4:=0,at_:=0,size:=ZW.num},true)))))))) (.lf (Sum.inr ([],{dz:=E9.text,op:=ZV,l:=Mh.1,D4:=0,at_:=0,size:=1},true)))))));.br (decide ((↑ZU:Int)>(0:Int))) (.cn (bT 3 3&&bJ 0 3&&decide ((0:Int)<=(0:Int)/\0<(↑ZU:Int))) (.br (!(x0.1.getD (dF 1+dF 0) (RK.cz RK.av)).wT) (.lf (Sum.inr ([],{dz:=[],op:=0,l:=[],D4:=0,at_:=0,size:=0},false))) T6)) T6));let E25:=dF (x0.1.length:Int)-dF 2;let E8:=(↑E25:Int);let mL:=x0.1.getD (dF 2+dF 0) (RK.cz RK.av);let oF:=x0.1.getD (dF 1) (RK.cz RK.av);let ZX:=bT 3 3&&bJ 0 3&&decide ((0:Int)<=(0:Int)/\0<(x0.1.length:Int));let ZY:=bT 3 3&&bJ 0 3&&decide ((0:Int)<=(1:Int)/\1<(x0.1.length:Int));let E19:=bT 3 3&&bJ 0 3&&decide ((0:Int)<=(2:Int)/\2<=(x0.1.length:Int)/\(x0.1.length:Int)<=(x0.1.length:Int));let E28:=bT 3 3&&bJ 0 3&&decide ((0:Int)<=(0:Int)/\0<E8);let E30:=decide ((x0.1.length:Int)>=(2:Int));let T3:Tree ((List UInt8×Int)⊕(((List UInt8)×j8×Bool))):=.br ((x0.1.length:Int)==(0:Int)) (.lf (Sum.inr ([],{dz:=[],op:=0,l:=[],D4:=0,at_:=0,size:=0},true))) (.cn ZX (.cn (bT 3 3&&bJ 0 3&&decide ((0:Int)<=(1:Int)/\1<=(x0.1.length:Int)/\(x0.1.length:Int)<=(x0.1.length:Int))) (.br (decide (E9.text=[(46:UInt8)])) (.br E30 (.cn ZY (.br (!oF.wT) (.cn ZY (.cn (decide (1+dK oF.text<=maxLen)) (.cn E19 (.an (M6 ((46:UInt8)::oF.text)) (.lv (UK ([(46:UInt8)]++oF.text)) λ(EL:List UInt8×Bool)=>.br (!EL.2) (.lf (Sum.inr ([],{dz:=[],op:=0,l:=[],D4:=0,at_:=0,size:=0},false))) (let T7:Tree ((List UInt8×Int)⊕(((List UInt8)×j8×Bool))):=let E32:=cZ E25 (dA (dF 2) x0.1);.an (M9 E32 EL.1) (.lv (UL E32 EL.1) λ(Re:List nf×Bool)=>.br (!Re.2) (.lf (Sum.inr ([],{dz:=[],op:=0,l:=[],D4:=0,at_:=0,size:=0},false))) (.an (Ka ((46:UInt8)::oF.text)) (.lv (Rd ([(46:UInt8)]++oF.text)) λ(DT:Int)=>.br (decide ([(46:UInt8)]++oF.text=[(46:UInt8),115,112,97,99,101])) (let Ht:=bT 3 3&&bJ 0 3&&decide ((0:Int)<=(0:Int)/\0<(Re.1.length:Int));.cn Ht (let ZZ:=Re.1.getD (dF 0) (RK.cz RK.ay);.br (decide (ZZ.num<0)) (.lf (Sum.inr ([],{dz:=[],op:=0,l:=[],D4:=0,at_:=0,size:=0},false))) (.cn Ht (.br (decide (ZZ.num>1024)) (.lf (Sum.inr ([],{dz:=[],op:=0,l:=[],D4:=0,at_:=0,size:=0},false))) (.cn Ht (.lf (Sum.inr ([],{dz:=(46:UInt8)::oF.text,op:=DT,l:=Re.1,D4:=0,at_:=0,size:=ZZ.num},true)))))))) (.lf (Sum.inr ([],{dz:=(46:UInt8)::oF.text,op:=DT,l:=Re.1,D4:=0,at_:=0,size:=1},true))))));.br (decide (E8>(0:Int))) (.cn E28 (.br (!mL.wT) (.lf (Sum.inr ([],{dz:=[],op:=0,l:=[],D4:=0,at_:=0,size:=0},false))) T7)) T7)))))) T1)) T1) T1)));.br E30 (.cn ZY (.br (decide (oF.text=[(58:UInt8)])) (.cn ZX (.cn ZX (.br (E9.kind !=1) (.lf (Sum.inr ([],{dz:=[],op:=0,l:=[],D4:=0,at_:=0,size:=0},false))) (.an (V1 E9.text) (.lv (Z3h E9.text) λ(x1:Bool)=>.br (!x1) (.lf (Sum.inr ([],{dz:=[],op:=0,l:=[],D4:=0,at_:=0,size:=0},false))) (.cn E19 (.br (E8==(0:Int)) (.lf (Sum.inr (E9.text,{dz:=[],op:=0,l:=[],D4:=0,at_:=0,size:=0},true))) (.cn E28 (.cn (bT 3 3&&bJ 0 3&&decide ((0:Int)<=(1:Int)/\1<=E8/\E8<=E8)) (let T2:Tree ((List UInt8×Int)⊕(((List UInt8)×j8×Bool))):=.an (M6 mL.text) (.lv (UK mL.text) λ(x7:List UInt8×Bool)=>.br (!x7.2) (.lf (Sum.inr ([],{dz:=[],op:=0,l:=[],D4:=0,at_:=0,size:=0},false))) (let T4:Tree ((List UInt8×Int)⊕(((List UInt8)×j8×Bool))):=let E26:=cZ (dF E8-dF 1) (dA (dF 2+dF 1) x0.1);.an (M9 E26 x7.1) (.lv (UL E26 x7.1) λ(x8:List nf×Bool)=>.br (!x8.2) (.lf (Sum.inr ([],{dz:=[],op:=0,l:=[],D4:=0,at_:=0,size:=0},false))) (.an (Ka mL.text) (.lv (Rd mL.text) λ(x9:Int)=>.br (decide (mL.text=[(108:UInt8),105])) (.lf (Sum.inr (E9.text,{dz:=mL.text,op:=x9,l:=x8.1,D4:=0,at_:=0,size:=2},true))) (.br (decide (mL.text=[(46:UInt8),115,112,97,99,101])) (let Hu:=bT 3 3&&bJ 0 3&&decide ((0:Int)<=(0:Int)/\0<(x8.1.length:Int));.cn Hu (let E23:=x8.1.getD (dF 0) (RK.cz RK.ay);.br (decide (E23.num<0)) (.lf (Sum.inr ([],{dz:=[],op:=0,l:=[],D4:=0,at_:=0,size:=0},false))) (.cn Hu (.br (decide (E23.num>1024)) (.lf (Sum.inr ([],{dz:=[],op:=0,l:=[],D4:=0,at_:=0,size:=0},false))) (.cn Hu (.lf (Sum.inr (E9.text,{dz:=mL.text,op:=x9,l:=x8.1,D4:=0,at_:=0,size:=E23.num},true)))))))) (.lf (Sum.inr (E9.text,{dz:=mL.text,op:=x9,l:=x8.1,D4:=0,at_:=0,size:=1},true)))))));.br (decide ((↑(dF E8-dF 1):Int)>(0:Int))) (.cn (bT 3 3&&bJ 0 3&&decide ((0:Int)<=(0:Int)/\0<(↑(dF E8-dF 1):Int))) (.br (!(x0.1.getD (dF 2+dF 1+dF 0) (RK.cz RK.av)).wT) (.lf (Sum.inr ([],{dz:=[],op:=0,l:=[],D4:=0,at_:=0,size:=0},false))) T4)) T4));.br (decide (mL.text=[(46:UInt8)])) (.br (decide (E8>=(2:Int))) (let E29:=bT 3 3&&bJ 0 3&&decide ((0:Int)<=(1:Int)/\1<E8);.cn E29 (let nH:=x0.1.getD (dF 2+dF 1) (RK.cz RK.av);.br (!nH.wT) (.cn E29 (.cn (decide (1+dK nH.text<=maxLen)) (.cn (bT 3 3&&bJ 0 3&&decide ((0:Int)<=(2:Int)/\2<=E8/\E8<=E8)) (.an (M6 ((46:UInt8)::nH.text)) (.lv (UK ([(46:UInt8)]++nH.text)) λ(x2:List UInt8×Bool)=>.br (!x2.2) (.lf (Sum.inr ([],{dz:=[],op:=0,l:=[],D4:=0,at_:=0,size:=0},false))) (let T5:Tree ((List UInt8×Int)⊕(((List UInt8)×j8×Bool))):=let E27:=cZ (dF E8-dF 2) (dA (dF 2+dF 2) x0.1);.an (M9 E27 x2.1) (.lv (UL E27 x2.1) λ(x3:List nf×Bool)=>.br (!x3.2) (.lf (Sum.inr ([],{dz:=[],op:=0,l:=[],D4:=0,at_:=0,size:=0},false))) (.an (Ka ((46:UInt8)::nH.text)) (.lv (Rd ([(46:UInt8)]++nH.text)) λ(x4:Int)=>.br (decide ([(46:UInt8)]++nH.text=[(46:UInt8),115,112,97,99,101])) (let E18:=bT 3 3&&bJ 0 3&&decide ((0:Int)<=(0:Int)/\0<(x3.1.length:Int));.cn E18 (let E24:=x3.1.getD (dF 0) (RK.cz RK.ay);.br (decide (E24.num<0)) (.lf (Sum.inr ([],{dz:=[],op:=0,l:=[],D4:=0,at_:=0,size:=0},false))) (.cn E18 (.br (decide (E24.num>1024)) (.lf (Sum.inr ([],{dz:=[],op:=0,l:=[],D4:=0,at_:=0,size:=0},false))) (.cn E18 (.lf (Sum.inr (E9.text,{dz:=(46:UInt8)::nH.text,op:=x4,l:=x3.1,D4:=0,at_:=0,size:=E24.num},true)))))))) (.lf (Sum.inr (E9.text,{dz:=(46:UInt8)::nH.text,op:=x4,l:=x3.1,D4:=0,at_:=0,size:=1},true))))));.br (decide ((↑(dF E8-dF 2):Int)>(0:Int))) (.cn (bT 3 3&&bJ 0 3&&decide ((0:Int)<=(0:Int)/\0<(↑(dF E8-dF 2):Int))) (.br (!(x0.1.getD (dF 2+dF 2+dF 0) (RK.cz RK.av)).wT) (.lf (Sum.inr ([],{dz:=[],op:=0,l:=[],D4:=0,at_:=0,size:=0},false))) T5)) T5)))))) T2)) T2) T2)))))))))) T3)) T3)))
def Z3d s:=(Nb s).m
abbrev Qhl s:=(Nb s).p
def Z5u:bw:={
 α:=(List UInt8)×(Int)
 F:=λst a=>([(0,.str a.1),(2,(lk st 2)),(3,.ptr 0 0 0),(4,(lk st 4)),(5,.int i64 a.2)],[⟨true,175,6,.gen [[(cT st 3 0),(cT st 3 1),(cT st 3 2),(cT st 3 3),(cT st 3 4),(cT st 3 5)]]⟩])
 a0:=λst=>((lk st 0).toStr,(lk st 5).toInt)
 ji:=λst=>[]++[(rX st 3 0)]}
def Qza:List (Nat×bw):=[(2,Z5u)]
def Z94:ba:=mT 152 [] false [.one (.str)] [] (λa r=>Nb (gw a 0)) (λX=>.dt [.str (X.1),.agg (j8.cells (X.2.1)),.bool (X.2.2)]) (λX=>[])
theorem Z5c:bj pG Z94:=oT (.cons Z4m (.cons Qxw (.cons Z2f (.cons Z14 (.cons Qjn (.nil)))))) Tryz.func152 Tryz.call152 [.sl (.bc .ay) false] Qza 3 (jJ:=nofun)
def Qk1(l:List nM)(label:List UInt8)(z:(Int)):Prop:=0<=z/\z<=l.length
def Qc1(l:List nM)(label:List UInt8)(z:(Int)):Nat:=(l.length-z).toNat
def UM(l:List nM)(label:List UInt8):Tree (Int×Bool):=
.lp inferInstance (Qc1 l label 0+1) ((nR RK.dd 2 l/\rE (label:List UInt8)/\rE (0:Int)/\True)/\True) 0 λ(v0:Int)=>.br (decide (v0<(l.length:Int))) (let E1:=bT 2 2&&bJ 0 2&&decide (0<=v0/\v0<(l.length:Int));.cn E1 (let E2:=l.getD v0.toNat (RK.cz RK.dd);.br (decide (E2.Name=label)) (.cn E1 (.lf (Sum.inr (E2.Addr,true)))) (.nx ((nR RK.dd 2 l/\rE (label:List UInt8)/\rE ((wrap i64 (v0+1)):Int)/\True)/\True) (Sum.inl (wrap i64 (v0+1)))))) (.lf (Sum.inr (0,false)))
def Qnm l label:=(UM l label).m
def FY(l:List nM)(label:List UInt8):Prop:=
l.length<=1000000000000
theorem Qyf(l:List nM)(label:List UInt8)(hw:FY l label):(UM l label).p:=by
 simp only[FY]at hw
 unfold Tree.p UM
 repeat'(first|refine fg (inv:=Qk1 l label) (μ:=Qc1 l label) ?_ (cO _) (λ_ _=>?_)|exact trivial|refine aa (λ_=>?_) (λ_=>?_)|refine ax ?_ ?_|refine cr ?_ ?_|refine aq (λ_ _=>?_)|refine ek ?_|refine bu ?_|refine And.intro ?_ ?_)
 all_goals((try simp only[Qk1,Qc1]at*);exact ou)
def Z0j:bw:={
 α:=(Int)
 F:=λst a=>([(0,(lk st 0)),(1,(lk st 1)),(6,.int i64 a)],[])
 a0:=λst=>(lk st 6).toInt
 ji:=λst=>[]++[]}
def Quz:List (Nat×bw):=[(2,Z0j)]
def Z4f:ba:=mo 95 [] true [.one (.bc .dd),.one (.str)] [] (λa r=>FY (jc .dd a 0) (gw a 1)) (λa r=>Qnm (jc .dd a 0) (gw a 1)) (λX=>.dt [.int .u32 (X.1),.bool (X.2)]) (λX=>[])
theorem Qmz:bj pG Z4f:=uK drawn mM (.nil) Tryz.func95 Tryz.call95 (λa r=>UM (jc .dd a 0) (gw a 1)) [] Quz 3 (hp:=λa r h=>Qyf (jc .dd a 0) (gw a 1) h)
def Z2g(src:List UInt8)(z:(Int)×(Int)×(List nM)×(List j8)):Nat:=((Qwf src).length-z.2.1).toNat
def Nc(src:List UInt8):Tree ((List nM)×(List j8)×sU):=
.br (decide ((src.length:Int)>(8192:Int))) (.lf ([],[],{wR:=300,nd:=0})) (.an (Qir src) (.lv (Qwf src) λ(x0:List (List UInt8))=>.lp inferInstance (Z2g src (0,0,[],[])+1) ((rZ/\True/\True/\rE (0:Int)/\True/\rE (0:Int)/\True)/\(rE (0:Int)/\rE (0:Int)/\True)/\rE (x0:List (RK.T RK.str))/\rE ([]:List (RK.T RK.dd))/\rE ([]:List (RK.T RK.ag))/\True) (0,0,[],[]) λ(v0:Int×Int×List nM×List j8)=>.br (decide (v0.2.1<(x0.length:Int))) (.cn (bT 1 1&&bJ 0 1&&decide (0<=v0.2.1/\v0.2.1<(x0.length:Int))) (let E3:=x0.getD v0.2.1.toNat (RK.cz RK.str);.an (Qhl E3) (.lv (Z3d E3) λ(x1:List UInt8×j8×Bool)=>.br (!x1.2.2) (.lf (Sum.inr ([],[],{wR:=301,nd:=wrap i64 (v0.2.1+1)}))) (let E1:=({wR:=305,nd:=wrap i64 (v0.2.1+1)}:sU);let E2:=decide (72*(v0.2.2.2.length+1)<=140737488355328);let E4:=decide (wrap i64 (v0.1+x1.2.1.size)>1024);.br (!decide (x1.1=[])) (.an (FY v0.2.2.1 x1.1) (.lv (Qnm v0.2.2.1 x1.1) λ(x2:Int×Bool)=>.br x2.2 (.lf (Sum.inr ([],[],{wR:=303,nd:=wrap i64 (v0.2.1+1)}))) (.cn (decide (24*(v0.2.2.1.length+1)<=140737488355328)) (let E5:=({Name:=x1.1,Addr:=wrap u32 (wrap i64 (4*v0.1))}:nM);.br (!decide (x1.2.1.dz=[])) (.cn E2 (.br E4 (.lf (Sum.inr ([],[],E1))) (.nx ((rZ/\True/\True/\rE ((wrap i64 (v0.1+x1.2.1.size)):Int)/\True/\rE ((wrap i64 (v0.2.1+1)):Int)/\True)/\(rE (0:Int)/\rE (0:Int)/\True)/\rE (x0:List (RK.T RK.str))/\rE ((v0.2.2.1++[{Name:=x1.1,Addr:=wrap u32 (wrap i64 (4*v0.1))}]):List (RK.T RK.dd))/\rE ((v0.2.2.2++[{dz:=x1.2.1.dz,op:=x1.2.1.op,l:=x1.2.1.l,D4:=wrap i64 (v0.2.1+1),at_:=v0.1,size:=x1.2.1.size}]):List (RK.T RK.ag))/\True) (Sum.inl (wrap i64 (v0.1+x1.2.1.size),wrap i64 (v0.2.1+1),v0.2.2.1++[E5],v0.2.2.2++[{dz:=x1.2.1.dz,op:=x1.2.1.op,l:=x1.2.1.l,D4:=wrap i64 (v0.2.1+1),at_:=v0.1,size:=x1.2.1.size}]))))) (.br (decide (v0.1>1024)) (.lf (Sum.inr ([],[],E1))) (.nx ((rZ/\True/\True/\rE v0.1/\True/\rE ((wrap i64 (v0.2.1+1)):Int)/\True)/\(rE (0:Int)/\rE (0:Int)/\True)/\rE (x0:List (RK.T RK.str))/\rE ((v0.2.2.1++[{Name:=x1.1,Addr:=wrap u32 (wrap i64 (4*v0.1))}]):List (RK.T RK.dd))/\rE v0.2.2.2/\True) (Sum.inl (v0.1,wrap i64 (v0.2.1+1),v0.2.2.1++[E5],v0.2.2.2)))))))) (.br (!decide (x1.2.1.dz=[])) (.cn E2 (.br E4 (.lf (Sum.inr ([],[],E1))) (.nx ((rZ/\True/\True/\rE ((wrap i64 (v0.1+x1.2.1.size)):Int)/\True/\rE ((wrap i64 (v0.2.1+1)):Int)/\True)/\(rE (0:Int)/\rE (0:Int)/\True)/\rE (x0:List (RK.T RK.str))/\rE v0.2.2.1/\rE ((v0.2.2.2++[{dz:=x1.2.1.dz,op:=x1.2.1.op,l:=x1.2.1.l,D4:=wrap i64 (v0.2.1+1),at_:=v0.1,size:=x1.2.1.size}]):List (RK.T RK.ag))/\True) (Sum.inl (wrap i64 (v0.1+x1.2.1.size),wrap i64 (v0.2.1+1),v0.2.2.1,v0.2.2.2++[{dz:=x1.2.1.dz,op:=x1.2.1.op,l:=x1.2.1.l,D4:=wrap i64 (v0.2.1+1),at_:=v0.1,size:=x1.2.1.size}]))))) (.br (decide (v0.1>1024)) (.lf (Sum.inr ([],[],E1))) (.nx ((rZ/\True/\True/\rE v0.1/\True/\rE ((wrap i64 (v0.2.1+1)):Int)/\True)/\(rE (0:Int)/\rE (0:Int)/\True)/\rE (x0:List (RK.T RK.str))/\rE v0.2.2.1/\rE v0.2.2.2/\True) (Sum.inl (v0.1,wrap i64 (v0.2.1+1),v0.2.2.1,v0.2.2.2))))))))) (.lf (Sum.inr (v0.2.2.1,v0.2.2.2,{wR:=0,nd:=0})))))
def Z3n src:=(Nc src).m
abbrev Ql8 src:=(Nc src).p
def Zdo:bw:={
 α:=(Int)×(Int)×(List nM)×(List j8)
 F:=λst a=>([(4,.ptr 0 0 0),(5,.all 2),(6,.all 3),(7,.int i64 a.1),(8,.all 1),(9,.int i64 a.2.1)],[⟨true,112,2,.gen [[(cT st 4 0),(cT st 4 1)]]⟩,⟨false,9,1,nW st.rows (rN st 8)⟩,⟨false,238,2,.bc RK.dd a.2.2.1⟩,⟨false,175,6,.bc RK.ag a.2.2.2⟩])
 a0:=λst=>((lk st 7).toInt,(lk st 9).toInt,(Qf RK.dd st.rows (rN st 5)),(Qf RK.ag st.rows (rN st 6)))
 ji:=λst=>[]++[(rX st 4 0),(rX st 8 1),(rX st 5 2),(rX st 6 3)]}
def Z5o:List (Nat×bw):=[(8,Zdo)]
def Zi:ba:=mT 94 [] false [.one (.str)] [] (λa r=>Nc (gw a 0)) (λX=>.dt [.all 0,.all 1,.agg (sU.cells (X.2.2))]) (λX=>[⟨false,238,2,.bc .dd (X.1)⟩,⟨false,175,6,.bc .ag (X.2.1)⟩])
theorem Zfv:bj pG Zi:=oT (.cons Zbs (.cons Z5c (.cons Qmz (.nil)))) Tryz.func94 Tryz.call94 [.row 238 2 (.bc .dd),.row 175 6 (.bc .ag)] Z5o 3 (jJ:=nofun)
def Nf(st:j8)(v:Int):Tree (Int×Bool):=
.lv (oC st.op) λ(x0:Int)=>.lv (Wp x0) λ(x1:Int×Int)=>let E7:=st.l.getD (dF 0) (RK.cz RK.ay);let E8:=st.l.getD (dF 1) (RK.cz RK.ay);let E9:=bT 3 3&&bJ 0 3&&decide ((0:Int)<=(0:Int)/\0<(st.l.length:Int));let mL:=bT 3 3&&bJ 0 3&&decide ((0:Int)<=(1:Int)/\1<(st.l.length:Int));let nH:=st.l.getD (dF 2) (RK.cz RK.ay);let oF:=bT 3 3&&bJ 0 3&&decide ((0:Int)<=(2:Int)/\2<(st.l.length:Int));.br (x0==2) (.cn E9 (.cn mL (.cn oF (let T2:Tree ((Int×Bool)):=.br (decide (0<x1.1)) (.lf (0,false)) (.br (decide (0>x1.2)) (.lf (0,false)) (.lv (oB {Op:=st.op,A:=E7.ku,B:=E8.ku,C:=nH.ku,bh:=wrap i32 0}) λ(x2:Int×Bool)=>.lf (x2.1,x2.2)));.br (x0==2) T2 (.br (x0==1) T2 (.br (decide (v<x1.1)) (.lf (0,false)) (.br (decide (v>x1.2)) (.lf (0,false)) (.lv (oB {Op:=st.op,A:=E7.ku,B:=E8.ku,C:=nH.ku,bh:=wrap i32 v}) λ(x4:Int×Bool)=>.lf (x4.1,x4.2))))))))) (let T1:Tree ((Int×Bool)):=.br (decide (x0>=6)) (.cn E9 (let T5:Tree ((Int×Bool)):=.br (decide (0<x1.1)) (.lf (0,false)) (.br (decide (0>x1.2)) (.lf (0,false)) (.lv (oB {Op:=st.op,A:=E7.ku,B:=0,C:=0,bh:=wrap i32 0}) λ(x8:Int×Bool)=>.lf (x8.1,x8.2)));.br (x0==2) T5 (.br (x0==1) T5 (.br (decide (v<x1.1)) (.lf (0,false)) (.br (decide (v>x1.2)) (.lf (0,false)) (.lv (oB {Op:=st.op,A:=E7.ku,B:=0,C:=0,bh:=wrap i32 v}) λ(kZ:Int×Bool)=>.lf (kZ.1,kZ.2))))))) (.br (x0 !=1) (.cn E9 (.cn mL (let T3:Tree ((Int×Bool)):=.br (decide (0<x1.1)) (.lf (0,false)) (.br (decide (0>x1.2)) (.lf (0,false)) (.lv (oB {Op:=st.op,A:=E7.ku,B:=E8.ku,C:=0,bh:=wrap i32 0}) λ(nq:Int×Bool)=>.lf (nq.1,nq.2)));.br (x0==2) T3 (.br (x0==1) T3 (.br (decide (v<x1.1)) (.lf (0,false)) (.br (decide (v>x1.2)) (.lf (0,false)) (.lv (oB {Op:=st.op,A:=E7.ku,B:=E8.ku,C:=0,bh:=wrap i32 v}) λ(ry:Int×Bool)=>.lf (ry.1,ry.2)))))))) (let T6:Tree ((Int×Bool)):=.br (decide (0<x1.1)) (.lf (0,false)) (.br (decide (0>x1.2)) (.lf (0,false)) (.lv (oB {Op:=st.op,A:=0,B:=0,C:=0,bh:=wrap i32 0}) λ(uf:Int×Bool)=>.lf (uf.1,uf.2)));.br (x0==2) T6 (.br (x0==1) T6 (.br (decide (v<x1.1)) (.lf (0,false)) (.br (decide (v>x1.2)) (.lf (0,false)) (.lv (oB {Op:=st.op,A:=0,B:=0,C:=0,bh:=wrap i32 v}) λ(ug:Int×Bool)=>.lf (ug.1,ug.2)))))));.br (decide (st.op>=32)) (.br (decide (st.op<=36)) (.cn E9 (.cn oF (.cn mL (let T4:Tree ((Int×Bool)):=.br (decide (0<x1.1)) (.lf (0,false)) (.br (decide (0>x1.2)) (.lf (0,false)) (.lv (oB {Op:=st.op,A:=E7.ku,B:=nH.ku,C:=0,bh:=wrap i32 0}) λ(x5:Int×Bool)=>.lf (x5.1,x5.2)));.br (x0==2) T4 (.br (x0==1) T4 (.br (decide (E8.num<x1.1)) (.lf (0,false)) (.br (decide (E8.num>x1.2)) (.lf (0,false)) (.lv (oB {Op:=st.op,A:=E7.ku,B:=nH.ku,C:=0,bh:=wrap i32 E8.num}) λ(x7:Int×Bool)=>.lf (x7.1,x7.2))))))))) T1) T1)
def UN st v:=(Nf st v).m
abbrev Nd st v:=(Nf st v).p
def Zil:ba:=mT 97 [] true [.agg j8.sig,.one (.int .i64)] [] (λa r=>Nf (j8.of (aC a 0)) (ar a 1)) (λX=>.dt [.int .u32 (X.1),.bool (X.2)]) (λX=>[])
theorem Zc5:bj pG Zil:=oT (.cons Rb (.cons Qq6 (.cons ZO (.nil)))) Tryz.func97 Tryz.call97 [] [] 2

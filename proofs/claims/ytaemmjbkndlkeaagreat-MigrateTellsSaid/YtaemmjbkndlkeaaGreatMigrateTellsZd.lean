import Derived.Test.YtaemmjbkndlkeaaGreatMigrateTellsYz
open UInt8 renaming toNat->eQ,ofNat->eR
open List renaming take->cU,drop->cV,length->dF,getD->aV
open Int renaming toNat->dA,tdiv->eN
open Nat renaming lt_succ_self->cN,beq->bX,blt->bN
set_option maxRecDepth 100000
set_option linter.all false
namespace Go.Proofs.YtaemmjbkndlkeaaGreat
open Go Go.GD Go.IntKind
noncomputable section
instance TY {α β:Type} [Inhabited β]:Inhabited (α⊕β):=⟨.inr default⟩
def Z75(src:List UInt8)(z:(Int)×(Int)×(List (List UInt8))):Nat:=(src.length-z.2.1).toNat
def OV(src:List UInt8):Tree (List (List UInt8)):=
.lp inferInstance (Z75 src (0,0,[])+1) ((rE (src:List UInt8)/\True/\rE (0:Int)/\rE (0:Int)/\True)/\rE ([]:List (RK.T RK.str))/\True) (0,0,[]) λ(v0:Int×Int×List (List UInt8))=>let E1:=decide (16*(v0.2.2.length+1)<=140737488355328);.br (decide (v0.2.1<(src.length:Int))) (.cn (decide (0<=v0.2.1/\v0.2.1<(src.length:Int))) (.br ((↑(eQ (src.getD v0.2.1.toNat (0:UInt8))):Int)==(10:Int)) (.cn (decide (0<=v0.1/\v0.1<=v0.2.1/\v0.2.1<=(src.length:Int))) (.cn E1 (.nx ((rE (src:List UInt8)/\True/\rE ((wrap i64 (v0.2.1+1)):Int)/\rE ((wrap i64 (v0.2.1+1)):Int)/\True)/\rE ((v0.2.2++[cU (dA v0.2.1-dA v0.1) (cV v0.1.toNat src)]):List (RK.T RK.str))/\True) (Sum.inl (wrap i64 (v0.2.1+1),wrap i64 (v0.2.1+1),v0.2.2++[cU (dA v0.2.1-dA v0.1) (cV v0.1.toNat src)]))))) (.nx ((rE (src:List UInt8)/\True/\rE v0.1/\rE ((wrap i64 (v0.2.1+1)):Int)/\True)/\rE v0.2.2/\True) (Sum.inl (v0.1,wrap i64 (v0.2.1+1),v0.2.2))))) (.br (decide (v0.1<(src.length:Int))) (.cn (decide (0<=v0.1/\v0.1<=(src.length:Int)/\(src.length:Int)<=(src.length:Int))) (.cn E1 (.lf (Sum.inr (v0.2.2++[cU (dA (src.length:Int)-dA v0.1) (cV v0.1.toNat src)]))))) (.lf (Sum.inr v0.2.2)))
def Z45 src:=(OV src).m
abbrev Qpm src:=(OV src).p
def Zl0:bw:={
 α:=(Int)×(Int)×(List (List UInt8))
 F:=λst a=>([(0,(lk st 0)),(3,.all 0),(4,.int i64 a.1),(5,.int i64 a.2.1)],[⟨false,9,1,.ao RK.str a.2.2⟩])
 a0:=λst=>((lk st 4).toInt,(lk st 5).toInt,(rY RK.str st.rows (rN st 3)))
 iU:=λst=>[]++[(rX st 3 0)]}
def Zbo:List (Nat×bw):=[(4,Zl0)]
def Znl:bd:=mT 175 [] true [.one (.str)] [] (λa r=>OV (jT a 0)) (λX=>.all 0) (λX=>[⟨false,9,1,.ao .str X⟩])
theorem Zjd:bu pG Znl:=oT (.nil) Tryz.func175 Tryz.call175 [.row 9 1 (.ao .str)] Zbo 3
def Z20(c:Int):Tree Bool:=
.br (decide (c>=97)) (.lf (decide (c<=122))) (.lf false)
def XI c:=(Z20 c).m
def Zll:bd:=mS 261 [] true [.one (.int .u8)] [] (λa r=>Z20 (au a 0)) (λX=>.bool X) (λX=>[])
theorem Qyc:bu pG Zll:=oS (.nil) Tryz.func261 Tryz.call261 [] [] 2
def Z5z(c:Int):Tree Bool:=
.br (decide (c>=48)) (.lf (decide (c<=57))) (.lf false)
def N3 c:=(Z5z c).m
def Zov:bd:=mS 262 [] true [.one (.int .u8)] [] (λa r=>Z5z (au a 0)) (λX=>.bool X) (λX=>[])
theorem Z1j:bu pG Zov:=oS (.nil) Tryz.func262 Tryz.call262 [] [] 2
def Z4s(s:List UInt8)(z:(Bool)×(Int)×(List lQ)):Nat:=(s.length-z.2.1).toNat
def Z36(s:List UInt8)(v0:Bool×Int×List lQ)(z:(Int)):Nat:=(s.length-z).toNat
def Z39(s:List UInt8)(v0:Bool×Int×List lQ)(z:(Int)):Nat:=(s.length-z).toNat
def OW(s:List UInt8):Tree ((List lQ)×Bool):=
.lp inferInstance (Z4s s (true,0,[])+1) ((rE (s:List UInt8)/\True/\rE (true:Bool)/\rE (0:Int)/\True)/\rE ([]:List (RK.T RK.ax))/\True) (true,0,[]) λ(v0:Bool×Int×List lQ)=>.br (decide (v0.2.1<(s.length:Int))) (.cn (decide (0<=v0.2.1/\v0.2.1<(s.length:Int))) (let E7:=(↑(eQ (s.getD v0.2.1.toNat (0:UInt8))):Int);.br (E7==(32:Int)) (.nx ((rE (s:List UInt8)/\True/\rE (true:Bool)/\rE ((wrap i64 (v0.2.1+1)):Int)/\True)/\rE v0.2.2/\True) (Sum.inl (true,wrap i64 (v0.2.1+1),v0.2.2))) (.lv (XI E7) λ(x0:Bool)=>let nH:=decide (32*(v0.2.2.length+1)<=140737488355328);let Ci:=cV v0.2.1.toNat s;.br x0 (.lp inferInstance (Z36 s v0 v0.2.1+1) ((rE (s:List UInt8)/\True/\rE v0.1/\rE v0.2.1/\rE v0.2.1/\True)/\rE v0.2.2/\True) v0.2.1 λ(v1:Int)=>let T3:Tree ((Int)⊕((Bool×Int×List lQ)⊕(((List lQ)×Bool)))):=.cn (decide (0<=v0.2.1/\v0.2.1<=v1/\v1<=(s.length:Int))) (.cn nH (.nx ((rE (s:List UInt8)/\True/\rE (false:Bool)/\rE (v1:Int)/\True)/\rE ((v0.2.2++[{kind:=1,F3:=cU (dA v1-dA v0.2.1) (cV v0.2.1.toNat s),AP:=v0.1}]):List (RK.T RK.ax))/\True) (Sum.inr (Sum.inl (false,v1,v0.2.2++[{kind:=1,F3:=cU (dA v1-dA v0.2.1) Ci,AP:=v0.1}])))));.br (decide (v1<(s.length:Int))) (let oF:=decide (0<=v1/\v1<(s.length:Int));.cn oF (let E8:=(↑(eQ (s.getD v1.toNat (0:UInt8))):Int);.lv (XI E8) λ(x1:Bool)=>let T5:Tree ((Int)⊕((Bool×Int×List lQ)⊕(((List lQ)×Bool)))):=.nx ((rE (s:List UInt8)/\True/\rE v0.1/\rE ((wrap i64 (v1+1)):Int)/\rE v0.2.1/\True)/\rE v0.2.2/\True) (Sum.inl (wrap i64 (v1+1)));.br x1 T5 (.cn oF (.lv (N3 E8) λ(x2:Bool)=>.br x2 T5 (.cn oF (.br (E8==(95:Int)) T5 T3)))))) T3) (.lv (N3 E7) λ(x3:Bool)=>let T2:Tree ((Bool×Int×List lQ)⊕(((List lQ)×Bool))):=.lp inferInstance (Z39 s v0 (wrap i64 (v0.2.1+1))+1) ((rE (s:List UInt8)/\True/\rE v0.1/\rE ((wrap i64 (v0.2.1+1)):Int)/\rE v0.2.1/\True)/\rE v0.2.2/\True) (wrap i64 (v0.2.1+1)) λ(v1:Int)=>let T4:Tree ((Int)⊕((Bool×Int×List lQ)⊕(((List lQ)×Bool)))):=.cn (decide (0<=v0.2.1/\v0.2.1<=v1/\v1<=(s.length:Int))) (.cn nH (.nx ((rE (s:List UInt8)/\True/\rE (false:Bool)/\rE (v1:Int)/\True)/\rE ((v0.2.2++[{kind:=2,F3:=cU (dA v1-dA v0.2.1) (cV v0.2.1.toNat s),AP:=v0.1}]):List (RK.T RK.ax))/\True) (Sum.inr (Sum.inl (false,v1,v0.2.2++[{kind:=2,F3:=cU (dA v1-dA v0.2.1) Ci,AP:=v0.1}])))));.br (decide (v1<(s.length:Int))) (let pH:=decide (0<=v1/\v1<(s.length:Int));.cn pH (let E9:=(↑(eQ (s.getD v1.toNat (0:UInt8))):Int);.lv (XI E9) λ(x4:Bool)=>let T6:Tree ((Int)⊕((Bool×Int×List lQ)⊕(((List lQ)×Bool)))):=.nx ((rE (s:List UInt8)/\True/\rE v0.1/\rE ((wrap i64 (v1+1)):Int)/\rE v0.2.1/\True)/\rE v0.2.2/\True) (Sum.inl (wrap i64 (v1+1)));.br x4 T6 (.cn pH (.lv (N3 E9) λ(x5:Bool)=>.br x5 T6 (.cn pH (.br (E9==(95:Int)) T6 T4)))))) T4;.br x3 T2 (.br (E7==(45:Int)) T2 (let T1:Tree ((Bool×Int×List lQ)⊕(((List lQ)×Bool))):=.cn (decide (0<=v0.2.1/\v0.2.1<=wrap i64 (v0.2.1+1)/\wrap i64 (v0.2.1+1)<=(s.length:Int))) (.cn nH (.nx ((rE (s:List UInt8)/\True/\rE (false:Bool)/\rE ((wrap i64 (v0.2.1+1)):Int)/\True)/\rE ((v0.2.2++[{kind:=3,F3:=cU (dA (wrap i64 (v0.2.1+1))-dA v0.2.1) (cV v0.2.1.toNat s),AP:=v0.1}]):List (RK.T RK.ax))/\True) (Sum.inl (false,wrap i64 (v0.2.1+1),v0.2.2++[{kind:=3,F3:=cU (dA (wrap i64 (v0.2.1+1))-dA v0.2.1) Ci,AP:=v0.1}]))));.br (E7==(44:Int)) T1 (.br (E7==(58:Int)) T1 (.br (E7==(40:Int)) T1 (.br (E7==(41:Int)) T1 (.br (E7==(46:Int)) T1 (.lf (Sum.inr ([],false))))))))))))) (.lf (Sum.inr (v0.2.2,true)))
def Zbz s:=(OW s).m
abbrev Qnk s:=(OW s).p
def Ze6:bw:={
 α:=(Bool)×(Int)×(List lQ)
 F:=λst a=>([(0,(lk st 0)),(4,.all 0),(5,.bool a.1),(6,.int i64 a.2.1)],[⟨false,290,3,.ao RK.ax a.2.2⟩])
 a0:=λst=>((lk st 5).toBool,(lk st 6).toInt,(rY RK.ax st.rows (rN st 4)))
 iU:=λst=>[]++[(rX st 4 0)]}
def Zev:bw:={
 α:=(Int)
 F:=λst a=>([(0,(lk st 0)),(4,.all 0),(5,(lk st 5)),(6,.int i64 a),(8,(lk st 8))],[⟨false,290,3,mu st.rows (rN st 4)⟩])
 a0:=λst=>(lk st 6).toInt
 iU:=λst=>[]++[(rX st 4 0)]}
def Zfc:bw:={
 α:=(Int)
 F:=λst a=>([(0,(lk st 0)),(4,.all 0),(5,(lk st 5)),(6,.int i64 a),(8,(lk st 8))],[⟨false,290,3,mu st.rows (rN st 4)⟩])
 a0:=λst=>(lk st 6).toInt
 iU:=λst=>[]++[(rX st 4 0)]}
def Z86:List (Nat×bw):=[(4,Ze6),(12,Zev),(17,Zfc)]
def Zmt:bd:=mT 228 [] true [.one (.str)] [] (λa r=>OW (jT a 0)) (λX=>.dw [.all 0,.bool (X.2)]) (λX=>[⟨false,290,3,.ao .ax (X.1)⟩])
theorem Zf5:bu pG Zmt:=oT (.cons Qyc (.cons Z1j (.nil))) Tryz.func228 Tryz.call228 [.row 290 3 (.ao .ax)] Z86 3
 def TZ (p:Int->Prop) (r:Int->List UInt8) (n:Int):Tree (List UInt8):=
 .br (decide (n<(10:Int))) (.lf ([(λ(n:Int)=>eR n.toNat) (wrap u8 (wrap u64 ((48:Int)+n)))])) (.an (p (wrap u64 (eN n (10:Int)))) (.lv (r (wrap u64 (eN n (10:Int)))) λ(x0:List UInt8)=>.cn (decide (x0.length+dF [(λ(n:Int)=>eR n.toNat) (wrap u8 (wrap u64 ((48:Int)+Int.tmod n (10:Int))))]<=maxLen)) (.lf (x0++[(λ(n:Int)=>eR n.toNat) (wrap u8 (wrap u64 ((48:Int)+Int.tmod n (10:Int))))]))))
 def BD:Nat->Int->List UInt8
  |0,_=>[]
  |k+1,n=>(TZ (λ_=>True) (BD k) n).m
 def Ll (k:Nat) (n:Int):Prop:=0<=n/\n<10^k/\n<18446744073709551616/\0<k/\k<=30
 def Jax (k:Nat):bd:=lj 301 [] true [.one (.int .u64)] [] (λargs rows=>Ll k (au args 0)) (λargs rows=>BD k (au args 0)) (λX=>.str X) (λX=>[])
 theorem pn:∀k n,(BD k n).length<=k
  |0,_=>Nat.le_refl _
  |k+1,n=>by
   show(bif decide (n<10)then _ else eu (BD k _) λx0=>x0++_).length<=k+1
   have:=pn k (wrap u64 (eN n 10))
   cases decide (n<10)
   ·simp[eu,Tree.m];omega
   ·simp[Tree.m]
 theorem AJ:∀k,bu pG (Jax k)
  |0=>GR Tryz.call301 (λargs rows h=>absurd h.2.2.2.1 (Nat.lt_irrefl 0)) (λ_ X=>by kernel_rfl)
  |k + 1=>by
   refine sF drawn jL (.cons (AJ k) .nil) Tryz.func301 Tryz.call301 (λargs rows=>TZ (Ll k) (BD k) (au args 0)) [] [] 2 (λ_ _ _=>by kernel_rfl) (λ_ _=>rfl) (λargs rows h=>?_) (λ_ X=>by kernel_rfl)
   obtain⟨h0,h1,h2,h3,h4⟩:=h
   generalize au args 0=n at*
   refine aa (λ_=>trivial) (λhn=>?_)
   have hn:=oN hn
   have e:wrap u64 (eN n 10)=n/10:=by rw[wrap_u64,Int.tdiv_eq_ediv_of_nonneg h0];omega
   refine bz (show Ll k _ from ?_) (ai λx hx=>ar (dY ?_) trivial)
   ·rw[e]
    rw[Int.pow_succ]at h1
    have hk:0<k:=by
     rcases Nat.eq_zero_or_pos k with rfl|h
     ·simp at h1;omega
     ·exact h
    exact⟨by omega,by omega,by omega,hk,by omega⟩
   ·have:=pn k (wrap u64 (eN n 10))
    rw[<-hx]at this
    simp[maxLen];omega
def N4(n:Int):(List UInt8):=
BD 20 n
def FD(n:Int):Prop:=
0<=n/\n<18446744073709551616
def Qtk(n:Int):List D:=[.int .u64 n]
def Qtj(n:Int):List Row:=[]
def Qns(X:List UInt8):D:=.str X
def Qlz(X:List UInt8):List Row:=[]
def Qvx:List PT:=[.one (.int .u64)]
def Qt:List RT:=[]
def Zbh(args:List D)(rows:List Row):(List UInt8):=N4 (au args 0)
def Zax(args:List D)(rows:List Row):Prop:=FD (au args 0)
def Zk4:bd:=lj 301 [] true Qvx Qt Zax Zbh Qns Qlz
theorem Z50(n:Int)(hw:FD n):kM pG 301 (Qtk n) (Qtj n) (Qns (N4 n)) (Qlz (N4 n)):=by
 have h20:(18446744073709551616:Int)<=10^20:=by decide
 exact xD (args:=[.int .u64 n]) (rows:=[]) (AJ 20) (by kernel_rfl) ⟨hw.1,Int.lt_of_lt_of_le hw.2 h20,hw.2,by decide,by decide⟩
set_option maxRecDepth 100000 in
theorem Z7m(args:List D)(rows:List Row):lN Qvx args 0=Qtk (au args 0):=by kernel_rfl
set_option maxRecDepth 100000 in
theorem Z4e(args:List D)(rows:List Row):kR Qt rows 0=Qtj (au args 0):=by kernel_rfl
set_option maxRecDepth 100000 in
theorem Zel(X:List UInt8):(ue (Qns X)&&jP (Qlz X))=true:=by kernel_rfl
theorem Zft:bu pG Zk4:=GR Tryz.call301 (λargs rows hp=>by rw[Z7m args rows,Z4e args rows];exact Z50 (au args 0) hp) (λ_ X=>Zel X)
def JB(n:Int):Tree (List UInt8):=
.br (decide (n<0)) (let E1:=wrap u64 (wrap u64 (wrap i64 (0-wrap i64 (n+1)))+1);.an (FD E1) (.lv (N4 E1) λ(x0:List UInt8)=>.cn (decide (1+x0.length<=maxLen)) (.lf ((45:UInt8)::x0)))) (.an (FD (wrap u64 n)) (.lv (N4 (wrap u64 n)) λ(x1:List UInt8)=>.lf x1))
def Qw5 n:=(JB n).m
abbrev Qjr n:=(JB n).p
def Zet:bd:=mT 298 [] true [.one (.int .i64)] [] (λa r=>JB (au a 0)) (λX=>.str X) (λX=>[])
theorem Z9s:bu pG Zet:=oT (.cons Zft (.nil)) Tryz.func298 Tryz.call298 [] [] 2
def JC(r:Int):Tree (List UInt8):=
.an (Qjr r) (.lv (Qw5 r) λ(x0:List UInt8)=>.cn (decide (1+x0.length<=maxLen)) (.lf ((114:UInt8)::x0)))
def Zuy r:=(JC r).m
abbrev Quz r:=(JC r).p
def Zxe:bd:=mT 288 [] true [.one (.int .i64)] [] (λa r=>JC (au a 0)) (λX=>.str X) (λX=>[])
theorem Zso:bu pG Zxe:=oT (.cons Z9s (.nil)) Tryz.func288 Tryz.call288 [] [] 2
def Qxs(s:List UInt8)(z:(Int)):Prop:=0<=z/\z<=16
def Qji(s:List UInt8)(z:(Int)):Nat:=(16-z).toNat
def XJ(s:List UInt8):Tree (Int×Bool):=
.lp inferInstance (Qji s 0+1) ((rE (s:List UInt8)/\rE (0:Int)/\True)/\True) 0 λ(v0:Int)=>.br (decide (v0<16)) (.an (Quz v0) (.lv (Zuy v0) λ(x0:List UInt8)=>.br (decide (s=x0)) (.lf (Sum.inr (v0,true))) (.nx ((rE (s:List UInt8)/\rE ((wrap i64 (v0+1)):Int)/\True)/\True) (Sum.inl (wrap i64 (v0+1)))))) (.lf (Sum.inr (0,false)))
def Qn4 s:=(XJ s).m
theorem Qz3(s:List UInt8):(XJ s).p:=by
 unfold Tree.p XJ
 have dp:∀x,FD (wrap .u64 x):=λx=>by unfold FD;rw[wrap_u64];omega
 have dl:∀x,(N4 x).length<=20:=λx=>pn 20 x
 have hd:∀x,(JB x).w (λr=>r.length<=21):=λx=>by
  unfold JB
  refine aa (λ_=>bz (dp _) (ai λx0 h0=>ar (dY ?_) ?_)) (λ_=>bz (dp _) (ai λx1 h1=>?_))
  ·have:=dl (wrap .u64 (wrap .u64 (wrap .i64 (0-wrap .i64 (x+1)))+1));rw[<-h0]at this;simp[maxLen];omega
  ·have:=dl (wrap .u64 (wrap .u64 (wrap .i64 (0-wrap .i64 (x+1)))+1));rw[<-h0]at this;show(_::x0).length<=21;simp;omega
  ·rw[h1];exact Nat.le_trans (dl _) (by decide)
 have hr:∀x,(JC x).p:=λx=>by
  unfold Tree.p JC
  refine bz (Tree.pp (hd x)).1 (ai λx0 h0=>ar (dY ?_) trivial)
  have:(Qw5 x).length<=21:=(Tree.pp (hd x)).2
  rw[<-h0]at this;simp[maxLen];omega
 refine ed (inv:=Qxs s) (μ:=Qji s) ⟨by decide,by decide⟩ (cN _) (λz hz=>?_)
 obtain⟨z1,z2⟩:=hz
 refine aa (λhb=>bz (hr _) (ai λx0 _=>aa (λ_=>trivial) (λ_=>dj ?_))) (λ_=>trivial)
 have hb:=oY hb
 show(0<=i64.wrap (z+1)/\i64.wrap (z+1)<=16)/\(16-i64.wrap (z+1)).toNat<(16-z).toNat
 rw[wrap_i64];omega
def Z2x:bw:={
 α:=(Int)
 F:=λst a=>([(0,(lk st 0)),(4,.int i64 a)],[])
 a0:=λst=>(lk st 4).toInt
 iU:=λst=>[]++[]}
def Qxq:List (Nat×bw):=[(2,Z2x)]
def Z5b:bd:=mS 263 [] true [.one (.str)] [] (λa r=>XJ (jT a 0)) (λX=>.dw [.int .i64 (X.1),.bool (X.2)]) (λX=>[])
theorem Qos:bu pG Z5b:=oS (.cons Zso (.nil)) Tryz.func263 Tryz.call263 [] Qxq 3 (λ_ _ _=>by kernel_rfl) (λa r=>Qz3 (jT a 0)) (λ_ X=>by kernel_rfl)
def OX(s:List UInt8):Tree Bool:=
.lv (Qn4 s) λ(x0:Int×Bool)=>.br (decide ((s.length:Int)>=(1:Int))) (.br (decide ((s.length:Int)<=(12:Int))) (.cn (decide ((0:Int)<=(0:Int)/\0<(s.length:Int))) (.lv (XI (↑(eQ (s.getD (dA 0) (0:UInt8))):Int)) λ(x1:Bool)=>.br x1 (.lf (!x0.2)) (.lf false))) (.lf false)) (.lf false)
def Zcw s:=(OX s).m
abbrev Y3 s:=(OX s).p
def Ztd:bd:=mT 229 [] true [.one (.str)] [] (λa r=>OX (jT a 0)) (λX=>.bool X) (λX=>[])
theorem Z65:bu pG Ztd:=oT (.cons Qos (.cons Qyc (.nil))) Tryz.func229 Tryz.call229 [] [] 2
def OY(op:Int):Tree (List UInt8):=
let T1:Tree ((List UInt8)):=let T3:Tree ((List UInt8)):=.br (op==48) (.lf ([(106:UInt8),97,108])) (.br (op==49) (.lf ([(106:UInt8),97,108,114])) (.br (decide (op>=56)) (.br (decide (op<=64)) (.cn (bX 1 1&&bN 0 1&&decide (0<=wrap i64 (op-56)/\wrap i64 (op-56)<(↑9:Int))) (.lf (aV [[(101:UInt8),99,97,108,108],[(101:UInt8),114,101,116],[(99:UInt8),115,114,114],[(99:UInt8),115,114,119],[(105:UInt8),110],[(111:UInt8),117,116],[(119:UInt8),102,105],[(102:UInt8),108,117,115,104],[(104:UInt8),97,108,116]] (dA (wrap i64 (op-56))) (RK.dk RK.str)))) (.lf ([]))) (.lf ([]))));.br (decide (op>=40)) (.br (decide (op<=45)) (.cn (bX 1 1&&bN 0 1&&decide (0<=wrap i64 (op-40)/\wrap i64 (op-40)<(↑6:Int))) (.lf (aV [[(98:UInt8),101,113],[(98:UInt8),110,101],[(98:UInt8),108,116],[(98:UInt8),103,101],[(98:UInt8),108,116,117],[(98:UInt8),103,101,117]] (dA (wrap i64 (op-40))) (RK.dk RK.str)))) T3) T3;let T2:Tree ((List UInt8)):=let T4:Tree ((List UInt8)):=.br (decide (op>=32)) (.br (decide (op<=36)) (.cn (bX 1 1&&bN 0 1&&decide (0<=wrap i64 (op-32)/\wrap i64 (op-32)<(↑5:Int))) (.lf (aV [[(108:UInt8),119],[(108:UInt8),98],[(108:UInt8),98,117],[(115:UInt8),119],[(115:UInt8),98]] (dA (wrap i64 (op-32))) (RK.dk RK.str)))) T1) T1;.br (decide (op>=16)) (.br (decide (op<=24)) (.cn (bX 1 1&&bN 0 1&&decide (0<=wrap i64 (op-16)/\wrap i64 (op-16)<(↑9:Int))) (.lf (aV [[(97:UInt8),100,100,105],[(97:UInt8),110,100,105],[(111:UInt8),114,105],[(120:UInt8),111,114,105],[(115:UInt8),104,108,105],[(115:UInt8),104,114,105],[(115:UInt8),97,114,105],[(115:UInt8),108,116,105],[(108:UInt8),117,105]] (dA (wrap i64 (op-16))) (RK.dk RK.str)))) T4) T4;.br (decide (op>=1)) (.br (decide (op<=13)) (.cn (bX 1 1&&bN 0 1&&decide (0<=wrap i64 (op-1)/\wrap i64 (op-1)<(↑13:Int))) (.lf (aV [[(97:UInt8),100,100],[(115:UInt8),117,98],[(97:UInt8),110,100],[(111:UInt8),114],[(120:UInt8),111,114],[(115:UInt8),104,108],[(115:UInt8),104,114],[(115:UInt8),97,114],[(109:UInt8),117,108],[(100:UInt8),105,118],[(114:UInt8),101,109],[(115:UInt8),108,116],[(115:UInt8),108,116,117]] (dA (wrap i64 (op-1))) (RK.dk RK.str)))) T2) T2
def Z1l op:=(OY op).m
abbrev Qhm op:=(OY op).p
def Zbx:bd:=mT 265 [] true [.one (.int .i64)] [] (λa r=>OY (au a 0)) (λX=>.str X) (λX=>[])
theorem Z80:bu pG Zbx:=oT (.nil) Tryz.func265 Tryz.call265 [] [] 2
def Qxu(s:List UInt8)(z:(Int)):Nat:=(65-z).toNat
def OZ(s:List UInt8):Tree Int:=
.lp inferInstance (Qxu s 1+1) ((rE (s:List UInt8)/\rE (1:Int)/\True)/\True) 1 λ(v0:Int)=>.br (decide (v0<=64)) (.lv (pA v0) λ(x0:Int)=>.br (decide (x0>0)) (.an (Qhm v0) (.lv (Z1l v0) λ(x1:List UInt8)=>.br (decide (x1=s)) (.lf (Sum.inr v0)) (.nx ((rE (s:List UInt8)/\rE ((wrap i64 (v0+1)):Int)/\True)/\True) (Sum.inl (wrap i64 (v0+1)))))) (.nx ((rE (s:List UInt8)/\rE ((wrap i64 (v0+1)):Int)/\True)/\True) (Sum.inl (wrap i64 (v0+1))))) (.lf (Sum.inr 0))
def Qa s:=(OZ s).m
abbrev LS s:=(OZ s).p
def Z52:bw:={
 α:=(Int)
 F:=λst a=>([(0,(lk st 0)),(3,.int i64 a)],[])
 a0:=λst=>(lk st 3).toInt
 iU:=λst=>[]++[]}
def Qyx:List (Nat×bw):=[(2,Z52)]
def Z7s:bd:=mT 232 [] true [.one (.str)] [] (λa r=>OZ (jT a 0)) (λX=>.int .i64 X) (λX=>[])
theorem Qqv:bu pG Z7s:=oT (.cons TW (.cons Z80 (.nil))) Tryz.func232 Tryz.call232 [] Qyx 3
def O1(eh:List UInt8):Tree ((List UInt8)×Bool):=
.an (LS eh) (.lv (Qa eh) λ(x0:Int)=>.br (decide (eh=[(46:UInt8),119,111,114,100])) (.lf ([(120:UInt8)],true)) (.br (decide (eh=[(46:UInt8),115,112,97,99,101])) (.lf ([(110:UInt8)],true)) (.br (decide (eh=[(108:UInt8),105])) (.lf ([(114:UInt8),44,120],true)) (.br (decide (eh=[(109:UInt8),118])) (.lf ([(114:UInt8),44,114],true)) (.br (decide (eh=[(110:UInt8),111,112])) (.lf ([],true)) (.br (x0==0) (.lf ([],false)) (let T1:Tree (((List UInt8)×Bool)):=.br (x0==48) (.lf ([(114:UInt8),44,120],true)) (.lv (pA x0) λ(x1:Int)=>.br (x1==1) (.lf ([],true)) (.br (x1==2) (.lf ([(114:UInt8),44,114,44,114],true)) (.br (decide (x1>=6)) (.lf ([(114:UInt8),44,110],true)) (.lf ([(114:UInt8),44,114,44,110],true)))));let T2:Tree (((List UInt8)×Bool)):=.br (decide (x0>=40)) (.br (decide (x0<=45)) (.lf ([(114:UInt8),44,114,44,120],true)) T1) T1;.br (decide (x0>=32)) (.br (decide (x0<=36)) (.lf ([(114:UInt8),44,110,40,114,41],true)) T2) T2)))))))
def XK eh:=(O1 eh).m
abbrev O0 eh:=(O1 eh).p
def Zgk:bd:=mT 230 [] true [.one (.str)] [] (λa r=>O1 (jT a 0)) (λX=>.dw [.str (X.1),.bool (X.2)]) (λX=>[])
theorem Zb8:bu pG Zgk:=oT (.cons Qqv (.cons TW (.nil))) Tryz.func230 Tryz.call230 [] [] 2
def Z4z(s:List UInt8)(z:(Int)×(Int)):Nat:=(s.length-z.2).toNat
def Qq(s:List UInt8)(z:(Int)×(Int)):Nat:=(s.length-z.2).toNat
def O2(s:List UInt8):Tree (Int×Bool):=
let E7:=decide ((0:Int)<=(0:Int)/\0<(s.length:Int));let E8:=(↑(eQ (s.getD (dA 0) (0:UInt8))):Int);let T1:Tree ((Int×Bool)):=let T2:Tree ((Int×Bool)):=.br (decide (wrap i64 ((s.length:Int)-(0:Int))<1)) (.lf (0,false)) (.br (decide (wrap i64 ((s.length:Int)-(0:Int))>10)) (.lf (0,false)) (.lp inferInstance (Qq s (0,0)+1) ((rE (s:List UInt8)/\rE (0:Int)/\rE (0:Int)/\rE (0:Int)/\True)/\True) (0,0) λ(v0:Int×Int)=>.br (decide (v0.2<(s.length:Int))) (let E9:=decide (0<=v0.2/\v0.2<(s.length:Int));.cn E9 (let E5:=(↑(eQ (s.getD v0.2.toNat (0:UInt8))):Int);.lv (N3 E5) λ(x2:Bool)=>.br (!x2) (.lf (Sum.inr (0,false))) (.cn E9 (.nx ((rE (s:List UInt8)/\rE (0:Int)/\rE ((wrap i64 (wrap i64 (10*v0.1)+wrap i64 (wrap u8 ((↑(eQ (s.getD v0.2.toNat (0:UInt8))):Int)-(48:Int))))):Int)/\rE ((wrap i64 (v0.2+1)):Int)/\True)/\True) (Sum.inl (wrap i64 (wrap i64 (10*v0.1)+wrap i64 (wrap u8 (E5-(48:Int)))),wrap i64 (v0.2+1))))))) (.br (decide (v0.1>=(-2147483648))) (.lf (Sum.inr (v0.1,decide (v0.1<=4294967295)))) (.lf (Sum.inr (v0.1,false))))));.br (decide ((s.length:Int)>(0:Int))) (.cn E7 (.br (E8==(45:Int)) (.br (decide (wrap i64 ((s.length:Int)-(1:Int))<1)) (.lf (0,false)) (.br (decide (wrap i64 ((s.length:Int)-(1:Int))>10)) (.lf (0,false)) (.lp inferInstance (Qq s (0,1)+1) ((rE (s:List UInt8)/\rE (1:Int)/\rE (0:Int)/\rE (1:Int)/\True)/\True) (0,1) λ(v0:Int×Int)=>.br (decide (v0.2<(s.length:Int))) (let nH:=decide (0<=v0.2/\v0.2<(s.length:Int));.cn nH (let E6:=(↑(eQ (s.getD v0.2.toNat (0:UInt8))):Int);.lv (N3 E6) λ(x1:Bool)=>.br (!x1) (.lf (Sum.inr (0,false))) (.cn nH (.nx ((rE (s:List UInt8)/\rE (1:Int)/\rE ((wrap i64 (wrap i64 (10*v0.1)+wrap i64 (wrap u8 ((↑(eQ (s.getD v0.2.toNat (0:UInt8))):Int)-(48:Int))))):Int)/\rE ((wrap i64 (v0.2+1)):Int)/\True)/\True) (Sum.inl (wrap i64 (wrap i64 (10*v0.1)+wrap i64 (wrap u8 (E6-(48:Int)))),wrap i64 (v0.2+1))))))) (.br (decide (wrap i64 (0-v0.1)>=(-2147483648))) (.lf (Sum.inr (wrap i64 (0-v0.1),decide (wrap i64 (0-v0.1)<=4294967295)))) (.lf (Sum.inr (wrap i64 (0-v0.1),false))))))) T2)) T2;.br (decide ((s.length:Int)>(2:Int))) (.cn E7 (.br (E8==(48:Int)) (.cn (decide ((0:Int)<=(1:Int)/\1<(s.length:Int))) (.br ((↑(eQ (s.getD (dA 1) (0:UInt8))):Int)==(120:Int)) (.br (decide ((s.length:Int)>(10:Int))) (.lf (0,false)) (.lp inferInstance (Z4z s (0,2)+1) ((rE (s:List UInt8)/\rE (0:Int)/\rE (2:Int)/\True)/\True) (0,2) λ(v0:Int×Int)=>.br (decide (v0.2<(s.length:Int))) (let E4:=decide (0<=v0.2/\v0.2<(s.length:Int));.cn E4 (let E3:=(↑(eQ (s.getD v0.2.toNat (0:UInt8))):Int);.lv (N3 E3) λ(x0:Bool)=>.br x0 (.cn E4 (.nx ((rE (s:List UInt8)/\rE ((wrap i64 (wrap i64 (16*v0.1)+wrap i64 (wrap u8 ((↑(eQ (s.getD v0.2.toNat (0:UInt8))):Int)-(48:Int))))):Int)/\rE ((wrap i64 (v0.2+1)):Int)/\True)/\True) (Sum.inl (wrap i64 (wrap i64 (16*v0.1)+wrap i64 (wrap u8 (E3-(48:Int)))),wrap i64 (v0.2+1))))) (.cn E4 (.br (decide (E3>=(97:Int))) (.cn E4 (.br (decide (E3<=(102:Int))) (.cn E4 (.nx ((rE (s:List UInt8)/\rE ((wrap i64 (wrap i64 (wrap i64 (16*v0.1)+wrap i64 (wrap u8 ((↑(eQ (s.getD v0.2.toNat (0:UInt8))):Int)-(97:Int))))+10)):Int)/\rE ((wrap i64 (v0.2+1)):Int)/\True)/\True) (Sum.inl (wrap i64 (wrap i64 (wrap i64 (16*v0.1)+wrap i64 (wrap u8 (E3-(97:Int))))+10),wrap i64 (v0.2+1))))) (.lf (Sum.inr (0,false))))) (.lf (Sum.inr (0,false))))))) (.lf (Sum.inr (v0.1,true))))) T1)) T1)) T1
def Zaa s:=(O2 s).m
abbrev Qnc s:=(O2 s).p
def Zff:bw:={
 α:=(Int)×(Int)
 F:=λst a=>([(0,(lk st 0)),(4,.int i64 a.1),(5,.int i64 a.2)],[])
 a0:=λst=>((lk st 4).toInt,(lk st 5).toInt)
 iU:=λst=>[]++[]}
def Zgl:bw:={
 α:=(Int)×(Int)
 F:=λst a=>([(0,(lk st 0)),(6,(lk st 6)),(7,.int i64 a.1),(8,.int i64 a.2)],[])
 a0:=λst=>((lk st 7).toInt,(lk st 8).toInt)
 iU:=λst=>[]++[]}
def Z7o:List (Nat×bw):=[(6,Zff),(21,Zgl)]
def Zlg:bd:=mT 264 [] true [.one (.str)] [] (λa r=>O2 (jT a 0)) (λX=>.dw [.int .i64 (X.1),.bool (X.2)]) (λX=>[])
theorem Zfr:bu pG Zlg:=oT (.cons Z1j (.nil)) Tryz.func264 Tryz.call264 [] Z7o 3
def Z2z(l:List lQ)(p:List UInt8)(z:(Int)×(List oe)):Nat:=(l.length-z.1).toNat
def O4(l:List lQ)(p:List UInt8):Tree ((List oe)×Bool):=
.br ((l.length:Int) !=(p.length:Int)) (.lf ([],false)) (.lp inferInstance (Z2z l p (0,[])+1) ((nR RK.ax 3 l/\rE (p:List UInt8)/\True/\rE (0:Int)/\True)/\rE ([]:List (RK.T RK.ay))/\True) (0,[]) λ(v0:Int×List oe)=>.br (decide (v0.1<(l.length:Int))) (.cn (bX 3 3&&bN 0 3&&decide (0<=v0.1/\v0.1<(l.length:Int))) (let E6:=decide (0<=v0.1/\v0.1<(p.length:Int));.cn E6 (let E3:=l.getD v0.1.toNat (RK.dk RK.ax);let E4:=(↑(eQ (p.getD v0.1.toNat (0:UInt8))):Int);let E5:=decide (32*(v0.2.length+1)<=140737488355328);.br (E4==(114:Int)) (.lv (Qn4 E3.F3) λ(x0:Int×Bool)=>.br (E3.kind !=1) (.lf (Sum.inr ([],false))) (.br (!x0.2) (.lf (Sum.inr ([],false))) (.cn E5 (.nx ((nR RK.ax 3 l/\rE (p:List UInt8)/\True/\rE ((wrap i64 (v0.1+1)):Int)/\True)/\rE ((v0.2++[{kT:=x0.1,num:=0,label:=[]}]):List (RK.T RK.ay))/\True) (Sum.inl (wrap i64 (v0.1+1),v0.2++[{kT:=x0.1,num:=0,label:=[]}])))))) (let T1:Tree ((Int×List oe)⊕(((List oe)×Bool))):=.an (Qnc E3.F3) (.lv (Zaa E3.F3) λ(x2:Int×Bool)=>.br (E3.kind !=2) (.lf (Sum.inr ([],false))) (.br (!x2.2) (.lf (Sum.inr ([],false))) (.cn E5 (.nx ((nR RK.ax 3 l/\rE (p:List UInt8)/\True/\rE ((wrap i64 (v0.1+1)):Int)/\True)/\rE ((v0.2++[{kT:=0,num:=x2.1,label:=[]}]):List (RK.T RK.ay))/\True) (Sum.inl (wrap i64 (v0.1+1),v0.2++[{kT:=0,num:=x2.1,label:=[]}]))))));let T2:Tree ((Int×List oe)⊕(((List oe)×Bool))):=.cn E6 (.br (E4==(120:Int)) (.br (E3.kind==1) (.an (Y3 E3.F3) (.lv (Zcw E3.F3) λ(x1:Bool)=>.br x1 (.cn E5 (.nx ((nR RK.ax 3 l/\rE (p:List UInt8)/\True/\rE ((wrap i64 (v0.1+1)):Int)/\True)/\rE ((v0.2++[{kT:=0,num:=0,label:=(l.getD v0.1.toNat (RK.dk RK.ax)).F3}]):List (RK.T RK.ay))/\True) (Sum.inl (wrap i64 (v0.1+1),v0.2++[{kT:=0,num:=0,label:=E3.F3}])))) T1)) T1) T1);.br (E4==(110:Int)) T2 (.br (E4==(120:Int)) T2 (.br (E3.kind !=3) (.lf (Sum.inr ([],false))) (.cn (decide (0<=v0.1/\v0.1<=wrap i64 (v0.1+1)/\wrap i64 (v0.1+1)<=(p.length:Int))) (.br (!decide (E3.F3=cU (dA (wrap i64 (v0.1+1))-dA v0.1) (cV v0.1.toNat p))) (.lf (Sum.inr ([],false))) (.nx ((nR RK.ax 3 l/\rE (p:List UInt8)/\True/\rE ((wrap i64 (v0.1+1)):Int)/\True)/\rE v0.2/\True) (Sum.inl (wrap i64 (v0.1+1),v0.2))))))))))) (.lf (Sum.inr (v0.2,true))))
def XL l p:=(O4 l p).m
abbrev O3 l p:=(O4 l p).p
def Zaq:bw:={
 α:=(Int)×(List oe)
 F:=λst a=>([(0,(lk st 0)),(1,(lk st 1)),(6,.all 0),(7,.int i64 a.1)],[⟨false,179,3,.ao RK.ay a.2⟩])
 a0:=λst=>((lk st 7).toInt,(rY RK.ay st.rows (rN st 6)))
 iU:=λst=>[]++[(rX st 6 0)]}
def Z3y:List (Nat×bw):=[(5,Zaq)]
def Zer:bd:=mT 231 [] true [.one (.ao .ax),.one (.str)] [] (λa r=>O4 (ji .ax a 0) (jT a 1)) (λX=>.dw [.all 0,.bool (X.2)]) (λX=>[⟨false,179,3,.ao .ay (X.1)⟩])
theorem Zdn:bu pG Zer:=oT (.cons Qos (.cons Z65 (.cons Zfr (.nil)))) Tryz.func231 Tryz.call231 [.row 179 3 (.ao .ay)] Z3y 3
def Z4y(s:List UInt8)(z:(List UInt8)×(Int)):Nat:=(s.length-z.2).toNat
def O5(s:List UInt8):Tree ((List UInt8)×kQ×Bool):=
.lp inferInstance (Z4y s (s,0)+1) ((rE (s:List UInt8)/\rE ([]:List UInt8)/\rZ/\rE (false:Bool)/\rE (0:Int)/\True)/\(rE ([]:List UInt8)/\rE (0:Int)/\True/\rE (0:Int)/\rE (0:Int)/\rE (0:Int)/\True)/\True) (s,0) λ(v0:List UInt8×Int)=>.br (decide (v0.2<(v0.1.length:Int))) (.cn (decide (0<=v0.2/\v0.2<(v0.1.length:Int))) (.br ((↑(eQ (v0.1.getD v0.2.toNat (0:UInt8))):Int)==(59:Int)) (.cn (decide ((0:Int)<=(0:Int)/\0<=v0.2/\v0.2<=(v0.1.length:Int))) (.nx ((rE ((cU (dA v0.2-dA 0) (cV (dA 0) v0.1)):List UInt8)/\rE ([]:List UInt8)/\rZ/\rE (false:Bool)/\rE ((wrap i64 (v0.2+1)):Int)/\True)/\(rE ([]:List UInt8)/\rE (0:Int)/\True/\rE (0:Int)/\rE (0:Int)/\rE (0:Int)/\True)/\True) (Sum.inl (cU (dA v0.2-dA 0) (cV (dA 0) v0.1),wrap i64 (v0.2+1))))) (.nx ((rE v0.1/\rE ([]:List UInt8)/\rZ/\rE (false:Bool)/\rE ((wrap i64 (v0.2+1)):Int)/\True)/\(rE ([]:List UInt8)/\rE (0:Int)/\True/\rE (0:Int)/\rE (0:Int)/\rE (0:Int)/\True)/\True) (Sum.inl (v0.1,wrap i64 (v0.2+1)))))) (.an (Qnk v0.1) (.lv (Zbz v0.1) λ(x0:List lQ×Bool)=>.br (!x0.2) (.lf (Sum.inr ([],{eh:=[],op:=0,l:=[],F4:=0,at_:=0,size:=0},false))) (let E9:=x0.1.getD (dA 0) (RK.dk RK.ax);let T1:Tree ((List UInt8×Int)⊕(((List UInt8)×kQ×Bool))):=.an (O0 E9.F3) (.lv (XK E9.F3) λ(T0:List UInt8×Bool)=>.br (!T0.2) (.lf (Sum.inr ([],{eh:=[],op:=0,l:=[],F4:=0,at_:=0,size:=0},false))) (let E20:=dA (x0.1.length:Int)-dA 1;let T6:Tree ((List UInt8×Int)⊕(((List UInt8)×kQ×Bool))):=let E31:=cU E20 (cV (dA 1) x0.1);.an (O3 E31 T0.1) (.lv (XL E31 T0.1) λ(N5:List oe×Bool)=>.br (!N5.2) (.lf (Sum.inr ([],{eh:=[],op:=0,l:=[],F4:=0,at_:=0,size:=0},false))) (.an (LS E9.F3) (.lv (Qa E9.F3) λ(x29:Int)=>.br (decide (E9.F3=[(108:UInt8),105])) (.lf (Sum.inr ([],{eh:=E9.F3,op:=x29,l:=N5.1,F4:=0,at_:=0,size:=2},true))) (.br (decide (E9.F3=[(46:UInt8),115,112,97,99,101])) (let Ci:=bX 3 3&&bN 0 3&&decide ((0:Int)<=(0:Int)/\0<(N5.1.length:Int));.cn Ci (let E21:=N5.1.getD (dA 0) (RK.dk RK.ay);.br (decide (E21.num<0)) (.lf (Sum.inr ([],{eh:=[],op:=0,l:=[],F4:=0,at_:=0,size:=0},false))) (.cn Ci (.br (decide (E21.num>1024)) (.lf (Sum.inr ([],{eh:=[],op:=0,l:=[],F4:=0,at_:=0,size:=0},false))) (.cn Ci (.lf (Sum.inr ([],{eh:=E9.F3,op:=x29,l:=N5.1,F4:=0,at_:=0,size:=E21.num},true)))))))) (.lf (Sum.inr ([],{eh:=E9.F3,op:=x29,l:=N5.1,F4:=0,at_:=0,size:=1},true)))))));.br (decide ((↑E20:Int)>(0:Int))) (.cn (bX 3 3&&bN 0 3&&decide ((0:Int)<=(0:Int)/\0<(↑E20:Int))) (.br (!(x0.1.getD (dA 1+dA 0) (RK.dk RK.ax)).AP) (.lf (Sum.inr ([],{eh:=[],op:=0,l:=[],F4:=0,at_:=0,size:=0},false))) T6)) T6));let E25:=dA (x0.1.length:Int)-dA 2;let E8:=(↑E25:Int);let nH:=x0.1.getD (dA 2+dA 0) (RK.dk RK.ax);let pH:=x0.1.getD (dA 1) (RK.dk RK.ax);let E16:=bX 3 3&&bN 0 3&&decide ((0:Int)<=(0:Int)/\0<(x0.1.length:Int));let E17:=bX 3 3&&bN 0 3&&decide ((0:Int)<=(1:Int)/\1<(x0.1.length:Int));let E19:=bX 3 3&&bN 0 3&&decide ((0:Int)<=(2:Int)/\2<=(x0.1.length:Int)/\(x0.1.length:Int)<=(x0.1.length:Int));let E28:=bX 3 3&&bN 0 3&&decide ((0:Int)<=(0:Int)/\0<E8);let E30:=decide ((x0.1.length:Int)>=(2:Int));let T3:Tree ((List UInt8×Int)⊕(((List UInt8)×kQ×Bool))):=.br ((x0.1.length:Int)==(0:Int)) (.lf (Sum.inr ([],{eh:=[],op:=0,l:=[],F4:=0,at_:=0,size:=0},true))) (.cn E16 (.cn (bX 3 3&&bN 0 3&&decide ((0:Int)<=(1:Int)/\1<=(x0.1.length:Int)/\(x0.1.length:Int)<=(x0.1.length:Int))) (.br (decide (E9.F3=[(46:UInt8)])) (.br E30 (.cn E17 (.br (!pH.AP) (.cn E17 (.cn (decide (1+dF pH.F3<=maxLen)) (.cn E19 (.an (O0 ((46:UInt8)::pH.F3)) (.lv (XK ([(46:UInt8)]++pH.F3)) λ(IX:List UInt8×Bool)=>.br (!IX.2) (.lf (Sum.inr ([],{eh:=[],op:=0,l:=[],F4:=0,at_:=0,size:=0},false))) (let T7:Tree ((List UInt8×Int)⊕(((List UInt8)×kQ×Bool))):=let E32:=cU E25 (cV (dA 2) x0.1);.an (O3 E32 IX.1) (.lv (XL E32 IX.1) λ(Lm:List oe×Bool)=>.br (!Lm.2) (.lf (Sum.inr ([],{eh:=[],op:=0,l:=[],F4:=0,at_:=0,size:=0},false))) (.an (LS ((46:UInt8)::pH.F3)) (.lv (Qa ([(46:UInt8)]++pH.F3)) λ(Cj:Int)=>.br (decide ([(46:UInt8)]++pH.F3=[(46:UInt8),115,112,97,99,101])) (let IY:=bX 3 3&&bN 0 3&&decide ((0:Int)<=(0:Int)/\0<(Lm.1.length:Int));.cn IY (let E22:=Lm.1.getD (dA 0) (RK.dk RK.ay);.br (decide (E22.num<0)) (.lf (Sum.inr ([],{eh:=[],op:=0,l:=[],F4:=0,at_:=0,size:=0},false))) (.cn IY (.br (decide (E22.num>1024)) (.lf (Sum.inr ([],{eh:=[],op:=0,l:=[],F4:=0,at_:=0,size:=0},false))) (.cn IY (.lf (Sum.inr ([],{eh:=(46:UInt8)::pH.F3,op:=Cj,l:=Lm.1,F4:=0,at_:=0,size:=E22.num},true)))))))) (.lf (Sum.inr ([],{eh:=(46:UInt8)::pH.F3,op:=Cj,l:=Lm.1,F4:=0,at_:=0,size:=1},true))))));.br (decide (E8>(0:Int))) (.cn E28 (.br (!nH.AP) (.lf (Sum.inr ([],{eh:=[],op:=0,l:=[],F4:=0,at_:=0,size:=0},false))) T7)) T7)))))) T1)) T1) T1)));.br E30 (.cn E17 (.br (decide (pH.F3=[(58:UInt8)])) (.cn E16 (.cn E16 (.br (E9.kind !=1) (.lf (Sum.inr ([],{eh:=[],op:=0,l:=[],F4:=0,at_:=0,size:=0},false))) (.an (Y3 E9.F3) (.lv (Zcw E9.F3) λ(x1:Bool)=>.br (!x1) (.lf (Sum.inr ([],{eh:=[],op:=0,l:=[],F4:=0,at_:=0,size:=0},false))) (.cn E19 (.br (E8==(0:Int)) (.lf (Sum.inr (E9.F3,{eh:=[],op:=0,l:=[],F4:=0,at_:=0,size:=0},true))) (.cn E28 (.cn (bX 3 3&&bN 0 3&&decide ((0:Int)<=(1:Int)/\1<=E8/\E8<=E8)) (let T2:Tree ((List UInt8×Int)⊕(((List UInt8)×kQ×Bool))):=.an (O0 nH.F3) (.lv (XK nH.F3) λ(x7:List UInt8×Bool)=>.br (!x7.2) (.lf (Sum.inr ([],{eh:=[],op:=0,l:=[],F4:=0,at_:=0,size:=0},false))) (let T4:Tree ((List UInt8×Int)⊕(((List UInt8)×kQ×Bool))):=let E26:=cU (dA E8-dA 1) (cV (dA 2+dA 1) x0.1);.an (O3 E26 x7.1) (.lv (XL E26 x7.1) λ(x8:List oe×Bool)=>.br (!x8.2) (.lf (Sum.inr ([],{eh:=[],op:=0,l:=[],F4:=0,at_:=0,size:=0},false))) (.an (LS nH.F3) (.lv (Qa nH.F3) λ(x9:Int)=>.br (decide (nH.F3=[(108:UInt8),105])) (.lf (Sum.inr (E9.F3,{eh:=nH.F3,op:=x9,l:=x8.1,F4:=0,at_:=0,size:=2},true))) (.br (decide (nH.F3=[(46:UInt8),115,112,97,99,101])) (let IZ:=bX 3 3&&bN 0 3&&decide ((0:Int)<=(0:Int)/\0<(x8.1.length:Int));.cn IZ (let E23:=x8.1.getD (dA 0) (RK.dk RK.ay);.br (decide (E23.num<0)) (.lf (Sum.inr ([],{eh:=[],op:=0,l:=[],F4:=0,at_:=0,size:=0},false))) (.cn IZ (.br (decide (E23.num>1024)) (.lf (Sum.inr ([],{eh:=[],op:=0,l:=[],F4:=0,at_:=0,size:=0},false))) (.cn IZ (.lf (Sum.inr (E9.F3,{eh:=nH.F3,op:=x9,l:=x8.1,F4:=0,at_:=0,size:=E23.num},true)))))))) (.lf (Sum.inr (E9.F3,{eh:=nH.F3,op:=x9,l:=x8.1,F4:=0,at_:=0,size:=1},true)))))));.br (decide ((↑(dA E8-dA 1):Int)>(0:Int))) (.cn (bX 3 3&&bN 0 3&&decide ((0:Int)<=(0:Int)/\0<(↑(dA E8-dA 1):Int))) (.br (!(x0.1.getD (dA 2+dA 1+dA 0) (RK.dk RK.ax)).AP) (.lf (Sum.inr ([],{eh:=[],op:=0,l:=[],F4:=0,at_:=0,size:=0},false))) T4)) T4));.br (decide (nH.F3=[(46:UInt8)])) (.br (decide (E8>=(2:Int))) (let E29:=bX 3 3&&bN 0 3&&decide ((0:Int)<=(1:Int)/\1<E8);.cn E29 (let oF:=x0.1.getD (dA 2+dA 1) (RK.dk RK.ax);.br (!oF.AP) (.cn E29 (.cn (decide (1+dF oF.F3<=maxLen)) (.cn (bX 3 3&&bN 0 3&&decide ((0:Int)<=(2:Int)/\2<=E8/\E8<=E8)) (.an (O0 ((46:UInt8)::oF.F3)) (.lv (XK ([(46:UInt8)]++oF.F3)) λ(x2:List UInt8×Bool)=>.br (!x2.2) (.lf (Sum.inr ([],{eh:=[],op:=0,l:=[],F4:=0,at_:=0,size:=0},false))) (let T5:Tree ((List UInt8×Int)⊕(((List UInt8)×kQ×Bool))):=let E27:=cU (dA E8-dA 2) (cV (dA 2+dA 2) x0.1);.an (O3 E27 x2.1) (.lv (XL E27 x2.1) λ(x3:List oe×Bool)=>.br (!x3.2) (.lf (Sum.inr ([],{eh:=[],op:=0,l:=[],F4:=0,at_:=0,size:=0},false))) (.an (LS ((46:UInt8)::oF.F3)) (.lv (Qa ([(46:UInt8)]++oF.F3)) λ(x4:Int)=>.br (decide ([(46:UInt8)]++oF.F3=[(46:UInt8),115,112,97,99,101])) (let E18:=bX 3 3&&bN 0 3&&decide ((0:Int)<=(0:Int)/\0<(x3.1.length:Int));.cn E18 (let E24:=x3.1.getD (dA 0) (RK.dk RK.ay);.br (decide (E24.num<0)) (.lf (Sum.inr ([],{eh:=[],op:=0,l:=[],F4:=0,at_:=0,size:=0},false))) (.cn E18 (.br (decide (E24.num>1024)) (.lf (Sum.inr ([],{eh:=[],op:=0,l:=[],F4:=0,at_:=0,size:=0},false))) (.cn E18 (.lf (Sum.inr (E9.F3,{eh:=(46:UInt8)::oF.F3,op:=x4,l:=x3.1,F4:=0,at_:=0,size:=E24.num},true)))))))) (.lf (Sum.inr (E9.F3,{eh:=(46:UInt8)::oF.F3,op:=x4,l:=x3.1,F4:=0,at_:=0,size:=1},true))))));.br (decide ((↑(dA E8-dA 2):Int)>(0:Int))) (.cn (bX 3 3&&bN 0 3&&decide ((0:Int)<=(0:Int)/\0<(↑(dA E8-dA 2):Int))) (.br (!(x0.1.getD (dA 2+dA 2+dA 0) (RK.dk RK.ax)).AP) (.lf (Sum.inr ([],{eh:=[],op:=0,l:=[],F4:=0,at_:=0,size:=0},false))) T5)) T5)))))) T2)) T2) T2)))))))))) T3)) T3)))
def Zan s:=(O5 s).m
abbrev Qm0 s:=(O5 s).p
def Zfu:bw:={
 α:=(List UInt8)×(Int)
 F:=λst a=>([(0,.str a.1),(2,(lk st 2)),(3,.ptr 0 0 0),(4,(lk st 4)),(5,.int i64 a.2)],[⟨true,177,6,.gen [[(cT st 3 0),(cT st 3 1),(cT st 3 2),(cT st 3 3),(cT st 3 4),(cT st 3 5)]]⟩])
 a0:=λst=>((lk st 0).toStr,(lk st 5).toInt)
 iU:=λst=>[]++[(rX st 3 0)]}
def Z8m:List (Nat×bw):=[(2,Zfu)]
def Zjz:bd:=mT 176 [] false [.one (.str)] [] (λa r=>O5 (jT a 0)) (λX=>.dw [.str (X.1),.agg (kQ.cells (X.2.1)),.bool (X.2.2)]) (λX=>[])
theorem Zfj:bu pG Zjz:=oT (.cons Zf5 (.cons Z65 (.cons Zb8 (.cons Zdn (.cons Qqv (.nil)))))) Tryz.func176 Tryz.call176 [.sl (.ao .ay) false] Z8m 3 (jc:=nofun)
def Qqp(l:List oL)(label:List UInt8)(z:(Int)):Prop:=0<=z/\z<=l.length
def Qfb(l:List oL)(label:List UInt8)(z:(Int)):Nat:=(l.length-z).toNat
def XM(l:List oL)(label:List UInt8):Tree (Int×Bool):=
.lp inferInstance (Qfb l label 0+1) ((nR RK.dq 2 l/\rE (label:List UInt8)/\rE (0:Int)/\True)/\True) 0 λ(v0:Int)=>.br (decide (v0<(l.length:Int))) (let E1:=bX 2 2&&bN 0 2&&decide (0<=v0/\v0<(l.length:Int));.cn E1 (let E2:=l.getD v0.toNat (RK.dk RK.dq);.br (decide (E2.Name=label)) (.cn E1 (.lf (Sum.inr (E2.Addr,true)))) (.nx ((nR RK.dq 2 l/\rE (label:List UInt8)/\rE ((wrap i64 (v0+1)):Int)/\True)/\True) (Sum.inl (wrap i64 (v0+1)))))) (.lf (Sum.inr (0,false)))
def Quq l label:=(XM l label).m
def Hv(l:List oL)(label:List UInt8):Prop:=
l.length<=1000000000000
theorem Z87(l:List oL)(label:List UInt8)(hw:Hv l label):(XM l label).p:=by
 simp only[Hv]at hw
 unfold Tree.p XM
 repeat'(first|refine ed (inv:=Qqp l label) (μ:=Qfb l label) ?_ (cN _) (λ_ _=>?_)|exact trivial|refine aa (λ_=>?_) (λ_=>?_)|refine ar ?_ ?_|refine bz ?_ ?_|refine ai (λ_ _=>?_)|refine dj ?_|refine aw ?_|refine And.intro ?_ ?_)
 all_goals((try simp only[Qqp,Qfb]at*);exact mC)
def Zbr:bw:={
 α:=(Int)
 F:=λst a=>([(0,(lk st 0)),(1,(lk st 1)),(6,.int i64 a)],[])
 a0:=λst=>(lk st 6).toInt
 iU:=λst=>[]++[]}
def Z3d:List (Nat×bw):=[(2,Zbr)]
def Zee:bd:=lj 124 [] true [.one (.ao .dq),.one (.str)] [] (λa r=>Hv (ji .dq a 0) (jT a 1)) (λa r=>Quq (ji .dq a 0) (jT a 1)) (λX=>.dw [.int .u32 (X.1),.bool (X.2)]) (λX=>[])
theorem Qv9:bu pG Zee:=sF drawn jL (.nil) Tryz.func124 Tryz.call124 (λa r=>XM (ji .dq a 0) (jT a 1)) [] Z3d 3 (hp:=λa r h=>Z87 (ji .dq a 0) (jT a 1) h)
def Zcv(src:List UInt8)(z:(Int)×(Int)×(List oL)×(List kQ)):Nat:=((Z45 src).length-z.2.1).toNat
def O6(src:List UInt8):Tree ((List oL)×(List kQ)×um):=
.br (decide ((src.length:Int)>(8192:Int))) (.lf ([],[],{AO:=300,od:=0})) (.an (Qpm src) (.lv (Z45 src) λ(x0:List (List UInt8))=>.lp inferInstance (Zcv src (0,0,[],[])+1) ((rZ/\True/\True/\rE (0:Int)/\True/\rE (0:Int)/\True)/\(rE (0:Int)/\rE (0:Int)/\True)/\rE (x0:List (RK.T RK.str))/\rE ([]:List (RK.T RK.dq))/\rE ([]:List (RK.T RK.ak))/\True) (0,0,[],[]) λ(v0:Int×Int×List oL×List kQ)=>.br (decide (v0.2.1<(x0.length:Int))) (.cn (bX 1 1&&bN 0 1&&decide (0<=v0.2.1/\v0.2.1<(x0.length:Int))) (let E3:=x0.getD v0.2.1.toNat (RK.dk RK.str);.an (Qm0 E3) (.lv (Zan E3) λ(x1:List UInt8×kQ×Bool)=>.br (!x1.2.2) (.lf (Sum.inr ([],[],{AO:=301,od:=wrap i64 (v0.2.1+1)}))) (let E1:=({AO:=305,od:=wrap i64 (v0.2.1+1)}:um);let E2:=decide (72*(v0.2.2.2.length+1)<=140737488355328);let E4:=decide (wrap i64 (v0.1+x1.2.1.size)>1024);.br (!decide (x1.1=[])) (.an (Hv v0.2.2.1 x1.1) (.lv (Quq v0.2.2.1 x1.1) λ(x2:Int×Bool)=>.br x2.2 (.lf (Sum.inr ([],[],{AO:=303,od:=wrap i64 (v0.2.1+1)}))) (.cn (decide (24*(v0.2.2.1.length+1)<=140737488355328)) (let E5:=({Name:=x1.1,Addr:=wrap u32 (wrap i64 (4*v0.1))}:oL);.br (!decide (x1.2.1.eh=[])) (.cn E2 (.br E4 (.lf (Sum.inr ([],[],E1))) (.nx ((rZ/\True/\True/\rE ((wrap i64 (v0.1+x1.2.1.size)):Int)/\True/\rE ((wrap i64 (v0.2.1+1)):Int)/\True)/\(rE (0:Int)/\rE (0:Int)/\True)/\rE (x0:List (RK.T RK.str))/\rE ((v0.2.2.1++[{Name:=x1.1,Addr:=wrap u32 (wrap i64 (4*v0.1))}]):List (RK.T RK.dq))/\rE ((v0.2.2.2++[{eh:=x1.2.1.eh,op:=x1.2.1.op,l:=x1.2.1.l,F4:=wrap i64 (v0.2.1+1),at_:=v0.1,size:=x1.2.1.size}]):List (RK.T RK.ak))/\True) (Sum.inl (wrap i64 (v0.1+x1.2.1.size),wrap i64 (v0.2.1+1),v0.2.2.1++[E5],v0.2.2.2++[{eh:=x1.2.1.eh,op:=x1.2.1.op,l:=x1.2.1.l,F4:=wrap i64 (v0.2.1+1),at_:=v0.1,size:=x1.2.1.size}]))))) (.br (decide (v0.1>1024)) (.lf (Sum.inr ([],[],E1))) (.nx ((rZ/\True/\True/\rE v0.1/\True/\rE ((wrap i64 (v0.2.1+1)):Int)/\True)/\(rE (0:Int)/\rE (0:Int)/\True)/\rE (x0:List (RK.T RK.str))/\rE ((v0.2.2.1++[{Name:=x1.1,Addr:=wrap u32 (wrap i64 (4*v0.1))}]):List (RK.T RK.dq))/\rE v0.2.2.2/\True) (Sum.inl (v0.1,wrap i64 (v0.2.1+1),v0.2.2.1++[E5],v0.2.2.2)))))))) (.br (!decide (x1.2.1.eh=[])) (.cn E2 (.br E4 (.lf (Sum.inr ([],[],E1))) (.nx ((rZ/\True/\True/\rE ((wrap i64 (v0.1+x1.2.1.size)):Int)/\True/\rE ((wrap i64 (v0.2.1+1)):Int)/\True)/\(rE (0:Int)/\rE (0:Int)/\True)/\rE (x0:List (RK.T RK.str))/\rE v0.2.2.1/\rE ((v0.2.2.2++[{eh:=x1.2.1.eh,op:=x1.2.1.op,l:=x1.2.1.l,F4:=wrap i64 (v0.2.1+1),at_:=v0.1,size:=x1.2.1.size}]):List (RK.T RK.ak))/\True) (Sum.inl (wrap i64 (v0.1+x1.2.1.size),wrap i64 (v0.2.1+1),v0.2.2.1,v0.2.2.2++[{eh:=x1.2.1.eh,op:=x1.2.1.op,l:=x1.2.1.l,F4:=wrap i64 (v0.2.1+1),at_:=v0.1,size:=x1.2.1.size}]))))) (.br (decide (v0.1>1024)) (.lf (Sum.inr ([],[],E1))) (.nx ((rZ/\True/\True/\rE v0.1/\True/\rE ((wrap i64 (v0.2.1+1)):Int)/\True)/\(rE (0:Int)/\rE (0:Int)/\True)/\rE (x0:List (RK.T RK.str))/\rE v0.2.2.1/\rE v0.2.2.2/\True) (Sum.inl (v0.1,wrap i64 (v0.2.1+1),v0.2.2.1,v0.2.2.2))))))))) (.lf (Sum.inr (v0.2.2.1,v0.2.2.2,{AO:=0,od:=0})))))
def Za0 src:=(O6 src).m
abbrev Qsq src:=(O6 src).p
def Zrh:bw:={
 α:=(Int)×(Int)×(List oL)×(List kQ)
 F:=λst a=>([(4,.ptr 0 0 0),(5,.all 2),(6,.all 3),(7,.int i64 a.1),(8,.all 1),(9,.int i64 a.2.1)],[⟨true,120,2,.gen [[(cT st 4 0),(cT st 4 1)]]⟩,⟨false,9,1,mu st.rows (rN st 8)⟩,⟨false,243,2,.ao RK.dq a.2.2.1⟩,⟨false,177,6,.ao RK.ak a.2.2.2⟩])
 a0:=λst=>((lk st 7).toInt,(lk st 9).toInt,(rY RK.dq st.rows (rN st 5)),(rY RK.ak st.rows (rN st 6)))
 iU:=λst=>[]++[(rX st 4 0),(rX st 8 1),(rX st 5 2),(rX st 6 3)]}
def Zfd:List (Nat×bw):=[(8,Zrh)]
def Zs3:bd:=mT 123 [] false [.one (.str)] [] (λa r=>O6 (jT a 0)) (λX=>.dw [.all 0,.all 1,.agg (um.cells (X.2.2))]) (λX=>[⟨false,243,2,.ao .dq (X.1)⟩,⟨false,177,6,.ao .ak (X.2.1)⟩])
theorem Zpf:bu pG Zs3:=oT (.cons Zjd (.cons Zfj (.cons Qv9 (.nil)))) Tryz.func123 Tryz.call123 [.row 243 2 (.ao .dq),.row 177 6 (.ao .ak)] Zfd 3 (jc:=nofun)
def O8(st:kQ)(v:Int):Tree (Int×Bool):=
.lv (pA st.op) λ(x0:Int)=>.lv (ZO x0) λ(x1:Int×Int)=>let E7:=st.l.getD (dA 0) (RK.dk RK.ay);let E8:=st.l.getD (dA 1) (RK.dk RK.ay);let E9:=bX 3 3&&bN 0 3&&decide ((0:Int)<=(0:Int)/\0<(st.l.length:Int));let nH:=bX 3 3&&bN 0 3&&decide ((0:Int)<=(1:Int)/\1<(st.l.length:Int));let oF:=st.l.getD (dA 2) (RK.dk RK.ay);let pH:=bX 3 3&&bN 0 3&&decide ((0:Int)<=(2:Int)/\2<(st.l.length:Int));.br (x0==2) (.cn E9 (.cn nH (.cn pH (let T2:Tree ((Int×Bool)):=.br (decide (0<x1.1)) (.lf (0,false)) (.br (decide (0>x1.2)) (.lf (0,false)) (.lv (pz {Op:=st.op,A:=E7.kT,B:=E8.kT,C:=oF.kT,cv:=wrap i32 0}) λ(x2:Int×Bool)=>.lf (x2.1,x2.2)));.br (x0==2) T2 (.br (x0==1) T2 (.br (decide (v<x1.1)) (.lf (0,false)) (.br (decide (v>x1.2)) (.lf (0,false)) (.lv (pz {Op:=st.op,A:=E7.kT,B:=E8.kT,C:=oF.kT,cv:=wrap i32 v}) λ(x4:Int×Bool)=>.lf (x4.1,x4.2))))))))) (let T1:Tree ((Int×Bool)):=.br (decide (x0>=6)) (.cn E9 (let T5:Tree ((Int×Bool)):=.br (decide (0<x1.1)) (.lf (0,false)) (.br (decide (0>x1.2)) (.lf (0,false)) (.lv (pz {Op:=st.op,A:=E7.kT,B:=0,C:=0,cv:=wrap i32 0}) λ(x8:Int×Bool)=>.lf (x8.1,x8.2)));.br (x0==2) T5 (.br (x0==1) T5 (.br (decide (v<x1.1)) (.lf (0,false)) (.br (decide (v>x1.2)) (.lf (0,false)) (.lv (pz {Op:=st.op,A:=E7.kT,B:=0,C:=0,cv:=wrap i32 v}) λ(kF:Int×Bool)=>.lf (kF.1,kF.2))))))) (.br (x0 !=1) (.cn E9 (.cn nH (let T3:Tree ((Int×Bool)):=.br (decide (0<x1.1)) (.lf (0,false)) (.br (decide (0>x1.2)) (.lf (0,false)) (.lv (pz {Op:=st.op,A:=E7.kT,B:=E8.kT,C:=0,cv:=wrap i32 0}) λ(kX:Int×Bool)=>.lf (kX.1,kX.2)));.br (x0==2) T3 (.br (x0==1) T3 (.br (decide (v<x1.1)) (.lf (0,false)) (.br (decide (v>x1.2)) (.lf (0,false)) (.lv (pz {Op:=st.op,A:=E7.kT,B:=E8.kT,C:=0,cv:=wrap i32 v}) λ(r8:Int×Bool)=>.lf (r8.1,r8.2)))))))) (let T6:Tree ((Int×Bool)):=.br (decide (0<x1.1)) (.lf (0,false)) (.br (decide (0>x1.2)) (.lf (0,false)) (.lv (pz {Op:=st.op,A:=0,B:=0,C:=0,cv:=wrap i32 0}) λ(Am:Int×Bool)=>.lf (Am.1,Am.2)));.br (x0==2) T6 (.br (x0==1) T6 (.br (decide (v<x1.1)) (.lf (0,false)) (.br (decide (v>x1.2)) (.lf (0,false)) (.lv (pz {Op:=st.op,A:=0,B:=0,C:=0,cv:=wrap i32 v}) λ(An:Int×Bool)=>.lf (An.1,An.2)))))));.br (decide (st.op>=32)) (.br (decide (st.op<=36)) (.cn E9 (.cn pH (.cn nH (let T4:Tree ((Int×Bool)):=.br (decide (0<x1.1)) (.lf (0,false)) (.br (decide (0>x1.2)) (.lf (0,false)) (.lv (pz {Op:=st.op,A:=E7.kT,B:=oF.kT,C:=0,cv:=wrap i32 0}) λ(x5:Int×Bool)=>.lf (x5.1,x5.2)));.br (x0==2) T4 (.br (x0==1) T4 (.br (decide (E8.num<x1.1)) (.lf (0,false)) (.br (decide (E8.num>x1.2)) (.lf (0,false)) (.lv (pz {Op:=st.op,A:=E7.kT,B:=oF.kT,C:=0,cv:=wrap i32 E8.num}) λ(x7:Int×Bool)=>.lf (x7.1,x7.2))))))))) T1) T1)
def XN st v:=(O8 st v).m
abbrev O7 st v:=(O8 st v).p
def Ztc:bd:=mT 126 [] true [.agg kQ.sig,.one (.int .i64)] [] (λa r=>O8 (kQ.of (aC a 0)) (au a 1)) (λX=>.dw [.int .u32 (X.1),.bool (X.2)]) (λX=>[])
theorem Znr:bu pG Ztc:=oT (.cons TW (.cons Qyr (.cons Qpc (.nil)))) Tryz.func126 Tryz.call126 [] [] 2

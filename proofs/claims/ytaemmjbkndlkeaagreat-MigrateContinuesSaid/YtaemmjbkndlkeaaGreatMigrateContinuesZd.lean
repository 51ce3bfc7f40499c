import Derived.Test.YtaemmjbkndlkeaaGreatMigrateContinuesYz
open UInt8 renaming toNat->hY,ofNat->eD
open List renaming take->cU,drop->cV,length->dF,getD->aV
open Int renaming toNat->dA,tdiv->eF
open Nat renaming lt_succ_self->cN,beq->bX,blt->bN
set_option maxRecDepth 100000
set_option linter.all false
namespace Go.Proofs.YtaemmjbkndlkeaaGreat
open Go Go.GD Go.IntKind
noncomputable section
instance Rw {α β:Type} [Inhabited β]:Inhabited (α⊕β):=⟨.inr default⟩
def Z2x(src:List UInt8)(z:(Int)×(Int)×(List (List UInt8))):Nat:=(src.length-z.2.1).toNat
def M1(src:List UInt8):Tree (List (List UInt8)):=
.lp inferInstance (Z2x src (0,0,[])+1) ((rE (src:List UInt8)/\True/\rE (0:Int)/\rE (0:Int)/\True)/\rE ([]:List (RK.T RK.str))/\True) (0,0,[]) λ(v0:Int×Int×List (List UInt8))=>let E1:=decide (16*(v0.2.2.length+1)<=140737488355328);.br (decide (v0.2.1<(src.length:Int))) (.cn (decide (0<=v0.2.1/\v0.2.1<(src.length:Int))) (.br ((↑(hY (src.getD v0.2.1.toNat (0:UInt8))):Int)==(10:Int)) (.cn (decide (0<=v0.1/\v0.1<=v0.2.1/\v0.2.1<=(src.length:Int))) (.cn E1 (.nx ((rE (src:List UInt8)/\True/\rE ((wrap i64 (v0.2.1+1)):Int)/\rE ((wrap i64 (v0.2.1+1)):Int)/\True)/\rE ((v0.2.2++[cU (dA v0.2.1-dA v0.1) (cV v0.1.toNat src)]):List (RK.T RK.str))/\True) (Sum.inl (wrap i64 (v0.2.1+1),wrap i64 (v0.2.1+1),v0.2.2++[cU (dA v0.2.1-dA v0.1) (cV v0.1.toNat src)]))))) (.nx ((rE (src:List UInt8)/\True/\rE v0.1/\rE ((wrap i64 (v0.2.1+1)):Int)/\True)/\rE v0.2.2/\True) (Sum.inl (v0.1,wrap i64 (v0.2.1+1),v0.2.2))))) (.br (decide (v0.1<(src.length:Int))) (.cn (decide (0<=v0.1/\v0.1<=(src.length:Int)/\(src.length:Int)<=(src.length:Int))) (.cn E1 (.lf (Sum.inr (v0.2.2++[cU (dA (src.length:Int)-dA v0.1) (cV v0.1.toNat src)]))))) (.lf (Sum.inr v0.2.2)))
def Z01 src:=(M1 src).m
abbrev Qmi src:=(M1 src).p
def Zds:cg:={
 α:=(Int)×(Int)×(List (List UInt8))
 F:=λst a=>([(0,(lk st 0)),(3,.all 0),(4,.int i64 a.1),(5,.int i64 a.2.1)],[⟨false,9,1,.ah RK.str a.2.2⟩])
 a0:=λst=>((lk st 4).toInt,(lk st 5).toInt,(rm RK.str st.rows (rN st 3)))
 jf:=λst=>[]++[(rX st 3 0)]}
def Z86:List (Nat×cg):=[(4,Zds)]
def Zhb:bc:=mT 175 [] true [.one (.str)] [] (λa r=>M1 (jy a 0)) (λX=>.all 0) (λX=>[⟨false,9,1,.ah .str X⟩])
theorem Zdy:bm pG Zhb:=oT (.nil) Tryz.func175 Tryz.call175 [.row 9 1 (.ah .str)] Z86 3
def Qyd(c:Int):Tree Bool:=
.br (decide (c>=97)) (.lf (decide (c<=122))) (.lf false)
def Vd c:=(Qyd c).m
def Zdb:bc:=mS 261 [] true [.one (.int .u8)] [] (λa r=>Qyd (ar a 0)) (λX=>.bool X) (λX=>[])
theorem Quk:bm pG Zdb:=oS (.nil) Tryz.func261 Tryz.call261 [] [] 2
def Z1b(c:Int):Tree Bool:=
.br (decide (c>=48)) (.lf (decide (c<=57))) (.lf false)
def Md c:=(Z1b c).m
def Zj7:bc:=mS 262 [] true [.one (.int .u8)] [] (λa r=>Z1b (ar a 0)) (λX=>.bool X) (λX=>[])
theorem Qw5:bm pG Zj7:=oS (.nil) Tryz.func262 Tryz.call262 [] [] 2
def Qzk(s:List UInt8)(z:(Bool)×(Int)×(List kQ)):Nat:=(s.length-z.2.1).toNat
def Z0n(s:List UInt8)(v0:Bool×Int×List kQ)(z:(Int)):Nat:=(s.length-z).toNat
def Qzb(s:List UInt8)(v0:Bool×Int×List kQ)(z:(Int)):Nat:=(s.length-z).toNat
def Qe(s:List UInt8):Tree ((List kQ)×Bool):=
.lp inferInstance (Qzk s (true,0,[])+1) ((rE (s:List UInt8)/\True/\rE (true:Bool)/\rE (0:Int)/\True)/\rE ([]:List (RK.T RK.av))/\True) (true,0,[]) λ(v0:Bool×Int×List kQ)=>.br (decide (v0.2.1<(s.length:Int))) (.cn (decide (0<=v0.2.1/\v0.2.1<(s.length:Int))) (let E7:=(↑(hY (s.getD v0.2.1.toNat (0:UInt8))):Int);.br (E7==(32:Int)) (.nx ((rE (s:List UInt8)/\True/\rE (true:Bool)/\rE ((wrap i64 (v0.2.1+1)):Int)/\True)/\rE v0.2.2/\True) (Sum.inl (true,wrap i64 (v0.2.1+1),v0.2.2))) (.lv (Vd E7) λ(x0:Bool)=>let mO:=decide (32*(v0.2.2.length+1)<=140737488355328);let AZ:=cV v0.2.1.toNat s;.br x0 (.lp inferInstance (Z0n s v0 v0.2.1+1) ((rE (s:List UInt8)/\True/\rE v0.1/\rE v0.2.1/\rE v0.2.1/\True)/\rE v0.2.2/\True) v0.2.1 λ(v1:Int)=>let T3:Tree ((Int)⊕((Bool×Int×List kQ)⊕(((List kQ)×Bool)))):=.cn (decide (0<=v0.2.1/\v0.2.1<=v1/\v1<=(s.length:Int))) (.cn mO (.nx ((rE (s:List UInt8)/\True/\rE (false:Bool)/\rE (v1:Int)/\True)/\rE ((v0.2.2++[{kind:=1,F3:=cU (dA v1-dA v0.2.1) (cV v0.2.1.toNat s),wO:=v0.1}]):List (RK.T RK.av))/\True) (Sum.inr (Sum.inl (false,v1,v0.2.2++[{kind:=1,F3:=cU (dA v1-dA v0.2.1) AZ,wO:=v0.1}])))));.br (decide (v1<(s.length:Int))) (let nJ:=decide (0<=v1/\v1<(s.length:Int));.cn nJ (let E8:=(↑(hY (s.getD v1.toNat (0:UInt8))):Int);.lv (Vd E8) λ(x1:Bool)=>let T5:Tree ((Int)⊕((Bool×Int×List kQ)⊕(((List kQ)×Bool)))):=.nx ((rE (s:List UInt8)/\True/\rE v0.1/\rE ((wrap i64 (v1+1)):Int)/\rE v0.2.1/\True)/\rE v0.2.2/\True) (Sum.inl (wrap i64 (v1+1)));.br x1 T5 (.cn nJ (.lv (Md E8) λ(x2:Bool)=>.br x2 T5 (.cn nJ (.br (E8==(95:Int)) T5 T3)))))) T3) (.lv (Md E7) λ(x3:Bool)=>let T2:Tree ((Bool×Int×List kQ)⊕(((List kQ)×Bool))):=.lp inferInstance (Qzb s v0 (wrap i64 (v0.2.1+1))+1) ((rE (s:List UInt8)/\True/\rE v0.1/\rE ((wrap i64 (v0.2.1+1)):Int)/\rE v0.2.1/\True)/\rE v0.2.2/\True) (wrap i64 (v0.2.1+1)) λ(v1:Int)=>let T4:Tree ((Int)⊕((Bool×Int×List kQ)⊕(((List kQ)×Bool)))):=.cn (decide (0<=v0.2.1/\v0.2.1<=v1/\v1<=(s.length:Int))) (.cn mO (.nx ((rE (s:List UInt8)/\True/\rE (false:Bool)/\rE (v1:Int)/\True)/\rE ((v0.2.2++[{kind:=2,F3:=cU (dA v1-dA v0.2.1) (cV v0.2.1.toNat s),wO:=v0.1}]):List (RK.T RK.av))/\True) (Sum.inr (Sum.inl (false,v1,v0.2.2++[{kind:=2,F3:=cU (dA v1-dA v0.2.1) AZ,wO:=v0.1}])))));.br (decide (v1<(s.length:Int))) (let oI:=decide (0<=v1/\v1<(s.length:Int));.cn oI (let E9:=(↑(hY (s.getD v1.toNat (0:UInt8))):Int);.lv (Vd E9) λ(x4:Bool)=>let T6:Tree ((Int)⊕((Bool×Int×List kQ)⊕(((List kQ)×Bool)))):=.nx ((rE (s:List UInt8)/\True/\rE v0.1/\rE ((wrap i64 (v1+1)):Int)/\rE v0.2.1/\True)/\rE v0.2.2/\True) (Sum.inl (wrap i64 (v1+1)));.br x4 T6 (.cn oI (.lv (Md E9) λ(x5:Bool)=>.br x5 T6 (.cn oI (.br (E9==(95:Int)) T6 T4)))))) T4;.br x3 T2 (.br (E7==(45:Int)) T2 (let T1:Tree ((Bool×Int×List kQ)⊕(((List kQ)×Bool))):=.cn (decide (0<=v0.2.1/\v0.2.1<=wrap i64 (v0.2.1+1)/\wrap i64 (v0.2.1+1)<=(s.length:Int))) (.cn mO (.nx ((rE (s:List UInt8)/\True/\rE (false:Bool)/\rE ((wrap i64 (v0.2.1+1)):Int)/\True)/\rE ((v0.2.2++[{kind:=3,F3:=cU (dA (wrap i64 (v0.2.1+1))-dA v0.2.1) (cV v0.2.1.toNat s),wO:=v0.1}]):List (RK.T RK.av))/\True) (Sum.inl (false,wrap i64 (v0.2.1+1),v0.2.2++[{kind:=3,F3:=cU (dA (wrap i64 (v0.2.1+1))-dA v0.2.1) AZ,wO:=v0.1}]))));.br (E7==(44:Int)) T1 (.br (E7==(58:Int)) T1 (.br (E7==(40:Int)) T1 (.br (E7==(41:Int)) T1 (.br (E7==(46:Int)) T1 (.lf (Sum.inr ([],false))))))))))))) (.lf (Sum.inr (v0.2.2,true)))
def Z5s s:=(Qe s).m
abbrev Qk6 s:=(Qe s).p
def Z9r:cg:={
 α:=(Bool)×(Int)×(List kQ)
 F:=λst a=>([(0,(lk st 0)),(4,.all 0),(5,.bool a.1),(6,.int i64 a.2.1)],[⟨false,290,3,.ah RK.av a.2.2⟩])
 a0:=λst=>((lk st 5).toBool,(lk st 6).toInt,(rm RK.av st.rows (rN st 4)))
 jf:=λst=>[]++[(rX st 4 0)]}
def Z8v:cg:={
 α:=(Int)
 F:=λst a=>([(0,(lk st 0)),(4,.all 0),(5,(lk st 5)),(6,.int i64 a),(8,(lk st 8))],[⟨false,290,3,kD st.rows (rN st 4)⟩])
 a0:=λst=>(lk st 6).toInt
 jf:=λst=>[]++[(rX st 4 0)]}
def Zap:cg:={
 α:=(Int)
 F:=λst a=>([(0,(lk st 0)),(4,.all 0),(5,(lk st 5)),(6,.int i64 a),(8,(lk st 8))],[⟨false,290,3,kD st.rows (rN st 4)⟩])
 a0:=λst=>(lk st 6).toInt
 jf:=λst=>[]++[(rX st 4 0)]}
def Z36:List (Nat×cg):=[(4,Z9r),(12,Z8v),(17,Zap)]
def Zgb:bc:=mT 228 [] true [.one (.str)] [] (λa r=>Qe (jy a 0)) (λX=>.dv [.all 0,.bool (X.2)]) (λX=>[⟨false,290,3,.ah .av (X.1)⟩])
theorem Z9s:bm pG Zgb:=oT (.cons Quk (.cons Qw5 (.nil))) Tryz.func228 Tryz.call228 [.row 290 3 (.ah .av)] Z36 3
 def Rx (p:Int->Prop) (r:Int->List UInt8) (n:Int):Tree (List UInt8):=
 .br (decide (n<(10:Int))) (.lf ([(λ(n:Int)=>eD n.toNat) (wrap u8 (wrap u64 ((48:Int)+n)))])) (.an (p (wrap u64 (eF n (10:Int)))) (.lv (r (wrap u64 (eF n (10:Int)))) λ(x0:List UInt8)=>.cn (decide (x0.length+dF [(λ(n:Int)=>eD n.toNat) (wrap u8 (wrap u64 ((48:Int)+Int.tmod n (10:Int))))]<=maxLen)) (.lf (x0++[(λ(n:Int)=>eD n.toNat) (wrap u8 (wrap u64 ((48:Int)+Int.tmod n (10:Int))))]))))
 def Av:Nat->Int->List UInt8
  |0,_=>[]
  |k+1,n=>(Rx (λ_=>True) (Av k) n).m
 def JG (k:Nat) (n:Int):Prop:=0<=n/\n<10^k/\n<18446744073709551616/\0<k/\k<=30
 def Jac (k:Nat):bc:=lh 301 [] true [.one (.int .u64)] [] (λargs rows=>JG k (ar args 0)) (λargs rows=>Av k (ar args 0)) (λX=>.str X) (λX=>[])
 theorem ov:∀k n,(Av k n).length<=k
  |0,_=>Nat.le_refl _
  |k+1,n=>by
   show(bif decide (n<10)then _ else ee (Av k _) λx0=>x0++_).length<=k+1
   have:=ov k (wrap u64 (eF n 10))
   cases decide (n<10)
   ·simp[ee,Tree.m];omega
   ·simp[Tree.m]
 theorem wI:∀k,bm pG (Jac k)
  |0=>Fo Tryz.call301 (λargs rows h=>absurd h.2.2.2.1 (Nat.lt_irrefl 0)) (λ_ X=>by kernel_rfl)
  |k + 1=>by
   refine uM drawn jt (.cons (wI k) .nil) Tryz.func301 Tryz.call301 (λargs rows=>Rx (JG k) (Av k) (ar args 0)) [] [] 2 (λ_ _ _=>by kernel_rfl) (λ_ _=>rfl) (λargs rows h=>?_) (λ_ X=>by kernel_rfl)
   obtain⟨h0,h1,h2,h3,h4⟩:=h
   generalize ar args 0=n at*
   refine ab (λ_=>trivial) (λhn=>?_)
   have hn:=oN hn
   have e:wrap u64 (eF n 10)=n/10:=by rw[wrap_u64,Int.tdiv_eq_ediv_of_nonneg h0];omega
   refine c7 (show JG k _ from ?_) (aq λx hx=>ax (dY ?_) trivial)
   ·rw[e]
    rw[Int.pow_succ]at h1
    have hk:0<k:=by
     rcases Nat.eq_zero_or_pos k with rfl|h
     ·simp at h1;omega
     ·exact h
    exact⟨by omega,by omega,by omega,hk,by omega⟩
   ·have:=ov k (wrap u64 (eF n 10))
    rw[<-hx]at this
    simp[maxLen];omega
def Me(n:Int):(List UInt8):=
Av 20 n
def Ee(n:Int):Prop:=
0<=n/\n<18446744073709551616
def Qpj(n:Int):List D:=[.int .u64 n]
def Qpv(n:Int):List Row:=[]
def Qk4(X:List UInt8):D:=.str X
def Qkt(X:List UInt8):List Row:=[]
def Qs8:List PT:=[.one (.int .u64)]
def Qq3:List RT:=[]
def Z6w(args:List D)(rows:List Row):(List UInt8):=Me (ar args 0)
def Z6y(args:List D)(rows:List Row):Prop:=Ee (ar args 0)
def Zek:bc:=lh 301 [] true Qs8 Qq3 Z6y Z6w Qk4 Qkt
theorem Z0r(n:Int)(hw:Ee n):kg pG 301 (Qpj n) (Qpv n) (Qk4 (Me n)) (Qkt (Me n)):=by
 have h20:(18446744073709551616:Int)<=10^20:=by decide
 exact vB (args:=[.int .u64 n]) (rows:=[]) (wI 20) (by kernel_rfl) ⟨hw.1,Int.lt_of_lt_of_le hw.2 h20,hw.2,by decide,by decide⟩
set_option maxRecDepth 100000 in
theorem Z2k(args:List D)(rows:List Row):kN Qs8 args 0=Qpj (ar args 0):=by kernel_rfl
set_option maxRecDepth 100000 in
theorem Z0t(args:List D)(rows:List Row):kh Qq3 rows 0=Qpv (ar args 0):=by kernel_rfl
set_option maxRecDepth 100000 in
theorem Zaq(X:List UInt8):(sV (Qk4 X)&&jo (Qkt X))=true:=by kernel_rfl
theorem Z9p:bm pG Zek:=Fo Tryz.call301 (λargs rows hp=>by rw[Z2k args rows,Z0t args rows];exact Z0r (ar args 0) hp) (λ_ X=>Zaq X)
def H3(n:Int):Tree (List UInt8):=
.br (decide (n<0)) (let E1:=wrap u64 (wrap u64 (wrap i64 (0-wrap i64 (n+1)))+1);.an (Ee E1) (.lv (Me E1) λ(x0:List UInt8)=>.cn (decide (1+x0.length<=maxLen)) (.lf ((45:UInt8)::x0)))) (.an (Ee (wrap u64 n)) (.lv (Me (wrap u64 n)) λ(x1:List UInt8)=>.lf x1))
def Qru n:=(H3 n).m
abbrev Qhi n:=(H3 n).p
def Za1:bc:=mT 298 [] true [.one (.int .i64)] [] (λa r=>H3 (ar a 0)) (λX=>.str X) (λX=>[])
theorem Z89:bm pG Za1:=oT (.cons Z9p (.nil)) Tryz.func298 Tryz.call298 [] [] 2
def H4(r:Int):Tree (List UInt8):=
.an (Qhi r) (.lv (Qru r) λ(x0:List UInt8)=>.cn (decide (1+x0.length<=maxLen)) (.lf ((114:UInt8)::x0)))
def Zq1 r:=(H4 r).m
abbrev Qsg r:=(H4 r).p
def Zrd:bc:=mT 288 [] true [.one (.int .i64)] [] (λa r=>H4 (ar a 0)) (λX=>.str X) (λX=>[])
theorem Zlr:bm pG Zrd:=oT (.cons Z89 (.nil)) Tryz.func288 Tryz.call288 [] [] 2
def Qu0(s:List UInt8)(z:(Int)):Prop:=0<=z/\z<=16
def Qg8(s:List UInt8)(z:(Int)):Nat:=(16-z).toNat
def Ve(s:List UInt8):Tree (Int×Bool):=
.lp inferInstance (Qg8 s 0+1) ((rE (s:List UInt8)/\rE (0:Int)/\True)/\True) 0 λ(v0:Int)=>.br (decide (v0<16)) (.an (Qsg v0) (.lv (Zq1 v0) λ(x0:List UInt8)=>.br (decide (s=x0)) (.lf (Sum.inr (v0,true))) (.nx ((rE (s:List UInt8)/\rE ((wrap i64 (v0+1)):Int)/\True)/\True) (Sum.inl (wrap i64 (v0+1)))))) (.lf (Sum.inr (0,false)))
def Qjk s:=(Ve s).m
theorem Qvg(s:List UInt8):(Ve s).p:=by
 unfold Tree.p Ve
 have dp:∀x,Ee (wrap .u64 x):=λx=>by unfold Ee;rw[wrap_u64];omega
 have dl:∀x,(Me x).length<=20:=λx=>ov 20 x
 have hd:∀x,(H3 x).w (λr=>r.length<=21):=λx=>by
  unfold H3
  refine ab (λ_=>c7 (dp _) (aq λx0 h0=>ax (dY ?_) ?_)) (λ_=>c7 (dp _) (aq λx1 h1=>?_))
  ·have:=dl (wrap .u64 (wrap .u64 (wrap .i64 (0-wrap .i64 (x+1)))+1));rw[<-h0]at this;simp[maxLen];omega
  ·have:=dl (wrap .u64 (wrap .u64 (wrap .i64 (0-wrap .i64 (x+1)))+1));rw[<-h0]at this;show(_::x0).length<=21;simp;omega
  ·rw[h1];exact Nat.le_trans (dl _) (by decide)
 have hr:∀x,(H4 x).p:=λx=>by
  unfold Tree.p H4
  refine c7 (Tree.pp (hd x)).1 (aq λx0 h0=>ax (dY ?_) trivial)
  have:(Qru x).length<=21:=(Tree.pp (hd x)).2
  rw[<-h0]at this;simp[maxLen];omega
 refine fj (inv:=Qu0 s) (μ:=Qg8 s) ⟨by decide,by decide⟩ (cN _) (λz hz=>?_)
 obtain⟨z1,z2⟩:=hz
 refine ab (λhb=>c7 (hr _) (aq λx0 _=>ab (λ_=>trivial) (λ_=>ez ?_))) (λ_=>trivial)
 have hb:=oY hb
 show(0<=i64.wrap (z+1)/\i64.wrap (z+1)<=16)/\(16-i64.wrap (z+1)).toNat<(16-z).toNat
 rw[wrap_i64];omega
def Qxl:cg:={
 α:=(Int)
 F:=λst a=>([(0,(lk st 0)),(4,.int i64 a)],[])
 a0:=λst=>(lk st 4).toInt
 jf:=λst=>[]++[]}
def Qtu:List (Nat×cg):=[(2,Qxl)]
def Qze:bc:=mS 263 [] true [.one (.str)] [] (λa r=>Ve (jy a 0)) (λX=>.dv [.int .i64 (X.1),.bool (X.2)]) (λX=>[])
theorem Qm2:bm pG Qze:=oS (.cons Zlr (.nil)) Tryz.func263 Tryz.call263 [] Qtu 3 (λ_ _ _=>by kernel_rfl) (λa r=>Qvg (jy a 0)) (λ_ X=>by kernel_rfl)
def M3(s:List UInt8):Tree Bool:=
.lv (Qjk s) λ(x0:Int×Bool)=>.br (decide ((s.length:Int)>=(1:Int))) (.br (decide ((s.length:Int)<=(12:Int))) (.cn (decide ((0:Int)<=(0:Int)/\0<(s.length:Int))) (.lv (Vd (↑(hY (s.getD (dA 0) (0:UInt8))):Int)) λ(x1:Bool)=>.br x1 (.lf (!x0.2)) (.lf false))) (.lf false)) (.lf false)
def Z6i s:=(M3 s).m
abbrev Wt s:=(M3 s).p
def Zm3:bc:=mT 229 [] true [.one (.str)] [] (λa r=>M3 (jy a 0)) (λX=>.bool X) (λX=>[])
theorem Z1s:bm pG Zm3:=oT (.cons Qm2 (.cons Quk (.nil))) Tryz.func229 Tryz.call229 [] [] 2
def M4(op:Int):Tree (List UInt8):=
let T1:Tree ((List UInt8)):=let T3:Tree ((List UInt8)):=.br (op==48) (.lf ([(106:UInt8),97,108])) (.br (op==49) (.lf ([(106:UInt8),97,108,114])) (.br (decide (op>=56)) (.br (decide (op<=64)) (.cn (bX 1 1&&bN 0 1&&decide (0<=wrap i64 (op-56)/\wrap i64 (op-56)<(↑9:Int))) (.lf (aV [[(101:UInt8),99,97,108,108],[(101:UInt8),114,101,116],[(99:UInt8),115,114,114],[(99:UInt8),115,114,119],[(105:UInt8),110],[(111:UInt8),117,116],[(119:UInt8),102,105],[(102:UInt8),108,117,115,104],[(104:UInt8),97,108,116]] (dA (wrap i64 (op-56))) (RK.eh RK.str)))) (.lf ([]))) (.lf ([]))));.br (decide (op>=40)) (.br (decide (op<=45)) (.cn (bX 1 1&&bN 0 1&&decide (0<=wrap i64 (op-40)/\wrap i64 (op-40)<(↑6:Int))) (.lf (aV [[(98:UInt8),101,113],[(98:UInt8),110,101],[(98:UInt8),108,116],[(98:UInt8),103,101],[(98:UInt8),108,116,117],[(98:UInt8),103,101,117]] (dA (wrap i64 (op-40))) (RK.eh RK.str)))) T3) T3;let T2:Tree ((List UInt8)):=let T4:Tree ((List UInt8)):=.br (decide (op>=32)) (.br (decide (op<=36)) (.cn (bX 1 1&&bN 0 1&&decide (0<=wrap i64 (op-32)/\wrap i64 (op-32)<(↑5:Int))) (.lf (aV [[(108:UInt8),119],[(108:UInt8),98],[(108:UInt8),98,117],[(115:UInt8),119],[(115:UInt8),98]] (dA (wrap i64 (op-32))) (RK.eh RK.str)))) T1) T1;.br (decide (op>=16)) (.br (decide (op<=24)) (.cn (bX 1 1&&bN 0 1&&decide (0<=wrap i64 (op-16)/\wrap i64 (op-16)<(↑9:Int))) (.lf (aV [[(97:UInt8),100,100,105],[(97:UInt8),110,100,105],[(111:UInt8),114,105],[(120:UInt8),111,114,105],[(115:UInt8),104,108,105],[(115:UInt8),104,114,105],[(115:UInt8),97,114,105],[(115:UInt8),108,116,105],[(108:UInt8),117,105]] (dA (wrap i64 (op-16))) (RK.eh RK.str)))) T4) T4;.br (decide (op>=1)) (.br (decide (op<=13)) (.cn (bX 1 1&&bN 0 1&&decide (0<=wrap i64 (op-1)/\wrap i64 (op-1)<(↑13:Int))) (.lf (aV [[(97:UInt8),100,100],[(115:UInt8),117,98],[(97:UInt8),110,100],[(111:UInt8),114],[(120:UInt8),111,114],[(115:UInt8),104,108],[(115:UInt8),104,114],[(115:UInt8),97,114],[(109:UInt8),117,108],[(100:UInt8),105,118],[(114:UInt8),101,109],[(115:UInt8),108,116],[(115:UInt8),108,116,117]] (dA (wrap i64 (op-1))) (RK.eh RK.str)))) T2) T2
def Qwm op:=(M4 op).m
abbrev Qft op:=(M4 op).p
def Z4z:bc:=mT 265 [] true [.one (.int .i64)] [] (λa r=>M4 (ar a 0)) (λX=>.str X) (λX=>[])
theorem Z2n:bm pG Z4z:=oT (.nil) Tryz.func265 Tryz.call265 [] [] 2
def Qu1(s:List UInt8)(z:(Int)):Nat:=(65-z).toNat
def M5(s:List UInt8):Tree Int:=
.lp inferInstance (Qu1 s 1+1) ((rE (s:List UInt8)/\rE (1:Int)/\True)/\True) 1 λ(v0:Int)=>.br (decide (v0<=64)) (.lv (oE v0) λ(x0:Int)=>.br (decide (x0>0)) (.an (Qft v0) (.lv (Qwm v0) λ(x1:List UInt8)=>.br (decide (x1=s)) (.lf (Sum.inr v0)) (.nx ((rE (s:List UInt8)/\rE ((wrap i64 (v0+1)):Int)/\True)/\True) (Sum.inl (wrap i64 (v0+1)))))) (.nx ((rE (s:List UInt8)/\rE ((wrap i64 (v0+1)):Int)/\True)/\True) (Sum.inl (wrap i64 (v0+1))))) (.lf (Sum.inr 0))
def Q9 s:=(M5 s).m
abbrev Ka s:=(M5 s).p
def Z0i:cg:={
 α:=(Int)
 F:=λst a=>([(0,(lk st 0)),(3,.int i64 a)],[])
 a0:=λst=>(lk st 3).toInt
 jf:=λst=>[]++[]}
def Qvf:List (Nat×cg):=[(2,Z0i)]
def Z35:bc:=mT 232 [] true [.one (.str)] [] (λa r=>M5 (jy a 0)) (λX=>.int .i64 X) (λX=>[])
theorem Qn7:bm pG Z35:=oT (.cons Rv (.cons Z2n (.nil))) Tryz.func232 Tryz.call232 [] Qvf 3
def M7(ea:List UInt8):Tree ((List UInt8)×Bool):=
.an (Ka ea) (.lv (Q9 ea) λ(x0:Int)=>.br (decide (ea=[(46:UInt8),119,111,114,100])) (.lf ([(120:UInt8)],true)) (.br (decide (ea=[(46:UInt8),115,112,97,99,101])) (.lf ([(110:UInt8)],true)) (.br (decide (ea=[(108:UInt8),105])) (.lf ([(114:UInt8),44,120],true)) (.br (decide (ea=[(109:UInt8),118])) (.lf ([(114:UInt8),44,114],true)) (.br (decide (ea=[(110:UInt8),111,112])) (.lf ([],true)) (.br (x0==0) (.lf ([],false)) (let T1:Tree (((List UInt8)×Bool)):=.br (x0==48) (.lf ([(114:UInt8),44,120],true)) (.lv (oE x0) λ(x1:Int)=>.br (x1==1) (.lf ([],true)) (.br (x1==2) (.lf ([(114:UInt8),44,114,44,114],true)) (.br (decide (x1>=6)) (.lf ([(114:UInt8),44,110],true)) (.lf ([(114:UInt8),44,114,44,110],true)))));let T2:Tree (((List UInt8)×Bool)):=.br (decide (x0>=40)) (.br (decide (x0<=45)) (.lf ([(114:UInt8),44,114,44,120],true)) T1) T1;.br (decide (x0>=32)) (.br (decide (x0<=36)) (.lf ([(114:UInt8),44,110,40,114,41],true)) T2) T2)))))))
def Vf ea:=(M7 ea).m
abbrev M6 ea:=(M7 ea).p
def Z9b:bc:=mT 230 [] true [.one (.str)] [] (λa r=>M7 (jy a 0)) (λX=>.dv [.str (X.1),.bool (X.2)]) (λX=>[])
theorem Z5y:bm pG Z9b:=oT (.cons Qn7 (.cons Rv (.nil))) Tryz.func230 Tryz.call230 [] [] 2
def Z05(s:List UInt8)(z:(Int)×(Int)):Nat:=(s.length-z.2).toNat
def Qns(s:List UInt8)(z:(Int)×(Int)):Nat:=(s.length-z.2).toNat
def M8(s:List UInt8):Tree (Int×Bool):=
let E7:=decide ((0:Int)<=(0:Int)/\0<(s.length:Int));let E8:=(↑(hY (s.getD (dA 0) (0:UInt8))):Int);let T1:Tree ((Int×Bool)):=let T2:Tree ((Int×Bool)):=.br (decide (wrap i64 ((s.length:Int)-(0:Int))<1)) (.lf (0,false)) (.br (decide (wrap i64 ((s.length:Int)-(0:Int))>10)) (.lf (0,false)) (.lp inferInstance (Qns s (0,0)+1) ((rE (s:List UInt8)/\rE (0:Int)/\rE (0:Int)/\rE (0:Int)/\True)/\True) (0,0) λ(v0:Int×Int)=>.br (decide (v0.2<(s.length:Int))) (let E9:=decide (0<=v0.2/\v0.2<(s.length:Int));.cn E9 (let E5:=(↑(hY (s.getD v0.2.toNat (0:UInt8))):Int);.lv (Md E5) λ(x2:Bool)=>.br (!x2) (.lf (Sum.inr (0,false))) (.cn E9 (.nx ((rE (s:List UInt8)/\rE (0:Int)/\rE ((wrap i64 (wrap i64 (10*v0.1)+wrap i64 (wrap u8 ((↑(hY (s.getD v0.2.toNat (0:UInt8))):Int)-(48:Int))))):Int)/\rE ((wrap i64 (v0.2+1)):Int)/\True)/\True) (Sum.inl (wrap i64 (wrap i64 (10*v0.1)+wrap i64 (wrap u8 (E5-(48:Int)))),wrap i64 (v0.2+1))))))) (.br (decide (v0.1>=(-2147483648))) (.lf (Sum.inr (v0.1,decide (v0.1<=4294967295)))) (.lf (Sum.inr (v0.1,false))))));.br (decide ((s.length:Int)>(0:Int))) (.cn E7 (.br (E8==(45:Int)) (.br (decide (wrap i64 ((s.length:Int)-(1:Int))<1)) (.lf (0,false)) (.br (decide (wrap i64 ((s.length:Int)-(1:Int))>10)) (.lf (0,false)) (.lp inferInstance (Qns s (0,1)+1) ((rE (s:List UInt8)/\rE (1:Int)/\rE (0:Int)/\rE (1:Int)/\True)/\True) (0,1) λ(v0:Int×Int)=>.br (decide (v0.2<(s.length:Int))) (let mO:=decide (0<=v0.2/\v0.2<(s.length:Int));.cn mO (let E6:=(↑(hY (s.getD v0.2.toNat (0:UInt8))):Int);.lv (Md E6) λ(x1:Bool)=>.br (!x1) (.lf (Sum.inr (0,false))) (.cn mO (.nx ((rE (s:List UInt8)/\rE (1:Int)/\rE ((wrap i64 (wrap i64 (10*v0.1)+wrap i64 (wrap u8 ((↑(hY (s.getD v0.2.toNat (0:UInt8))):Int)-(48:Int))))):Int)/\rE ((wrap i64 (v0.2+1)):Int)/\True)/\True) (Sum.inl (wrap i64 (wrap i64 (10*v0.1)+wrap i64 (wrap u8 (E6-(48:Int)))),wrap i64 (v0.2+1))))))) (.br (decide (wrap i64 (0-v0.1)>=(-2147483648))) (.lf (Sum.inr (wrap i64 (0-v0.1),decide (wrap i64 (0-v0.1)<=4294967295)))) (.lf (Sum.inr (wrap i64 (0-v0.1),false))))))) T2)) T2;.br (decide ((s.length:Int)>(2:Int))) (.cn E7 (.br (E8==(48:Int)) (.cn (decide ((0:Int)<=(1:Int)/\1<(s.length:Int))) (.br ((↑(hY (s.getD (dA 1) (0:UInt8))):Int)==(120:Int)) (.br (decide ((s.length:Int)>(10:Int))) (.lf (0,false)) (.lp inferInstance (Z05 s (0,2)+1) ((rE (s:List UInt8)/\rE (0:Int)/\rE (2:Int)/\True)/\True) (0,2) λ(v0:Int×Int)=>.br (decide (v0.2<(s.length:Int))) (let E4:=decide (0<=v0.2/\v0.2<(s.length:Int));.cn E4 (let E3:=(↑(hY (s.getD v0.2.toNat (0:UInt8))):Int);.lv (Md E3) λ(x0:Bool)=>.br x0 (.cn E4 (.nx ((rE (s:List UInt8)/\rE ((wrap i64 (wrap i64 (16*v0.1)+wrap i64 (wrap u8 ((↑(hY (s.getD v0.2.toNat (0:UInt8))):Int)-(48:Int))))):Int)/\rE ((wrap i64 (v0.2+1)):Int)/\True)/\True) (Sum.inl (wrap i64 (wrap i64 (16*v0.1)+wrap i64 (wrap u8 (E3-(48:Int)))),wrap i64 (v0.2+1))))) (.cn E4 (.br (decide (E3>=(97:Int))) (.cn E4 (.br (decide (E3<=(102:Int))) (.cn E4 (.nx ((rE (s:List UInt8)/\rE ((wrap i64 (wrap i64 (wrap i64 (16*v0.1)+wrap i64 (wrap u8 ((↑(hY (s.getD v0.2.toNat (0:UInt8))):Int)-(97:Int))))+10)):Int)/\rE ((wrap i64 (v0.2+1)):Int)/\True)/\True) (Sum.inl (wrap i64 (wrap i64 (wrap i64 (16*v0.1)+wrap i64 (wrap u8 (E3-(97:Int))))+10),wrap i64 (v0.2+1))))) (.lf (Sum.inr (0,false))))) (.lf (Sum.inr (0,false))))))) (.lf (Sum.inr (v0.1,true))))) T1)) T1)) T1
def Z5r s:=(M8 s).m
abbrev Qks s:=(M8 s).p
def Zan:cg:={
 α:=(Int)×(Int)
 F:=λst a=>([(0,(lk st 0)),(4,.int i64 a.1),(5,.int i64 a.2)],[])
 a0:=λst=>((lk st 4).toInt,(lk st 5).toInt)
 jf:=λst=>[]++[]}
def Zah:cg:={
 α:=(Int)×(Int)
 F:=λst a=>([(0,(lk st 0)),(6,(lk st 6)),(7,.int i64 a.1),(8,.int i64 a.2)],[])
 a0:=λst=>((lk st 7).toInt,(lk st 8).toInt)
 jf:=λst=>[]++[]}
def Z3:List (Nat×cg):=[(6,Zan),(21,Zah)]
def Zd:bc:=mT 264 [] true [.one (.str)] [] (λa r=>M8 (jy a 0)) (λX=>.dv [.int .i64 (X.1),.bool (X.2)]) (λX=>[])
theorem Zaf:bm pG Zd:=oT (.cons Qw5 (.nil)) Tryz.func264 Tryz.call264 [] Z3 3
def Qxc(l:List kQ)(p:List UInt8)(z:(Int)×(List nk)):Nat:=(l.length-z.1).toNat
def Na(l:List kQ)(p:List UInt8):Tree ((List nk)×Bool):=
.br ((l.length:Int) !=(p.length:Int)) (.lf ([],false)) (.lp inferInstance (Qxc l p (0,[])+1) ((nR RK.av 3 l/\rE (p:List UInt8)/\True/\rE (0:Int)/\True)/\rE ([]:List (RK.T RK.aw))/\True) (0,[]) λ(v0:Int×List nk)=>.br (decide (v0.1<(l.length:Int))) (.cn (bX 3 3&&bN 0 3&&decide (0<=v0.1/\v0.1<(l.length:Int))) (let E6:=decide (0<=v0.1/\v0.1<(p.length:Int));.cn E6 (let E3:=l.getD v0.1.toNat (RK.eh RK.av);let E4:=(↑(hY (p.getD v0.1.toNat (0:UInt8))):Int);let E5:=decide (32*(v0.2.length+1)<=140737488355328);.br (E4==(114:Int)) (.lv (Qjk E3.F3) λ(x0:Int×Bool)=>.br (E3.kind !=1) (.lf (Sum.inr ([],false))) (.br (!x0.2) (.lf (Sum.inr ([],false))) (.cn E5 (.nx ((nR RK.av 3 l/\rE (p:List UInt8)/\True/\rE ((wrap i64 (v0.1+1)):Int)/\True)/\rE ((v0.2++[{kj:=x0.1,num:=0,label:=[]}]):List (RK.T RK.aw))/\True) (Sum.inl (wrap i64 (v0.1+1),v0.2++[{kj:=x0.1,num:=0,label:=[]}])))))) (let T1:Tree ((Int×List nk)⊕(((List nk)×Bool))):=.an (Qks E3.F3) (.lv (Z5r E3.F3) λ(x2:Int×Bool)=>.br (E3.kind !=2) (.lf (Sum.inr ([],false))) (.br (!x2.2) (.lf (Sum.inr ([],false))) (.cn E5 (.nx ((nR RK.av 3 l/\rE (p:List UInt8)/\True/\rE ((wrap i64 (v0.1+1)):Int)/\True)/\rE ((v0.2++[{kj:=0,num:=x2.1,label:=[]}]):List (RK.T RK.aw))/\True) (Sum.inl (wrap i64 (v0.1+1),v0.2++[{kj:=0,num:=x2.1,label:=[]}]))))));let T2:Tree ((Int×List nk)⊕(((List nk)×Bool))):=.cn E6 (.br (E4==(120:Int)) (.br (E3.kind==1) (.an (Wt E3.F3) (.lv (Z6i E3.F3) λ(x1:Bool)=>.br x1 (.cn E5 (.nx ((nR RK.av 3 l/\rE (p:List UInt8)/\True/\rE ((wrap i64 (v0.1+1)):Int)/\True)/\rE ((v0.2++[{kj:=0,num:=0,label:=(l.getD v0.1.toNat (RK.eh RK.av)).F3}]):List (RK.T RK.aw))/\True) (Sum.inl (wrap i64 (v0.1+1),v0.2++[{kj:=0,num:=0,label:=E3.F3}])))) T1)) T1) T1);.br (E4==(110:Int)) T2 (.br (E4==(120:Int)) T2 (.br (E3.kind !=3) (.lf (Sum.inr ([],false))) (.cn (decide (0<=v0.1/\v0.1<=wrap i64 (v0.1+1)/\wrap i64 (v0.1+1)<=(p.length:Int))) (.br (!decide (E3.F3=cU (dA (wrap i64 (v0.1+1))-dA v0.1) (cV v0.1.toNat p))) (.lf (Sum.inr ([],false))) (.nx ((nR RK.av 3 l/\rE (p:List UInt8)/\True/\rE ((wrap i64 (v0.1+1)):Int)/\True)/\rE v0.2/\True) (Sum.inl (wrap i64 (v0.1+1),v0.2))))))))))) (.lf (Sum.inr (v0.2,true))))
def Vg l p:=(Na l p).m
abbrev M9 l p:=(Na l p).p
def Z6a:cg:={
 α:=(Int)×(List nk)
 F:=λst a=>([(0,(lk st 0)),(1,(lk st 1)),(6,.all 0),(7,.int i64 a.1)],[⟨false,179,3,.ah RK.aw a.2⟩])
 a0:=λst=>((lk st 7).toInt,(rm RK.aw st.rows (rN st 6)))
 jf:=λst=>[]++[(rX st 6 0)]}
def Qzw:List (Nat×cg):=[(5,Z6a)]
def Zae:bc:=mT 231 [] true [.one (.ah .av),.one (.str)] [] (λa r=>Na (kr .av a 0) (jy a 1)) (λX=>.dv [.all 0,.bool (X.2)]) (λX=>[⟨false,179,3,.ah .aw (X.1)⟩])
theorem Z4o:bm pG Zae:=oT (.cons Qm2 (.cons Z1s (.cons Zaf (.nil)))) Tryz.func231 Tryz.call231 [.row 179 3 (.ah .aw)] Qzw 3
def Qzl(s:List UInt8)(z:(List UInt8)×(Int)):Nat:=(s.length-z.2).toNat
def Nb(s:List UInt8):Tree ((List UInt8)×kd×Bool):=
.lp inferInstance (Qzl s (s,0)+1) ((rE (s:List UInt8)/\rE ([]:List UInt8)/\rZ/\rE (false:Bool)/\rE (0:Int)/\True)/\(rE ([]:List UInt8)/\rE (0:Int)/\True/\rE (0:Int)/\rE (0:Int)/\rE (0:Int)/\True)/\True) (s,0) λ(v0:List UInt8×Int)=>.br (decide (v0.2<(v0.1.length:Int))) (.cn (decide (0<=v0.2/\v0.2<(v0.1.length:Int))) (.br ((↑(hY (v0.1.getD v0.2.toNat (0:UInt8))):Int)==(59:Int)) (.cn (decide ((0:Int)<=(0:Int)/\0<=v0.2/\v0.2<=(v0.1.length:Int))) (.nx ((rE ((cU (dA v0.2-dA 0) (cV (dA 0) v0.1)):List UInt8)/\rE ([]:List UInt8)/\rZ/\rE (false:Bool)/\rE ((wrap i64 (v0.2+1)):Int)/\True)/\(rE ([]:List UInt8)/\rE (0:Int)/\True/\rE (0:Int)/\rE (0:Int)/\rE (0:Int)/\True)/\True) (Sum.inl (cU (dA v0.2-dA 0) (cV (dA 0) v0.1),wrap i64 (v0.2+1))))) (.nx ((rE v0.1/\rE ([]:List UInt8)/\rZ/\rE (false:Bool)/\rE ((wrap i64 (v0.2+1)):Int)/\True)/\(rE ([]:List UInt8)/\rE (0:Int)/\True/\rE (0:Int)/\rE (0:Int)/\rE (0:Int)/\True)/\True) (Sum.inl (v0.1,wrap i64 (v0.2+1)))))) (.an (Qk6 v0.1) (.lv (Z5s v0.1) λ(x0:List kQ×Bool)=>.br (!x0.2) (.lf (Sum.inr ([],{ea:=[],op:=0,l:=[],F4:=0,at_:=0,size:=0},false))) (let E9:=x0.1.getD (dA 0) (RK.eh RK.av);let T1:Tree ((List UInt8×Int)⊕(((List UInt8)×kd×Bool))):=.an (M6 E9.F3) (.lv (Vf E9.F3) λ(x27:List UInt8×Bool)=>.br (!x27.2) (.lf (Sum.inr ([],{ea:=[],op:=0,l:=[],F4:=0,at_:=0,size:=0},false))) (let E20:=dA (x0.1.length:Int)-dA 1;let T6:Tree ((List UInt8×Int)⊕(((List UInt8)×kd×Bool))):=let E31:=cU E20 (cV (dA 1) x0.1);.an (M9 E31 x27.1) (.lv (Vg E31 x27.1) λ(Mf:List nk×Bool)=>.br (!Mf.2) (.lf (Sum.inr ([],{ea:=[],op:=0,l:=[],F4:=0,at_:=0,size:=0},false))) (.an (Ka E9.F3) (.lv (Q9 E9.F3) λ(x29:Int)=>.br (decide (E9.F3=[(108:UInt8),105])) (.lf (Sum.inr ([],{ea:=E9.F3,op:=x29,l:=Mf.1,F4:=0,at_:=0,size:=2},true))) (.br (decide (E9.F3=[(46:UInt8),115,112,97,99,101])) (let AZ:=bX 3 3&&bN 0 3&&decide ((0:Int)<=(0:Int)/\0<(Mf.1.length:Int));.cn AZ (let E21:=Mf.1.getD (dA 0) (RK.eh RK.aw);.br (decide (E21.num<0)) (.lf (Sum.inr ([],{ea:=[],op:=0,l:=[],F4:=0,at_:=0,size:=0},false))) (.cn AZ (.br (decide (E21.num>1024)) (.lf (Sum.inr ([],{ea:=[],op:=0,l:=[],F4:=0,at_:=0,size:=0},false))) (.cn AZ (.lf (Sum.inr ([],{ea:=E9.F3,op:=x29,l:=Mf.1,F4:=0,at_:=0,size:=E21.num},true)))))))) (.lf (Sum.inr ([],{ea:=E9.F3,op:=x29,l:=Mf.1,F4:=0,at_:=0,size:=1},true)))))));.br (decide ((↑E20:Int)>(0:Int))) (.cn (bX 3 3&&bN 0 3&&decide ((0:Int)<=(0:Int)/\0<(↑E20:Int))) (.br (!(x0.1.getD (dA 1+dA 0) (RK.eh RK.av)).wO) (.lf (Sum.inr ([],{ea:=[],op:=0,l:=[],F4:=0,at_:=0,size:=0},false))) T6)) T6));let E25:=dA (x0.1.length:Int)-dA 2;let E8:=(↑E25:Int);let mO:=x0.1.getD (dA 2+dA 0) (RK.eh RK.av);let oI:=x0.1.getD (dA 1) (RK.eh RK.av);let E16:=bX 3 3&&bN 0 3&&decide ((0:Int)<=(0:Int)/\0<(x0.1.length:Int));let E17:=bX 3 3&&bN 0 3&&decide ((0:Int)<=(1:Int)/\1<(x0.1.length:Int));let E19:=bX 3 3&&bN 0 3&&decide ((0:Int)<=(2:Int)/\2<=(x0.1.length:Int)/\(x0.1.length:Int)<=(x0.1.length:Int));let E28:=bX 3 3&&bN 0 3&&decide ((0:Int)<=(0:Int)/\0<E8);let E30:=decide ((x0.1.length:Int)>=(2:Int));let T3:Tree ((List UInt8×Int)⊕(((List UInt8)×kd×Bool))):=.br ((x0.1.length:Int)==(0:Int)) (.lf (Sum.inr ([],{ea:=[],op:=0,l:=[],F4:=0,at_:=0,size:=0},true))) (.cn E16 (.cn (bX 3 3&&bN 0 3&&decide ((0:Int)<=(1:Int)/\1<=(x0.1.length:Int)/\(x0.1.length:Int)<=(x0.1.length:Int))) (.br (decide (E9.F3=[(46:UInt8)])) (.br E30 (.cn E17 (.br (!oI.wO) (.cn E17 (.cn (decide (1+dF oI.F3<=maxLen)) (.cn E19 (.an (M6 ((46:UInt8)::oI.F3)) (.lv (Vf ([(46:UInt8)]++oI.F3)) λ(x22:List UInt8×Bool)=>.br (!x22.2) (.lf (Sum.inr ([],{ea:=[],op:=0,l:=[],F4:=0,at_:=0,size:=0},false))) (let T7:Tree ((List UInt8×Int)⊕(((List UInt8)×kd×Bool))):=let E32:=cU E25 (cV (dA 2) x0.1);.an (M9 E32 x22.1) (.lv (Vg E32 x22.1) λ(Ry:List nk×Bool)=>.br (!Ry.2) (.lf (Sum.inr ([],{ea:=[],op:=0,l:=[],F4:=0,at_:=0,size:=0},false))) (.an (Ka ((46:UInt8)::oI.F3)) (.lv (Q9 ([(46:UInt8)]++oI.F3)) λ(DN:Int)=>.br (decide ([(46:UInt8)]++oI.F3=[(46:UInt8),115,112,97,99,101])) (let Ho:=bX 3 3&&bN 0 3&&decide ((0:Int)<=(0:Int)/\0<(Ry.1.length:Int));.cn Ho (let E22:=Ry.1.getD (dA 0) (RK.eh RK.aw);.br (decide (E22.num<0)) (.lf (Sum.inr ([],{ea:=[],op:=0,l:=[],F4:=0,at_:=0,size:=0},false))) (.cn Ho (.br (decide (E22.num>1024)) (.lf (Sum.inr ([],{ea:=[],op:=0,l:=[],F4:=0,at_:=0,size:=0},false))) (.cn Ho (.lf (Sum.inr ([],{ea:=(46:UInt8)::oI.F3,op:=DN,l:=Ry.1,F4:=0,at_:=0,size:=E22.num},true)))))))) (.lf (Sum.inr ([],{ea:=(46:UInt8)::oI.F3,op:=DN,l:=Ry.1,F4:=0,at_:=0,size:=1},true))))));.br (decide (E8>(0:Int))) (.cn E28 (.br (!mO.wO) (.lf (Sum.inr ([],{ea:=[],op:=0,l:=[],F4:=0,at_:=0,size:=0},false))) T7)) T7)))))) T1)) T1) T1)));.br E30 (.cn E17 (.br (decide (oI.F3=[(58:UInt8)])) (.cn E16 (.cn E16 (.br (E9.kind !=1) (.lf (Sum.inr ([],{ea:=[],op:=0,l:=[],F4:=0,at_:=0,size:=0},false))) (.an (Wt E9.F3) (.lv (Z6i E9.F3) λ(x1:Bool)=>.br (!x1) (.lf (Sum.inr ([],{ea:=[],op:=0,l:=[],F4:=0,at_:=0,size:=0},false))) (.cn E19 (.br (E8==(0:Int)) (.lf (Sum.inr (E9.F3,{ea:=[],op:=0,l:=[],F4:=0,at_:=0,size:=0},true))) (.cn E28 (.cn (bX 3 3&&bN 0 3&&decide ((0:Int)<=(1:Int)/\1<=E8/\E8<=E8)) (let T2:Tree ((List UInt8×Int)⊕(((List UInt8)×kd×Bool))):=.an (M6 mO.F3) (.lv (Vf mO.F3) λ(x7:List UInt8×Bool)=>.br (!x7.2) (.lf (Sum.inr ([],{ea:=[],op:=0,l:=[],F4:=0,at_:=0,size:=0},false))) (let T4:Tree ((List UInt8×Int)⊕(((List UInt8)×kd×Bool))):=let E26:=cU (dA E8-dA 1) (cV (dA 2+dA 1) x0.1);.an (M9 E26 x7.1) (.lv (Vg E26 x7.1) λ(x8:List nk×Bool)=>.br (!x8.2) (.lf (Sum.inr ([],{ea:=[],op:=0,l:=[],F4:=0,at_:=0,size:=0},false))) (.an (Ka mO.F3) (.lv (Q9 mO.F3) λ(x9:Int)=>.br (decide (mO.F3=[(108:UInt8),105])) (.lf (Sum.inr (E9.F3,{ea:=mO.F3,op:=x9,l:=x8.1,F4:=0,at_:=0,size:=2},true))) (.br (decide (mO.F3=[(46:UInt8),115,112,97,99,101])) (let Hp:=bX 3 3&&bN 0 3&&decide ((0:Int)<=(0:Int)/\0<(x8.1.length:Int));.cn Hp (let E23:=x8.1.getD (dA 0) (RK.eh RK.aw);.br (decide (E23.num<0)) (.lf (Sum.inr ([],{ea:=[],op:=0,l:=[],F4:=0,at_:=0,size:=0},false))) (.cn Hp (.br (decide (E23.num>1024)) (.lf (Sum.inr ([],{ea:=[],op:=0,l:=[],F4:=0,at_:=0,size:=0},false))) (.cn Hp (.lf (Sum.inr (E9.F3,{ea:=mO.F3,op:=x9,l:=x8.1,F4:=0,at_:=0,size:=E23.num},true)))))))) (.lf (Sum.inr (E9.F3,{ea:=mO.F3,op:=x9,l:=x8.1,F4:=0,at_:=0,size:=1},true)))))));.br (decide ((↑(dA E8-dA 1):Int)>(0:Int))) (.cn (bX 3 3&&bN 0 3&&decide ((0:Int)<=(0:Int)/\0<(↑(dA E8-dA 1):Int))) (.br (!(x0.1.getD (dA 2+dA 1+dA 0) (RK.eh RK.av)).wO) (.lf (Sum.inr ([],{ea:=[],op:=0,l:=[],F4:=0,at_:=0,size:=0},false))) T4)) T4));.br (decide (mO.F3=[(46:UInt8)])) (.br (decide (E8>=(2:Int))) (let E29:=bX 3 3&&bN 0 3&&decide ((0:Int)<=(1:Int)/\1<E8);.cn E29 (let nJ:=x0.1.getD (dA 2+dA 1) (RK.eh RK.av);.br (!nJ.wO) (.cn E29 (.cn (decide (1+dF nJ.F3<=maxLen)) (.cn (bX 3 3&&bN 0 3&&decide ((0:Int)<=(2:Int)/\2<=E8/\E8<=E8)) (.an (M6 ((46:UInt8)::nJ.F3)) (.lv (Vf ([(46:UInt8)]++nJ.F3)) λ(x2:List UInt8×Bool)=>.br (!x2.2) (.lf (Sum.inr ([],{ea:=[],op:=0,l:=[],F4:=0,at_:=0,size:=0},false))) (let T5:Tree ((List UInt8×Int)⊕(((List UInt8)×kd×Bool))):=let E27:=cU (dA E8-dA 2) (cV (dA 2+dA 2) x0.1);.an (M9 E27 x2.1) (.lv (Vg E27 x2.1) λ(x3:List nk×Bool)=>.br (!x3.2) (.lf (Sum.inr ([],{ea:=[],op:=0,l:=[],F4:=0,at_:=0,size:=0},false))) (.an (Ka ((46:UInt8)::nJ.F3)) (.lv (Q9 ([(46:UInt8)]++nJ.F3)) λ(x4:Int)=>.br (decide ([(46:UInt8)]++nJ.F3=[(46:UInt8),115,112,97,99,101])) (let E18:=bX 3 3&&bN 0 3&&decide ((0:Int)<=(0:Int)/\0<(x3.1.length:Int));.cn E18 (let E24:=x3.1.getD (dA 0) (RK.eh RK.aw);.br (decide (E24.num<0)) (.lf (Sum.inr ([],{ea:=[],op:=0,l:=[],F4:=0,at_:=0,size:=0},false))) (.cn E18 (.br (decide (E24.num>1024)) (.lf (Sum.inr ([],{ea:=[],op:=0,l:=[],F4:=0,at_:=0,size:=0},false))) (.cn E18 (.lf (Sum.inr (E9.F3,{ea:=(46:UInt8)::nJ.F3,op:=x4,l:=x3.1,F4:=0,at_:=0,size:=E24.num},true)))))))) (.lf (Sum.inr (E9.F3,{ea:=(46:UInt8)::nJ.F3,op:=x4,l:=x3.1,F4:=0,at_:=0,size:=1},true))))));.br (decide ((↑(dA E8-dA 2):Int)>(0:Int))) (.cn (bX 3 3&&bN 0 3&&decide ((0:Int)<=(0:Int)/\0<(↑(dA E8-dA 2):Int))) (.br (!(x0.1.getD (dA 2+dA 2+dA 0) (RK.eh RK.av)).wO) (.lf (Sum.inr ([],{ea:=[],op:=0,l:=[],F4:=0,at_:=0,size:=0},false))) T5)) T5)))))) T2)) T2) T2)))))))))) T3)) T3)))
def Z64 s:=(Nb s).m
abbrev Qk0 s:=(Nb s).p
def Zam:cg:={
 α:=(List UInt8)×(Int)
 F:=λst a=>([(0,.str a.1),(2,(lk st 2)),(3,.ptr 0 0 0),(4,(lk st 4)),(5,.int i64 a.2)],[⟨true,177,6,.gen [[(cT st 3 0),(cT st 3 1),(cT st 3 2),(cT st 3 3),(cT st 3 4),(cT st 3 5)]]⟩])
 a0:=λst=>((lk st 0).toStr,(lk st 5).toInt)
 jf:=λst=>[]++[(rX st 3 0)]}
def Z2d:List (Nat×cg):=[(2,Zam)]
def Zdm:bc:=mT 176 [] false [.one (.str)] [] (λa r=>Nb (jy a 0)) (λX=>.dv [.str (X.1),.agg (kd.cells (X.2.1)),.bool (X.2.2)]) (λX=>[])
theorem Z9m:bm pG Zdm:=oT (.cons Z9s (.cons Z1s (.cons Z5y (.cons Z4o (.cons Qn7 (.nil)))))) Tryz.func176 Tryz.call176 [.sl (.ah .aw) false] Z2d 3 (jn:=nofun)
def Qmz(l:List nQ)(label:List UInt8)(z:(Int)):Prop:=0<=z/\z<=l.length
def Qee(l:List nQ)(label:List UInt8)(z:(Int)):Nat:=(l.length-z).toNat
def Qg(l:List nQ)(label:List UInt8):Tree (Int×Bool):=
.lp inferInstance (Qee l label 0+1) ((nR RK.dm 2 l/\rE (label:List UInt8)/\rE (0:Int)/\True)/\True) 0 λ(v0:Int)=>.br (decide (v0<(l.length:Int))) (let E1:=bX 2 2&&bN 0 2&&decide (0<=v0/\v0<(l.length:Int));.cn E1 (let E2:=l.getD v0.toNat (RK.eh RK.dm);.br (decide (E2.Name=label)) (.cn E1 (.lf (Sum.inr (E2.Addr,true)))) (.nx ((nR RK.dm 2 l/\rE (label:List UInt8)/\rE ((wrap i64 (v0+1)):Int)/\True)/\True) (Sum.inl (wrap i64 (v0+1)))))) (.lf (Sum.inr (0,false)))
def Qr2 l label:=(Qg l label).m
def Gd(l:List nQ)(label:List UInt8):Prop:=
l.length<=1000000000000
theorem Z2i(l:List nQ)(label:List UInt8)(hw:Gd l label):(Qg l label).p:=by
 simp only[Gd]at hw
 unfold Tree.p Qg
 repeat'(first|refine fj (inv:=Qmz l label) (μ:=Qee l label) ?_ (cN _) (λ_ _=>?_)|exact trivial|refine ab (λ_=>?_) (λ_=>?_)|refine ax ?_ ?_|refine c7 ?_ ?_|refine aq (λ_ _=>?_)|refine ez ?_|refine bh ?_|refine And.intro ?_ ?_)
 all_goals((try simp only[Qmz,Qee]at*);exact nD)
def Z4h:cg:={
 α:=(Int)
 F:=λst a=>([(0,(lk st 0)),(1,(lk st 1)),(6,.int i64 a)],[])
 a0:=λst=>(lk st 6).toInt
 jf:=λst=>[]++[]}
def Z0f:List (Nat×cg):=[(2,Z4h)]
def Z8u:bc:=lh 124 [] true [.one (.ah .dm),.one (.str)] [] (λa r=>Gd (kr .dm a 0) (jy a 1)) (λa r=>Qr2 (kr .dm a 0) (jy a 1)) (λX=>.dv [.int .u32 (X.1),.bool (X.2)]) (λX=>[])
theorem Qrv:bm pG Z8u:=uM drawn jt (.nil) Tryz.func124 Tryz.call124 (λa r=>Qg (kr .dm a 0) (jy a 1)) [] Z0f 3 (hp:=λa r h=>Z2i (kr .dm a 0) (jy a 1) h)
def Z6o(src:List UInt8)(z:(Int)×(Int)×(List nQ)×(List kd)):Nat:=((Z01 src).length-z.2.1).toNat
def Nc(src:List UInt8):Tree ((List nQ)×(List kd)×sY):=
.br (decide ((src.length:Int)>(8192:Int))) (.lf ([],[],{wN:=300,nj:=0})) (.an (Qmi src) (.lv (Z01 src) λ(x0:List (List UInt8))=>.lp inferInstance (Z6o src (0,0,[],[])+1) ((rZ/\True/\True/\rE (0:Int)/\True/\rE (0:Int)/\True)/\(rE (0:Int)/\rE (0:Int)/\True)/\rE (x0:List (RK.T RK.str))/\rE ([]:List (RK.T RK.dm))/\rE ([]:List (RK.T RK.ak))/\True) (0,0,[],[]) λ(v0:Int×Int×List nQ×List kd)=>.br (decide (v0.2.1<(x0.length:Int))) (.cn (bX 1 1&&bN 0 1&&decide (0<=v0.2.1/\v0.2.1<(x0.length:Int))) (let E3:=x0.getD v0.2.1.toNat (RK.eh RK.str);.an (Qk0 E3) (.lv (Z64 E3) λ(x1:List UInt8×kd×Bool)=>.br (!x1.2.2) (.lf (Sum.inr ([],[],{wN:=301,nj:=wrap i64 (v0.2.1+1)}))) (let E1:=({wN:=305,nj:=wrap i64 (v0.2.1+1)}:sY);let E2:=decide (72*(v0.2.2.2.length+1)<=140737488355328);let E4:=decide (wrap i64 (v0.1+x1.2.1.size)>1024);.br (!decide (x1.1=[])) (.an (Gd v0.2.2.1 x1.1) (.lv (Qr2 v0.2.2.1 x1.1) λ(x2:Int×Bool)=>.br x2.2 (.lf (Sum.inr ([],[],{wN:=303,nj:=wrap i64 (v0.2.1+1)}))) (.cn (decide (24*(v0.2.2.1.length+1)<=140737488355328)) (let E5:=({Name:=x1.1,Addr:=wrap u32 (wrap i64 (4*v0.1))}:nQ);.br (!decide (x1.2.1.ea=[])) (.cn E2 (.br E4 (.lf (Sum.inr ([],[],E1))) (.nx ((rZ/\True/\True/\rE ((wrap i64 (v0.1+x1.2.1.size)):Int)/\True/\rE ((wrap i64 (v0.2.1+1)):Int)/\True)/\(rE (0:Int)/\rE (0:Int)/\True)/\rE (x0:List (RK.T RK.str))/\rE ((v0.2.2.1++[{Name:=x1.1,Addr:=wrap u32 (wrap i64 (4*v0.1))}]):List (RK.T RK.dm))/\rE ((v0.2.2.2++[{ea:=x1.2.1.ea,op:=x1.2.1.op,l:=x1.2.1.l,F4:=wrap i64 (v0.2.1+1),at_:=v0.1,size:=x1.2.1.size}]):List (RK.T RK.ak))/\True) (Sum.inl (wrap i64 (v0.1+x1.2.1.size),wrap i64 (v0.2.1+1),v0.2.2.1++[E5],v0.2.2.2++[{ea:=x1.2.1.ea,op:=x1.2.1.op,l:=x1.2.1.l,F4:=wrap i64 (v0.2.1+1),at_:=v0.1,size:=x1.2.1.size}]))))) (.br (decide (v0.1>1024)) (.lf (Sum.inr ([],[],E1))) (.nx ((rZ/\True/\True/\rE v0.1/\True/\rE ((wrap i64 (v0.2.1+1)):Int)/\True)/\(rE (0:Int)/\rE (0:Int)/\True)/\rE (x0:List (RK.T RK.str))/\rE ((v0.2.2.1++[{Name:=x1.1,Addr:=wrap u32 (wrap i64 (4*v0.1))}]):List (RK.T RK.dm))/\rE v0.2.2.2/\True) (Sum.inl (v0.1,wrap i64 (v0.2.1+1),v0.2.2.1++[E5],v0.2.2.2)))))))) (.br (!decide (x1.2.1.ea=[])) (.cn E2 (.br E4 (.lf (Sum.inr ([],[],E1))) (.nx ((rZ/\True/\True/\rE ((wrap i64 (v0.1+x1.2.1.size)):Int)/\True/\rE ((wrap i64 (v0.2.1+1)):Int)/\True)/\(rE (0:Int)/\rE (0:Int)/\True)/\rE (x0:List (RK.T RK.str))/\rE v0.2.2.1/\rE ((v0.2.2.2++[{ea:=x1.2.1.ea,op:=x1.2.1.op,l:=x1.2.1.l,F4:=wrap i64 (v0.2.1+1),at_:=v0.1,size:=x1.2.1.size}]):List (RK.T RK.ak))/\True) (Sum.inl (wrap i64 (v0.1+x1.2.1.size),wrap i64 (v0.2.1+1),v0.2.2.1,v0.2.2.2++[{ea:=x1.2.1.ea,op:=x1.2.1.op,l:=x1.2.1.l,F4:=wrap i64 (v0.2.1+1),at_:=v0.1,size:=x1.2.1.size}]))))) (.br (decide (v0.1>1024)) (.lf (Sum.inr ([],[],E1))) (.nx ((rZ/\True/\True/\rE v0.1/\True/\rE ((wrap i64 (v0.2.1+1)):Int)/\True)/\(rE (0:Int)/\rE (0:Int)/\True)/\rE (x0:List (RK.T RK.str))/\rE v0.2.2.1/\rE v0.2.2.2/\True) (Sum.inl (v0.1,wrap i64 (v0.2.1+1),v0.2.2.1,v0.2.2.2))))))))) (.lf (Sum.inr (v0.2.2.1,v0.2.2.2,{wN:=0,nj:=0})))))
def Z5n src:=(Nc src).m
abbrev Qol src:=(Nc src).p
def Ziq:cg:={
 α:=(Int)×(Int)×(List nQ)×(List kd)
 F:=λst a=>([(4,.ptr 0 0 0),(5,.all 2),(6,.all 3),(7,.int i64 a.1),(8,.all 1),(9,.int i64 a.2.1)],[⟨true,120,2,.gen [[(cT st 4 0),(cT st 4 1)]]⟩,⟨false,9,1,kD st.rows (rN st 8)⟩,⟨false,243,2,.ah RK.dm a.2.2.1⟩,⟨false,177,6,.ah RK.ak a.2.2.2⟩])
 a0:=λst=>((lk st 7).toInt,(lk st 9).toInt,(rm RK.dm st.rows (rN st 5)),(rm RK.ak st.rows (rN st 6)))
 jf:=λst=>[]++[(rX st 4 0),(rX st 8 1),(rX st 5 2),(rX st 6 3)]}
def Z9c:List (Nat×cg):=[(8,Ziq)]
def Zny:bc:=mT 123 [] false [.one (.str)] [] (λa r=>Nc (jy a 0)) (λX=>.dv [.all 0,.all 1,.agg (sY.cells (X.2.2))]) (λX=>[⟨false,243,2,.ah .dm (X.1)⟩,⟨false,177,6,.ah .ak (X.2.1)⟩])
theorem Zj:bm pG Zny:=oT (.cons Zdy (.cons Z9m (.cons Qrv (.nil)))) Tryz.func123 Tryz.call123 [.row 243 2 (.ah .dm),.row 177 6 (.ah .ak)] Z9c 3 (jn:=nofun)
def Nf(st:kd)(v:Int):Tree (Int×Bool):=
.lv (oE st.op) λ(x0:Int)=>.lv (WR x0) λ(x1:Int×Int)=>let E7:=st.l.getD (dA 0) (RK.eh RK.aw);let E8:=st.l.getD (dA 1) (RK.eh RK.aw);let E9:=bX 3 3&&bN 0 3&&decide ((0:Int)<=(0:Int)/\0<(st.l.length:Int));let mO:=bX 3 3&&bN 0 3&&decide ((0:Int)<=(1:Int)/\1<(st.l.length:Int));let nJ:=st.l.getD (dA 2) (RK.eh RK.aw);let oI:=bX 3 3&&bN 0 3&&decide ((0:Int)<=(2:Int)/\2<(st.l.length:Int));.br (x0==2) (.cn E9 (.cn mO (.cn oI (let T2:Tree ((Int×Bool)):=.br (decide (0<x1.1)) (.lf (0,false)) (.br (decide (0>x1.2)) (.lf (0,false)) (.lv (oC {Op:=st.op,A:=E7.kj,B:=E8.kj,C:=nJ.kj,bz:=wrap i32 0}) λ(x2:Int×Bool)=>.lf (x2.1,x2.2)));.br (x0==2) T2 (.br (x0==1) T2 (.br (decide (v<x1.1)) (.lf (0,false)) (.br (decide (v>x1.2)) (.lf (0,false)) (.lv (oC {Op:=st.op,A:=E7.kj,B:=E8.kj,C:=nJ.kj,bz:=wrap i32 v}) λ(x4:Int×Bool)=>.lf (x4.1,x4.2))))))))) (let T1:Tree ((Int×Bool)):=.br (decide (x0>=6)) (.cn E9 (let T5:Tree ((Int×Bool)):=.br (decide (0<x1.1)) (.lf (0,false)) (.br (decide (0>x1.2)) (.lf (0,false)) (.lv (oC {Op:=st.op,A:=E7.kj,B:=0,C:=0,bz:=wrap i32 0}) λ(x8:Int×Bool)=>.lf (x8.1,x8.2)));.br (x0==2) T5 (.br (x0==1) T5 (.br (decide (v<x1.1)) (.lf (0,false)) (.br (decide (v>x1.2)) (.lf (0,false)) (.lv (oC {Op:=st.op,A:=E7.kj,B:=0,C:=0,bz:=wrap i32 v}) λ(kZ:Int×Bool)=>.lf (kZ.1,kZ.2))))))) (.br (x0 !=1) (.cn E9 (.cn mO (let T3:Tree ((Int×Bool)):=.br (decide (0<x1.1)) (.lf (0,false)) (.br (decide (0>x1.2)) (.lf (0,false)) (.lv (oC {Op:=st.op,A:=E7.kj,B:=E8.kj,C:=0,bz:=wrap i32 0}) λ(mz:Int×Bool)=>.lf (mz.1,mz.2)));.br (x0==2) T3 (.br (x0==1) T3 (.br (decide (v<x1.1)) (.lf (0,false)) (.br (decide (v>x1.2)) (.lf (0,false)) (.lv (oC {Op:=st.op,A:=E7.kj,B:=E8.kj,C:=0,bz:=wrap i32 v}) λ(Aq:Int×Bool)=>.lf (Aq.1,Aq.2)))))))) (let T6:Tree ((Int×Bool)):=.br (decide (0<x1.1)) (.lf (0,false)) (.br (decide (0>x1.2)) (.lf (0,false)) (.lv (oC {Op:=st.op,A:=0,B:=0,C:=0,bz:=wrap i32 0}) λ(Fu:Int×Bool)=>.lf (Fu.1,Fu.2)));.br (x0==2) T6 (.br (x0==1) T6 (.br (decide (v<x1.1)) (.lf (0,false)) (.br (decide (v>x1.2)) (.lf (0,false)) (.lv (oC {Op:=st.op,A:=0,B:=0,C:=0,bz:=wrap i32 v}) λ(Fv:Int×Bool)=>.lf (Fv.1,Fv.2)))))));.br (decide (st.op>=32)) (.br (decide (st.op<=36)) (.cn E9 (.cn oI (.cn mO (let T4:Tree ((Int×Bool)):=.br (decide (0<x1.1)) (.lf (0,false)) (.br (decide (0>x1.2)) (.lf (0,false)) (.lv (oC {Op:=st.op,A:=E7.kj,B:=nJ.kj,C:=0,bz:=wrap i32 0}) λ(x5:Int×Bool)=>.lf (x5.1,x5.2)));.br (x0==2) T4 (.br (x0==1) T4 (.br (decide (E8.num<x1.1)) (.lf (0,false)) (.br (decide (E8.num>x1.2)) (.lf (0,false)) (.lv (oC {Op:=st.op,A:=E7.kj,B:=nJ.kj,C:=0,bz:=wrap i32 E8.num}) λ(x7:Int×Bool)=>.lf (x7.1,x7.2))))))))) T1) T1)
def Vh st v:=(Nf st v).m
abbrev Nd st v:=(Nf st v).p
def Znx:bc:=mT 126 [] true [.agg kd.sig,.one (.int .i64)] [] (λa r=>Nf (kd.of (aC a 0)) (ar a 1)) (λX=>.dv [.int .u32 (X.1),.bool (X.2)]) (λX=>[])
theorem Zja:bm pG Znx:=oT (.cons Rv (.cons Quq (.cons Qme (.nil)))) Tryz.func126 Tryz.call126 [] [] 2

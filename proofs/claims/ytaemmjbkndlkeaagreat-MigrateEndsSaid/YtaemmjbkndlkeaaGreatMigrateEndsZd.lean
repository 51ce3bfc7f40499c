import Derived.Test.YtaemmjbkndlkeaaGreatMigrateEndsYz
open UInt8 renaming toNat->iA,ofNat->eD
open List renaming take->cU,drop->cV,length->dF,getD->aV
open Int renaming toNat->dA,tdiv->eF
open Nat renaming lt_succ_self->cN,beq->bX,blt->bN
set_option maxRecDepth 100000
set_option linter.all false
namespace Go.Proofs.YtaemmjbkndlkeaaGreat
open Go Go.GD Go.IntKind
noncomputable section
instance RR {α β:Type} [Inhabited β]:Inhabited (α⊕β):=⟨.inr default⟩
def Z32(src:List UInt8)(z:(Int)×(Int)×(List (List UInt8))):Nat:=(src.length-z.2.1).toNat
def No(src:List UInt8):Tree (List (List UInt8)):=
.lp inferInstance (Z32 src (0,0,[])+1) ((rE (src:List UInt8)/\True/\rE (0:Int)/\rE (0:Int)/\True)/\rE ([]:List (RK.T RK.str))/\True) (0,0,[]) λ(v0:Int×Int×List (List UInt8))=>let E1:=decide (16*(v0.2.2.length+1)<=140737488355328);.br (decide (v0.2.1<(src.length:Int))) (.cn (decide (0<=v0.2.1/\v0.2.1<(src.length:Int))) (.br ((↑(iA (src.getD v0.2.1.toNat (0:UInt8))):Int)==(10:Int)) (.cn (decide (0<=v0.1/\v0.1<=v0.2.1/\v0.2.1<=(src.length:Int))) (.cn E1 (.nx ((rE (src:List UInt8)/\True/\rE ((wrap i64 (v0.2.1+1)):Int)/\rE ((wrap i64 (v0.2.1+1)):Int)/\True)/\rE ((v0.2.2++[cU (dA v0.2.1-dA v0.1) (cV v0.1.toNat src)]):List (RK.T RK.str))/\True) (Sum.inl (wrap i64 (v0.2.1+1),wrap i64 (v0.2.1+1),v0.2.2++[cU (dA v0.2.1-dA v0.1) (cV v0.1.toNat src)]))))) (.nx ((rE (src:List UInt8)/\True/\rE v0.1/\rE ((wrap i64 (v0.2.1+1)):Int)/\True)/\rE v0.2.2/\True) (Sum.inl (v0.1,wrap i64 (v0.2.1+1),v0.2.2))))) (.br (decide (v0.1<(src.length:Int))) (.cn (decide (0<=v0.1/\v0.1<=(src.length:Int)/\(src.length:Int)<=(src.length:Int))) (.cn E1 (.lf (Sum.inr (v0.2.2++[cU (dA (src.length:Int)-dA v0.1) (cV v0.1.toNat src)]))))) (.lf (Sum.inr v0.2.2)))
def Qzn src:=(No src).m
abbrev Qmk src:=(No src).p
def Zea:cg:={
 α:=(Int)×(Int)×(List (List UInt8))
 F:=λst a=>([(0,(lk st 0)),(3,.all 0),(4,.int i64 a.1),(5,.int i64 a.2.1)],[⟨false,9,1,.ah RK.str a.2.2⟩])
 a0:=λst=>((lk st 4).toInt,(lk st 5).toInt,(oH RK.str st.rows (rN st 3)))
 jb:=λst=>[]++[(rX st 3 0)]}
def Z6m:List (Nat×cg):=[(4,Zea)]
def Zm5:bd:=mT 175 [] true [.one (.str)] [] (λa r=>No (jH a 0)) (λX=>.all 0) (λX=>[⟨false,9,1,.ah .str X⟩])
theorem Zgq:bn pG Zm5:=oT (.nil) Tryz.func175 Tryz.call175 [.row 9 1 (.ah .str)] Z6m 3
def Qxr(c:Int):Tree Bool:=
.br (decide (c>=97)) (.lf (decide (c<=122))) (.lf false)
def Vv c:=(Qxr c).m
def Zfa:bd:=mS 261 [] true [.one (.int .u8)] [] (λa r=>Qxr (ar a 0)) (λX=>.bool X) (λX=>[])
theorem Qut:bn pG Zfa:=oS (.nil) Tryz.func261 Tryz.call261 [] [] 2
def Z2d(c:Int):Tree Bool:=
.br (decide (c>=48)) (.lf (decide (c<=57))) (.lf false)
def Mx c:=(Z2d c).m
def Zhz:bd:=mS 262 [] true [.one (.int .u8)] [] (λa r=>Z2d (ar a 0)) (λX=>.bool X) (λX=>[])
theorem Qyv:bn pG Zhz:=oS (.nil) Tryz.func262 Tryz.call262 [] [] 2
def Z1c(s:List UInt8)(z:(Bool)×(Int)×(List kZ)):Nat:=(s.length-z.2.1).toNat
def Z1e(s:List UInt8)(v0:Bool×Int×List kZ)(z:(Int)):Nat:=(s.length-z).toNat
def Qzp(s:List UInt8)(v0:Bool×Int×List kZ)(z:(Int)):Nat:=(s.length-z).toNat
def Np(s:List UInt8):Tree ((List kZ)×Bool):=
.lp inferInstance (Z1c s (true,0,[])+1) ((rE (s:List UInt8)/\True/\rE (true:Bool)/\rE (0:Int)/\True)/\rE ([]:List (RK.T RK.av))/\True) (true,0,[]) λ(v0:Bool×Int×List kZ)=>.br (decide (v0.2.1<(s.length:Int))) (.cn (decide (0<=v0.2.1/\v0.2.1<(s.length:Int))) (let E7:=(↑(iA (s.getD v0.2.1.toNat (0:UInt8))):Int);.br (E7==(32:Int)) (.nx ((rE (s:List UInt8)/\True/\rE (true:Bool)/\rE ((wrap i64 (v0.2.1+1)):Int)/\True)/\rE v0.2.2/\True) (Sum.inl (true,wrap i64 (v0.2.1+1),v0.2.2))) (.lv (Vv E7) λ(x0:Bool)=>let mX:=decide (32*(v0.2.2.length+1)<=140737488355328);let Bl:=cV v0.2.1.toNat s;.br x0 (.lp inferInstance (Z1e s v0 v0.2.1+1) ((rE (s:List UInt8)/\True/\rE v0.1/\rE v0.2.1/\rE v0.2.1/\True)/\rE v0.2.2/\True) v0.2.1 λ(v1:Int)=>let T3:Tree ((Int)⊕((Bool×Int×List kZ)⊕(((List kZ)×Bool)))):=.cn (decide (0<=v0.2.1/\v0.2.1<=v1/\v1<=(s.length:Int))) (.cn mX (.nx ((rE (s:List UInt8)/\True/\rE (false:Bool)/\rE (v1:Int)/\True)/\rE ((v0.2.2++[{kind:=1,F3:=cU (dA v1-dA v0.2.1) (cV v0.2.1.toNat s),wZ:=v0.1}]):List (RK.T RK.av))/\True) (Sum.inr (Sum.inl (false,v1,v0.2.2++[{kind:=1,F3:=cU (dA v1-dA v0.2.1) Bl,wZ:=v0.1}])))));.br (decide (v1<(s.length:Int))) (let nS:=decide (0<=v1/\v1<(s.length:Int));.cn nS (let E8:=(↑(iA (s.getD v1.toNat (0:UInt8))):Int);.lv (Vv E8) λ(x1:Bool)=>let T5:Tree ((Int)⊕((Bool×Int×List kZ)⊕(((List kZ)×Bool)))):=.nx ((rE (s:List UInt8)/\True/\rE v0.1/\rE ((wrap i64 (v1+1)):Int)/\rE v0.2.1/\True)/\rE v0.2.2/\True) (Sum.inl (wrap i64 (v1+1)));.br x1 T5 (.cn nS (.lv (Mx E8) λ(x2:Bool)=>.br x2 T5 (.cn nS (.br (E8==(95:Int)) T5 T3)))))) T3) (.lv (Mx E7) λ(x3:Bool)=>let T2:Tree ((Bool×Int×List kZ)⊕(((List kZ)×Bool))):=.lp inferInstance (Qzp s v0 (wrap i64 (v0.2.1+1))+1) ((rE (s:List UInt8)/\True/\rE v0.1/\rE ((wrap i64 (v0.2.1+1)):Int)/\rE v0.2.1/\True)/\rE v0.2.2/\True) (wrap i64 (v0.2.1+1)) λ(v1:Int)=>let T4:Tree ((Int)⊕((Bool×Int×List kZ)⊕(((List kZ)×Bool)))):=.cn (decide (0<=v0.2.1/\v0.2.1<=v1/\v1<=(s.length:Int))) (.cn mX (.nx ((rE (s:List UInt8)/\True/\rE (false:Bool)/\rE (v1:Int)/\True)/\rE ((v0.2.2++[{kind:=2,F3:=cU (dA v1-dA v0.2.1) (cV v0.2.1.toNat s),wZ:=v0.1}]):List (RK.T RK.av))/\True) (Sum.inr (Sum.inl (false,v1,v0.2.2++[{kind:=2,F3:=cU (dA v1-dA v0.2.1) Bl,wZ:=v0.1}])))));.br (decide (v1<(s.length:Int))) (let oU:=decide (0<=v1/\v1<(s.length:Int));.cn oU (let E9:=(↑(iA (s.getD v1.toNat (0:UInt8))):Int);.lv (Vv E9) λ(x4:Bool)=>let T6:Tree ((Int)⊕((Bool×Int×List kZ)⊕(((List kZ)×Bool)))):=.nx ((rE (s:List UInt8)/\True/\rE v0.1/\rE ((wrap i64 (v1+1)):Int)/\rE v0.2.1/\True)/\rE v0.2.2/\True) (Sum.inl (wrap i64 (v1+1)));.br x4 T6 (.cn oU (.lv (Mx E9) λ(x5:Bool)=>.br x5 T6 (.cn oU (.br (E9==(95:Int)) T6 T4)))))) T4;.br x3 T2 (.br (E7==(45:Int)) T2 (let T1:Tree ((Bool×Int×List kZ)⊕(((List kZ)×Bool))):=.cn (decide (0<=v0.2.1/\v0.2.1<=wrap i64 (v0.2.1+1)/\wrap i64 (v0.2.1+1)<=(s.length:Int))) (.cn mX (.nx ((rE (s:List UInt8)/\True/\rE (false:Bool)/\rE ((wrap i64 (v0.2.1+1)):Int)/\True)/\rE ((v0.2.2++[{kind:=3,F3:=cU (dA (wrap i64 (v0.2.1+1))-dA v0.2.1) (cV v0.2.1.toNat s),wZ:=v0.1}]):List (RK.T RK.av))/\True) (Sum.inl (false,wrap i64 (v0.2.1+1),v0.2.2++[{kind:=3,F3:=cU (dA (wrap i64 (v0.2.1+1))-dA v0.2.1) Bl,wZ:=v0.1}]))));.br (E7==(44:Int)) T1 (.br (E7==(58:Int)) T1 (.br (E7==(40:Int)) T1 (.br (E7==(41:Int)) T1 (.br (E7==(46:Int)) T1 (.lf (Sum.inr ([],false))))))))))))) (.lf (Sum.inr (v0.2.2,true)))
def Z5 s:=(Np s).m
abbrev Qkc s:=(Np s).p
def Zb7:cg:={
 α:=(Bool)×(Int)×(List kZ)
 F:=λst a=>([(0,(lk st 0)),(4,.all 0),(5,.bool a.1),(6,.int i64 a.2.1)],[⟨false,290,3,.ah RK.av a.2.2⟩])
 a0:=λst=>((lk st 5).toBool,(lk st 6).toInt,(oH RK.av st.rows (rN st 4)))
 jb:=λst=>[]++[(rX st 4 0)]}
def Za8:cg:={
 α:=(Int)
 F:=λst a=>([(0,(lk st 0)),(4,.all 0),(5,(lk st 5)),(6,.int i64 a),(8,(lk st 8))],[⟨false,290,3,jA st.rows (rN st 4)⟩])
 a0:=λst=>(lk st 6).toInt
 jb:=λst=>[]++[(rX st 4 0)]}
def Z9i:cg:={
 α:=(Int)
 F:=λst a=>([(0,(lk st 0)),(4,.all 0),(5,(lk st 5)),(6,.int i64 a),(8,(lk st 8))],[⟨false,290,3,jA st.rows (rN st 4)⟩])
 a0:=λst=>(lk st 6).toInt
 jb:=λst=>[]++[(rX st 4 0)]}
def Z33:List (Nat×cg):=[(4,Zb7),(12,Za8),(17,Z9i)]
def Zgp:bd:=mT 228 [] true [.one (.str)] [] (λa r=>Np (jH a 0)) (λX=>.dw [.all 0,.bool (X.2)]) (λX=>[⟨false,290,3,.ah .av (X.1)⟩])
theorem Z9y:bn pG Zgp:=oT (.cons Qut (.cons Qyv (.nil))) Tryz.func228 Tryz.call228 [.row 290 3 (.ah .av)] Z33 3
 def RS (p:Int->Prop) (r:Int->List UInt8) (n:Int):Tree (List UInt8):=
 .br (decide (n<(10:Int))) (.lf ([(λ(n:Int)=>eD n.toNat) (wrap u8 (wrap u64 ((48:Int)+n)))])) (.an (p (wrap u64 (eF n (10:Int)))) (.lv (r (wrap u64 (eF n (10:Int)))) λ(x0:List UInt8)=>.cn (decide (x0.length+dF [(λ(n:Int)=>eD n.toNat) (wrap u8 (wrap u64 ((48:Int)+Int.tmod n (10:Int))))]<=maxLen)) (.lf (x0++[(λ(n:Int)=>eD n.toNat) (wrap u8 (wrap u64 ((48:Int)+Int.tmod n (10:Int))))]))))
 def AI:Nat->Int->List UInt8
  |0,_=>[]
  |k+1,n=>(RS (λ_=>True) (AI k) n).m
 def JU (k:Nat) (n:Int):Prop:=0<=n/\n<10^k/\n<18446744073709551616/\0<k/\k<=30
 def Jak (k:Nat):bd:=kU 301 [] true [.one (.int .u64)] [] (λargs rows=>JU k (ar args 0)) (λargs rows=>AI k (ar args 0)) (λX=>.str X) (λX=>[])
 theorem oB:∀k n,(AI k n).length<=k
  |0,_=>Nat.le_refl _
  |k+1,n=>by
   show(bif decide (n<10)then _ else ee (AI k _) λx0=>x0++_).length<=k+1
   have:=oB k (wrap u64 (eF n 10))
   cases decide (n<10)
   ·simp[ee,Tree.m];omega
   ·simp[Tree.m]
 theorem wT:∀k,bn pG (Jak k)
  |0=>FE Tryz.call301 (λargs rows h=>absurd h.2.2.2.1 (Nat.lt_irrefl 0)) (λ_ X=>by kernel_rfl)
  |k + 1=>by
   refine tG drawn jz (.cons (wT k) .nil) Tryz.func301 Tryz.call301 (λargs rows=>RS (JU k) (AI k) (ar args 0)) [] [] 2 (λ_ _ _=>by kernel_rfl) (λ_ _=>rfl) (λargs rows h=>?_) (λ_ X=>by kernel_rfl)
   obtain⟨h0,h1,h2,h3,h4⟩:=h
   generalize ar args 0=n at*
   refine ab (λ_=>trivial) (λhn=>?_)
   have hn:=oN hn
   have e:wrap u64 (eF n 10)=n/10:=by rw[wrap_u64,Int.tdiv_eq_ediv_of_nonneg h0];omega
   refine c6 (show JU k _ from ?_) (aq λx hx=>ax (dY ?_) trivial)
   ·rw[e]
    rw[Int.pow_succ]at h1
    have hk:0<k:=by
     rcases Nat.eq_zero_or_pos k with rfl|h
     ·simp at h1;omega
     ·exact h
    exact⟨by omega,by omega,by omega,hk,by omega⟩
   ·have:=oB k (wrap u64 (eF n 10))
    rw[<-hx]at this
    simp[maxLen];omega
def My(n:Int):(List UInt8):=
AI 20 n
def Eu(n:Int):Prop:=
0<=n/\n<18446744073709551616
def Qq6(n:Int):List D:=[.int .u64 n]
def Qpy(n:Int):List Row:=[]
def Qjr(X:List UInt8):D:=.str X
def Qjv(X:List UInt8):List Row:=[]
def Qsd:List PT:=[.one (.int .u64)]
def Qq2:List RT:=[]
def Z7v(args:List D)(rows:List Row):(List UInt8):=My (ar args 0)
def Z6e(args:List D)(rows:List Row):Prop:=Eu (ar args 0)
def Zgg:bd:=kU 301 [] true Qsd Qq2 Z6e Z7v Qjr Qjv
theorem Qzi(n:Int)(hw:Eu n):ku pG 301 (Qq6 n) (Qpy n) (Qjr (My n)) (Qjv (My n)):=by
 have h20:(18446744073709551616:Int)<=10^20:=by decide
 exact zC (args:=[.int .u64 n]) (rows:=[]) (wT 20) (by kernel_rfl) ⟨hw.1,Int.lt_of_lt_of_le hw.2 h20,hw.2,by decide,by decide⟩
set_option maxRecDepth 100000 in
theorem Z3y(args:List D)(rows:List Row):kW Qsd args 0=Qq6 (ar args 0):=by kernel_rfl
set_option maxRecDepth 100000 in
theorem Qza(args:List D)(rows:List Row):kv Qq2 rows 0=Qpy (ar args 0):=by kernel_rfl
set_option maxRecDepth 100000 in
theorem Zb0(X:List UInt8):(tj (Qjr X)&&jy (Qjv X))=true:=by kernel_rfl
theorem Zb:bn pG Zgg:=FE Tryz.call301 (λargs rows hp=>by rw[Z3y args rows,Qza args rows];exact Qzi (ar args 0) hp) (λ_ X=>Zb0 X)
def Ig(n:Int):Tree (List UInt8):=
.br (decide (n<0)) (let E1:=wrap u64 (wrap u64 (wrap i64 (0-wrap i64 (n+1)))+1);.an (Eu E1) (.lv (My E1) λ(x0:List UInt8)=>.cn (decide (1+x0.length<=maxLen)) (.lf ((45:UInt8)::x0)))) (.an (Eu (wrap u64 n)) (.lv (My (wrap u64 n)) λ(x1:List UInt8)=>.lf x1))
def Qrr n:=(Ig n).m
abbrev Qhz n:=(Ig n).p
def Zak:bd:=mT 298 [] true [.one (.int .i64)] [] (λa r=>Ig (ar a 0)) (λX=>.str X) (λX=>[])
theorem Z5g:bn pG Zak:=oT (.cons Zb (.nil)) Tryz.func298 Tryz.call298 [] [] 2
def Ih(r:Int):Tree (List UInt8):=
.an (Qhz r) (.lv (Qrr r) λ(x0:List UInt8)=>.cn (decide (1+x0.length<=maxLen)) (.lf ((114:UInt8)::x0)))
def Zpo r:=(Ih r).m
abbrev Qst r:=(Ih r).p
def Ztm:bd:=mT 288 [] true [.one (.int .i64)] [] (λa r=>Ih (ar a 0)) (λX=>.str X) (λX=>[])
theorem Zna:bn pG Ztm:=oT (.cons Z5g (.nil)) Tryz.func288 Tryz.call288 [] [] 2
def Qu5(s:List UInt8)(z:(Int)):Prop:=0<=z/\z<=16
def Qh4(s:List UInt8)(z:(Int)):Nat:=(16-z).toNat
def Vw(s:List UInt8):Tree (Int×Bool):=
.lp inferInstance (Qh4 s 0+1) ((rE (s:List UInt8)/\rE (0:Int)/\True)/\True) 0 λ(v0:Int)=>.br (decide (v0<16)) (.an (Qst v0) (.lv (Zpo v0) λ(x0:List UInt8)=>.br (decide (s=x0)) (.lf (Sum.inr (v0,true))) (.nx ((rE (s:List UInt8)/\rE ((wrap i64 (v0+1)):Int)/\True)/\True) (Sum.inl (wrap i64 (v0+1)))))) (.lf (Sum.inr (0,false)))
def Ql4 s:=(Vw s).m
theorem Qvd(s:List UInt8):(Vw s).p:=by
 unfold Tree.p Vw
 have dp:∀x,Eu (wrap .u64 x):=λx=>by unfold Eu;rw[wrap_u64];omega
 have dl:∀x,(My x).length<=20:=λx=>oB 20 x
 have hd:∀x,(Ig x).w (λr=>r.length<=21):=λx=>by
  unfold Ig
  refine ab (λ_=>c6 (dp _) (aq λx0 h0=>ax (dY ?_) ?_)) (λ_=>c6 (dp _) (aq λx1 h1=>?_))
  ·have:=dl (wrap .u64 (wrap .u64 (wrap .i64 (0-wrap .i64 (x+1)))+1));rw[<-h0]at this;simp[maxLen];omega
  ·have:=dl (wrap .u64 (wrap .u64 (wrap .i64 (0-wrap .i64 (x+1)))+1));rw[<-h0]at this;show(_::x0).length<=21;simp;omega
  ·rw[h1];exact Nat.le_trans (dl _) (by decide)
 have hr:∀x,(Ih x).p:=λx=>by
  unfold Tree.p Ih
  refine c6 (Tree.pp (hd x)).1 (aq λx0 h0=>ax (dY ?_) trivial)
  have:(Qrr x).length<=21:=(Tree.pp (hd x)).2
  rw[<-h0]at this;simp[maxLen];omega
 refine fj (inv:=Qu5 s) (μ:=Qh4 s) ⟨by decide,by decide⟩ (cN _) (λz hz=>?_)
 obtain⟨z1,z2⟩:=hz
 refine ab (λhb=>c6 (hr _) (aq λx0 _=>ab (λ_=>trivial) (λ_=>ei ?_))) (λ_=>trivial)
 have hb:=oY hb
 show(0<=i64.wrap (z+1)/\i64.wrap (z+1)<=16)/\(16-i64.wrap (z+1)).toNat<(16-z).toNat
 rw[wrap_i64];omega
def Qwn:cg:={
 α:=(Int)
 F:=λst a=>([(0,(lk st 0)),(4,.int i64 a)],[])
 a0:=λst=>(lk st 4).toInt
 jb:=λst=>[]++[]}
def Qu9:List (Nat×cg):=[(2,Qwn)]
def Qzh:bd:=mS 263 [] true [.one (.str)] [] (λa r=>Vw (jH a 0)) (λX=>.dw [.int .i64 (X.1),.bool (X.2)]) (λX=>[])
theorem Qlx:bn pG Qzh:=oS (.cons Zna (.nil)) Tryz.func263 Tryz.call263 [] Qu9 3 (λ_ _ _=>by kernel_rfl) (λa r=>Qvd (jH a 0)) (λ_ X=>by kernel_rfl)
def Nq(s:List UInt8):Tree Bool:=
.lv (Ql4 s) λ(x0:Int×Bool)=>.br (decide ((s.length:Int)>=(1:Int))) (.br (decide ((s.length:Int)<=(12:Int))) (.cn (decide ((0:Int)<=(0:Int)/\0<(s.length:Int))) (.lv (Vv (↑(iA (s.getD (dA 0) (0:UInt8))):Int)) λ(x1:Bool)=>.br x1 (.lf (!x0.2)) (.lf false))) (.lf false)) (.lf false)
def Z8e s:=(Nq s).m
abbrev WQ s:=(Nq s).p
def Zo:bd:=mT 229 [] true [.one (.str)] [] (λa r=>Nq (jH a 0)) (λX=>.bool X) (λX=>[])
theorem Z25:bn pG Zo:=oT (.cons Qlx (.cons Qut (.nil))) Tryz.func229 Tryz.call229 [] [] 2
def Nr(op:Int):Tree (List UInt8):=
let T1:Tree ((List UInt8)):=let T3:Tree ((List UInt8)):=.br (op==48) (.lf ([(106:UInt8),97,108])) (.br (op==49) (.lf ([(106:UInt8),97,108,114])) (.br (decide (op>=56)) (.br (decide (op<=64)) (.cn (bX 1 1&&bN 0 1&&decide (0<=wrap i64 (op-56)/\wrap i64 (op-56)<(↑9:Int))) (.lf (aV [[(101:UInt8),99,97,108,108],[(101:UInt8),114,101,116],[(99:UInt8),115,114,114],[(99:UInt8),115,114,119],[(105:UInt8),110],[(111:UInt8),117,116],[(119:UInt8),102,105],[(102:UInt8),108,117,115,104],[(104:UInt8),97,108,116]] (dA (wrap i64 (op-56))) (RK.ed RK.str)))) (.lf ([]))) (.lf ([]))));.br (decide (op>=40)) (.br (decide (op<=45)) (.cn (bX 1 1&&bN 0 1&&decide (0<=wrap i64 (op-40)/\wrap i64 (op-40)<(↑6:Int))) (.lf (aV [[(98:UInt8),101,113],[(98:UInt8),110,101],[(98:UInt8),108,116],[(98:UInt8),103,101],[(98:UInt8),108,116,117],[(98:UInt8),103,101,117]] (dA (wrap i64 (op-40))) (RK.ed RK.str)))) T3) T3;let T2:Tree ((List UInt8)):=let T4:Tree ((List UInt8)):=.br (decide (op>=32)) (.br (decide (op<=36)) (.cn (bX 1 1&&bN 0 1&&decide (0<=wrap i64 (op-32)/\wrap i64 (op-32)<(↑5:Int))) (.lf (aV [[(108:UInt8),119],[(108:UInt8),98],[(108:UInt8),98,117],[(115:UInt8),119],[(115:UInt8),98]] (dA (wrap i64 (op-32))) (RK.ed RK.str)))) T1) T1;.br (decide (op>=16)) (.br (decide (op<=24)) (.cn (bX 1 1&&bN 0 1&&decide (0<=wrap i64 (op-16)/\wrap i64 (op-16)<(↑9:Int))) (.lf (aV [[(97:UInt8),100,100,105],[(97:UInt8),110,100,105],[(111:UInt8),114,105],[(120:UInt8),111,114,105],[(115:UInt8),104,108,105],[(115:UInt8),104,114,105],[(115:UInt8),97,114,105],[(115:UInt8),108,116,105],[(108:UInt8),117,105]] (dA (wrap i64 (op-16))) (RK.ed RK.str)))) T4) T4;.br (decide (op>=1)) (.br (decide (op<=13)) (.cn (bX 1 1&&bN 0 1&&decide (0<=wrap i64 (op-1)/\wrap i64 (op-1)<(↑13:Int))) (.lf (aV [[(97:UInt8),100,100],[(115:UInt8),117,98],[(97:UInt8),110,100],[(111:UInt8),114],[(120:UInt8),111,114],[(115:UInt8),104,108],[(115:UInt8),104,114],[(115:UInt8),97,114],[(109:UInt8),117,108],[(100:UInt8),105,118],[(114:UInt8),101,109],[(115:UInt8),108,116],[(115:UInt8),108,116,117]] (dA (wrap i64 (op-1))) (RK.ed RK.str)))) T2) T2
def Qy5 op:=(Nr op).m
abbrev Qfg op:=(Nr op).p
def Z5t:bd:=mT 265 [] true [.one (.int .i64)] [] (λa r=>Nr (ar a 0)) (λX=>.str X) (λX=>[])
theorem Z31:bn pG Z5t:=oT (.nil) Tryz.func265 Tryz.call265 [] [] 2
def Qua(s:List UInt8)(z:(Int)):Nat:=(65-z).toNat
def Ns(s:List UInt8):Tree Int:=
.lp inferInstance (Qua s 1+1) ((rE (s:List UInt8)/\rE (1:Int)/\True)/\True) 1 λ(v0:Int)=>.br (decide (v0<=64)) (.lv (oK v0) λ(x0:Int)=>.br (decide (x0>0)) (.an (Qfg v0) (.lv (Qy5 v0) λ(x1:List UInt8)=>.br (decide (x1=s)) (.lf (Sum.inr v0)) (.nx ((rE (s:List UInt8)/\rE ((wrap i64 (v0+1)):Int)/\True)/\True) (Sum.inl (wrap i64 (v0+1)))))) (.nx ((rE (s:List UInt8)/\rE ((wrap i64 (v0+1)):Int)/\True)/\True) (Sum.inl (wrap i64 (v0+1))))) (.lf (Sum.inr 0))
def RU s:=(Ns s).m
abbrev Kn s:=(Ns s).p
def Qz1:cg:={
 α:=(Int)
 F:=λst a=>([(0,(lk st 0)),(3,.int i64 a)],[])
 a0:=λst=>(lk st 3).toInt
 jb:=λst=>[]++[]}
def Qvs:List (Nat×cg):=[(2,Qz1)]
def Z30:bd:=mT 232 [] true [.one (.str)] [] (λa r=>Ns (jH a 0)) (λX=>.int .i64 X) (λX=>[])
theorem Qo5:bn pG Z30:=oT (.cons RQ (.cons Z31 (.nil))) Tryz.func232 Tryz.call232 [] Qvs 3
def Nu(ea:List UInt8):Tree ((List UInt8)×Bool):=
.an (Kn ea) (.lv (RU ea) λ(x0:Int)=>.br (decide (ea=[(46:UInt8),119,111,114,100])) (.lf ([(120:UInt8)],true)) (.br (decide (ea=[(46:UInt8),115,112,97,99,101])) (.lf ([(110:UInt8)],true)) (.br (decide (ea=[(108:UInt8),105])) (.lf ([(114:UInt8),44,120],true)) (.br (decide (ea=[(109:UInt8),118])) (.lf ([(114:UInt8),44,114],true)) (.br (decide (ea=[(110:UInt8),111,112])) (.lf ([],true)) (.br (x0==0) (.lf ([],false)) (let T1:Tree (((List UInt8)×Bool)):=.br (x0==48) (.lf ([(114:UInt8),44,120],true)) (.lv (oK x0) λ(x1:Int)=>.br (x1==1) (.lf ([],true)) (.br (x1==2) (.lf ([(114:UInt8),44,114,44,114],true)) (.br (decide (x1>=6)) (.lf ([(114:UInt8),44,110],true)) (.lf ([(114:UInt8),44,114,44,110],true)))));let T2:Tree (((List UInt8)×Bool)):=.br (decide (x0>=40)) (.br (decide (x0<=45)) (.lf ([(114:UInt8),44,114,44,120],true)) T1) T1;.br (decide (x0>=32)) (.br (decide (x0<=36)) (.lf ([(114:UInt8),44,110,40,114,41],true)) T2) T2)))))))
def Vx ea:=(Nu ea).m
abbrev Nt ea:=(Nu ea).p
def Za5:bd:=mT 230 [] true [.one (.str)] [] (λa r=>Nu (jH a 0)) (λX=>.dw [.str (X.1),.bool (X.2)]) (λX=>[])
theorem Z7j:bn pG Za5:=oT (.cons Qo5 (.cons RQ (.nil))) Tryz.func230 Tryz.call230 [] [] 2
def Qzq(s:List UInt8)(z:(Int)×(Int)):Nat:=(s.length-z.2).toNat
def Qn6(s:List UInt8)(z:(Int)×(Int)):Nat:=(s.length-z.2).toNat
def Qe(s:List UInt8):Tree (Int×Bool):=
let E7:=decide ((0:Int)<=(0:Int)/\0<(s.length:Int));let E8:=(↑(iA (s.getD (dA 0) (0:UInt8))):Int);let T1:Tree ((Int×Bool)):=let T2:Tree ((Int×Bool)):=.br (decide (wrap i64 ((s.length:Int)-(0:Int))<1)) (.lf (0,false)) (.br (decide (wrap i64 ((s.length:Int)-(0:Int))>10)) (.lf (0,false)) (.lp inferInstance (Qn6 s (0,0)+1) ((rE (s:List UInt8)/\rE (0:Int)/\rE (0:Int)/\rE (0:Int)/\True)/\True) (0,0) λ(v0:Int×Int)=>.br (decide (v0.2<(s.length:Int))) (let E9:=decide (0<=v0.2/\v0.2<(s.length:Int));.cn E9 (let E5:=(↑(iA (s.getD v0.2.toNat (0:UInt8))):Int);.lv (Mx E5) λ(x2:Bool)=>.br (!x2) (.lf (Sum.inr (0,false))) (.cn E9 (.nx ((rE (s:List UInt8)/\rE (0:Int)/\rE ((wrap i64 (wrap i64 (10*v0.1)+wrap i64 (wrap u8 ((↑(iA (s.getD v0.2.toNat (0:UInt8))):Int)-(48:Int))))):Int)/\rE ((wrap i64 (v0.2+1)):Int)/\True)/\True) (Sum.inl (wrap i64 (wrap i64 (10*v0.1)+wrap i64 (wrap u8 (E5-(48:Int)))),wrap i64 (v0.2+1))))))) (.br (decide (v0.1>=(-2147483648))) (.lf (Sum.inr (v0.1,decide (v0.1<=4294967295)))) (.lf (Sum.inr (v0.1,false))))));.br (decide ((s.length:Int)>(0:Int))) (.cn E7 (.br (E8==(45:Int)) (.br (decide (wrap i64 ((s.length:Int)-(1:Int))<1)) (.lf (0,false)) (.br (decide (wrap i64 ((s.length:Int)-(1:Int))>10)) (.lf (0,false)) (.lp inferInstance (Qn6 s (0,1)+1) ((rE (s:List UInt8)/\rE (1:Int)/\rE (0:Int)/\rE (1:Int)/\True)/\True) (0,1) λ(v0:Int×Int)=>.br (decide (v0.2<(s.length:Int))) (let mX:=decide (0<=v0.2/\v0.2<(s.length:Int));.cn mX (let E6:=(↑(iA (s.getD v0.2.toNat (0:UInt8))):Int);.lv (Mx E6) λ(x1:Bool)=>.br (!x1) (.lf (Sum.inr (0,false))) (.cn mX (.nx ((rE (s:List UInt8)/\rE (1:Int)/\rE ((wrap i64 (wrap i64 (10*v0.1)+wrap i64 (wrap u8 ((↑(iA (s.getD v0.2.toNat (0:UInt8))):Int)-(48:Int))))):Int)/\rE ((wrap i64 (v0.2+1)):Int)/\True)/\True) (Sum.inl (wrap i64 (wrap i64 (10*v0.1)+wrap i64 (wrap u8 (E6-(48:Int)))),wrap i64 (v0.2+1))))))) (.br (decide (wrap i64 (0-v0.1)>=(-2147483648))) (.lf (Sum.inr (wrap i64 (0-v0.1),decide (wrap i64 (0-v0.1)<=4294967295)))) (.lf (Sum.inr (wrap i64 (0-v0.1),false))))))) T2)) T2;.br (decide ((s.length:Int)>(2:Int))) (.cn E7 (.br (E8==(48:Int)) (.cn (decide ((0:Int)<=(1:Int)/\1<(s.length:Int))) (.br ((↑(iA (s.getD (dA 1) (0:UInt8))):Int)==(120:Int)) (.br (decide ((s.length:Int)>(10:Int))) (.lf (0,false)) (.lp inferInstance (Qzq s (0,2)+1) ((rE (s:List UInt8)/\rE (0:Int)/\rE (2:Int)/\True)/\True) (0,2) λ(v0:Int×Int)=>.br (decide (v0.2<(s.length:Int))) (let E4:=decide (0<=v0.2/\v0.2<(s.length:Int));.cn E4 (let E3:=(↑(iA (s.getD v0.2.toNat (0:UInt8))):Int);.lv (Mx E3) λ(x0:Bool)=>.br x0 (.cn E4 (.nx ((rE (s:List UInt8)/\rE ((wrap i64 (wrap i64 (16*v0.1)+wrap i64 (wrap u8 ((↑(iA (s.getD v0.2.toNat (0:UInt8))):Int)-(48:Int))))):Int)/\rE ((wrap i64 (v0.2+1)):Int)/\True)/\True) (Sum.inl (wrap i64 (wrap i64 (16*v0.1)+wrap i64 (wrap u8 (E3-(48:Int)))),wrap i64 (v0.2+1))))) (.cn E4 (.br (decide (E3>=(97:Int))) (.cn E4 (.br (decide (E3<=(102:Int))) (.cn E4 (.nx ((rE (s:List UInt8)/\rE ((wrap i64 (wrap i64 (wrap i64 (16*v0.1)+wrap i64 (wrap u8 ((↑(iA (s.getD v0.2.toNat (0:UInt8))):Int)-(97:Int))))+10)):Int)/\rE ((wrap i64 (v0.2+1)):Int)/\True)/\True) (Sum.inl (wrap i64 (wrap i64 (wrap i64 (16*v0.1)+wrap i64 (wrap u8 (E3-(97:Int))))+10),wrap i64 (v0.2+1))))) (.lf (Sum.inr (0,false))))) (.lf (Sum.inr (0,false))))))) (.lf (Sum.inr (v0.1,true))))) T1)) T1)) T1
def Z5y s:=(Qe s).m
abbrev Ql0 s:=(Qe s).p
def Zao:cg:={
 α:=(Int)×(Int)
 F:=λst a=>([(0,(lk st 0)),(4,.int i64 a.1),(5,.int i64 a.2)],[])
 a0:=λst=>((lk st 4).toInt,(lk st 5).toInt)
 jb:=λst=>[]++[]}
def Za0:cg:={
 α:=(Int)×(Int)
 F:=λst a=>([(0,(lk st 0)),(6,(lk st 6)),(7,.int i64 a.1),(8,.int i64 a.2)],[])
 a0:=λst=>((lk st 7).toInt,(lk st 8).toInt)
 jb:=λst=>[]++[]}
def Z3j:List (Nat×cg):=[(6,Zao),(21,Za0)]
def Zgi:bd:=mT 264 [] true [.one (.str)] [] (λa r=>Qe (jH a 0)) (λX=>.dw [.int .i64 (X.1),.bool (X.2)]) (λX=>[])
theorem Za3:bn pG Zgi:=oT (.cons Qyv (.nil)) Tryz.func264 Tryz.call264 [] Z3j 3
def Qx8(l:List kZ)(p:List UInt8)(z:(Int)×(List nz)):Nat:=(l.length-z.1).toNat
def Nw(l:List kZ)(p:List UInt8):Tree ((List nz)×Bool):=
.br ((l.length:Int) !=(p.length:Int)) (.lf ([],false)) (.lp inferInstance (Qx8 l p (0,[])+1) ((nR RK.av 3 l/\rE (p:List UInt8)/\True/\rE (0:Int)/\True)/\rE ([]:List (RK.T RK.ay))/\True) (0,[]) λ(v0:Int×List nz)=>.br (decide (v0.1<(l.length:Int))) (.cn (bX 3 3&&bN 0 3&&decide (0<=v0.1/\v0.1<(l.length:Int))) (let E6:=decide (0<=v0.1/\v0.1<(p.length:Int));.cn E6 (let E3:=l.getD v0.1.toNat (RK.ed RK.av);let E4:=(↑(iA (p.getD v0.1.toNat (0:UInt8))):Int);let E5:=decide (32*(v0.2.length+1)<=140737488355328);.br (E4==(114:Int)) (.lv (Ql4 E3.F3) λ(x0:Int×Bool)=>.br (E3.kind !=1) (.lf (Sum.inr ([],false))) (.br (!x0.2) (.lf (Sum.inr ([],false))) (.cn E5 (.nx ((nR RK.av 3 l/\rE (p:List UInt8)/\True/\rE ((wrap i64 (v0.1+1)):Int)/\True)/\rE ((v0.2++[{kE:=x0.1,num:=0,label:=[]}]):List (RK.T RK.ay))/\True) (Sum.inl (wrap i64 (v0.1+1),v0.2++[{kE:=x0.1,num:=0,label:=[]}])))))) (let T1:Tree ((Int×List nz)⊕(((List nz)×Bool))):=.an (Ql0 E3.F3) (.lv (Z5y E3.F3) λ(x2:Int×Bool)=>.br (E3.kind !=2) (.lf (Sum.inr ([],false))) (.br (!x2.2) (.lf (Sum.inr ([],false))) (.cn E5 (.nx ((nR RK.av 3 l/\rE (p:List UInt8)/\True/\rE ((wrap i64 (v0.1+1)):Int)/\True)/\rE ((v0.2++[{kE:=0,num:=x2.1,label:=[]}]):List (RK.T RK.ay))/\True) (Sum.inl (wrap i64 (v0.1+1),v0.2++[{kE:=0,num:=x2.1,label:=[]}]))))));let T2:Tree ((Int×List nz)⊕(((List nz)×Bool))):=.cn E6 (.br (E4==(120:Int)) (.br (E3.kind==1) (.an (WQ E3.F3) (.lv (Z8e E3.F3) λ(x1:Bool)=>.br x1 (.cn E5 (.nx ((nR RK.av 3 l/\rE (p:List UInt8)/\True/\rE ((wrap i64 (v0.1+1)):Int)/\True)/\rE ((v0.2++[{kE:=0,num:=0,label:=(l.getD v0.1.toNat (RK.ed RK.av)).F3}]):List (RK.T RK.ay))/\True) (Sum.inl (wrap i64 (v0.1+1),v0.2++[{kE:=0,num:=0,label:=E3.F3}])))) T1)) T1) T1);.br (E4==(110:Int)) T2 (.br (E4==(120:Int)) T2 (.br (E3.kind !=3) (.lf (Sum.inr ([],false))) (.cn (decide (0<=v0.1/\v0.1<=wrap i64 (v0.1+1)/\wrap i64 (v0.1+1)<=(p.length:Int))) (.br (!decide (E3.F3=cU (dA (wrap i64 (v0.1+1))-dA v0.1) (cV v0.1.toNat p))) (.lf (Sum.inr ([],false))) (.nx ((nR RK.av 3 l/\rE (p:List UInt8)/\True/\rE ((wrap i64 (v0.1+1)):Int)/\True)/\rE v0.2/\True) (Sum.inl (wrap i64 (v0.1+1),v0.2))))))))))) (.lf (Sum.inr (v0.2,true))))
def Vy l p:=(Nw l p).m
abbrev Nv l p:=(Nw l p).p
def Z6j:cg:={
 α:=(Int)×(List nz)
 F:=λst a=>([(0,(lk st 0)),(1,(lk st 1)),(6,.all 0),(7,.int i64 a.1)],[⟨false,179,3,.ah RK.ay a.2⟩])
 a0:=λst=>((lk st 7).toInt,(oH RK.ay st.rows (rN st 6)))
 jb:=λst=>[]++[(rX st 6 0)]}
def Z0y:List (Nat×cg):=[(5,Z6j)]
def Zai:bd:=mT 231 [] true [.one (.ah .av),.one (.str)] [] (λa r=>Nw (j6 .av a 0) (jH a 1)) (λX=>.dw [.all 0,.bool (X.2)]) (λX=>[⟨false,179,3,.ah .ay (X.1)⟩])
theorem Z7o:bn pG Zai:=oT (.cons Qlx (.cons Z25 (.cons Za3 (.nil)))) Tryz.func231 Tryz.call231 [.row 179 3 (.ah .ay)] Z0y 3
def Z0s(s:List UInt8)(z:(List UInt8)×(Int)):Nat:=(s.length-z.2).toNat
def Nx(s:List UInt8):Tree ((List UInt8)×kr×Bool):=
.lp inferInstance (Z0s s (s,0)+1) ((rE (s:List UInt8)/\rE ([]:List UInt8)/\rZ/\rE (false:Bool)/\rE (0:Int)/\True)/\(rE ([]:List UInt8)/\rE (0:Int)/\True/\rE (0:Int)/\rE (0:Int)/\rE (0:Int)/\True)/\True) (s,0) λ(v0:List UInt8×Int)=>.br (decide (v0.2<(v0.1.length:Int))) (.cn (decide (0<=v0.2/\v0.2<(v0.1.length:Int))) (.br ((↑(iA (v0.1.getD v0.2.toNat (0:UInt8))):Int)==(59:Int)) (.cn (decide ((0:Int)<=(0:Int)/\0<=v0.2/\v0.2<=(v0.1.length:Int))) (.nx ((rE ((cU (dA v0.2-dA 0) (cV (dA 0) v0.1)):List UInt8)/\rE ([]:List UInt8)/\rZ/\rE (false:Bool)/\rE ((wrap i64 (v0.2+1)):Int)/\True)/\(rE ([]:List UInt8)/\rE (0:Int)/\True/\rE (0:Int)/\rE (0:Int)/\rE (0:Int)/\True)/\True) (Sum.inl (cU (dA v0.2-dA 0) (cV (dA 0) v0.1),wrap i64 (v0.2+1))))) (.nx ((rE v0.1/\rE ([]:List UInt8)/\rZ/\rE (false:Bool)/\rE ((wrap i64 (v0.2+1)):Int)/\True)/\(rE ([]:List UInt8)/\rE (0:Int)/\True/\rE (0:Int)/\rE (0:Int)/\rE (0:Int)/\True)/\True) (Sum.inl (v0.1,wrap i64 (v0.2+1)))))) (.an (Qkc v0.1) (.lv (Z5 v0.1) λ(x0:List kZ×Bool)=>.br (!x0.2) (.lf (Sum.inr ([],{ea:=[],op:=0,l:=[],F4:=0,at_:=0,size:=0},false))) (let E9:=x0.1.getD (dA 0) (RK.ed RK.av);let T1:Tree ((List UInt8×Int)⊕(((List UInt8)×kr×Bool))):=.an (Nt E9.F3) (.lv (Vx E9.F3) λ(x27:List UInt8×Bool)=>.br (!x27.2) (.lf (Sum.inr ([],{ea:=[],op:=0,l:=[],F4:=0,at_:=0,size:=0},false))) (let E20:=dA (x0.1.length:Int)-dA 1;let T6:Tree ((List UInt8×Int)⊕(((List UInt8)×kr×Bool))):=let E31:=cU E20 (cV (dA 1) x0.1);.an (Nv E31 x27.1) (.lv (Vy E31 x27.1) λ(Mz:List nz×Bool)=>.br (!Mz.2) (.lf (Sum.inr ([],{ea:=[],op:=0,l:=[],F4:=0,at_:=0,size:=0},false))) (.an (Kn E9.F3) (.lv (RU E9.F3) λ(x29:Int)=>.br (decide (E9.F3=[(108:UInt8),105])) (.lf (Sum.inr ([],{ea:=E9.F3,op:=x29,l:=Mz.1,F4:=0,at_:=0,size:=2},true))) (.br (decide (E9.F3=[(46:UInt8),115,112,97,99,101])) (let Bl:=bX 3 3&&bN 0 3&&decide ((0:Int)<=(0:Int)/\0<(Mz.1.length:Int));.cn Bl (let E21:=Mz.1.getD (dA 0) (RK.ed RK.ay);.br (decide (E21.num<0)) (.lf (Sum.inr ([],{ea:=[],op:=0,l:=[],F4:=0,at_:=0,size:=0},false))) (.cn Bl (.br (decide (E21.num>1024)) (.lf (Sum.inr ([],{ea:=[],op:=0,l:=[],F4:=0,at_:=0,size:=0},false))) (.cn Bl (.lf (Sum.inr ([],{ea:=E9.F3,op:=x29,l:=Mz.1,F4:=0,at_:=0,size:=E21.num},true)))))))) (.lf (Sum.inr ([],{ea:=E9.F3,op:=x29,l:=Mz.1,F4:=0,at_:=0,size:=1},true)))))));.br (decide ((↑E20:Int)>(0:Int))) (.cn (bX 3 3&&bN 0 3&&decide ((0:Int)<=(0:Int)/\0<(↑E20:Int))) (.br (!(x0.1.getD (dA 1+dA 0) (RK.ed RK.av)).wZ) (.lf (Sum.inr ([],{ea:=[],op:=0,l:=[],F4:=0,at_:=0,size:=0},false))) T6)) T6));let E25:=dA (x0.1.length:Int)-dA 2;let E8:=(↑E25:Int);let mX:=x0.1.getD (dA 2+dA 0) (RK.ed RK.av);let oU:=x0.1.getD (dA 1) (RK.ed RK.av);let E16:=bX 3 3&&bN 0 3&&decide ((0:Int)<=(0:Int)/\0<(x0.1.length:Int));let E17:=bX 3 3&&bN 0 3&&decide ((0:Int)<=(1:Int)/\1<(x0.1.length:Int));let E19:=bX 3 3&&bN 0 3&&decide ((0:Int)<=(2:Int)/\2<=(x0.1.length:Int)/\(x0.1.length:Int)<=(x0.1.length:Int));let E28:=bX 3 3&&bN 0 3&&decide ((0:Int)<=(0:Int)/\0<E8);let E30:=decide ((x0.1.length:Int)>=(2:Int));let T3:Tree ((List UInt8×Int)⊕(((List UInt8)×kr×Bool))):=.br ((x0.1.length:Int)==(0:Int)) (.lf (Sum.inr ([],{ea:=[],op:=0,l:=[],F4:=0,at_:=0,size:=0},true))) (.cn E16 (.cn (bX 3 3&&bN 0 3&&decide ((0:Int)<=(1:Int)/\1<=(x0.1.length:Int)/\(x0.1.length:Int)<=(x0.1.length:Int))) (.br (decide (E9.F3=[(46:UInt8)])) (.br E30 (.cn E17 (.br (!oU.wZ) (.cn E17 (.cn (decide (1+dF oU.F3<=maxLen)) (.cn E19 (.an (Nt ((46:UInt8)::oU.F3)) (.lv (Vx ([(46:UInt8)]++oU.F3)) λ(x22:List UInt8×Bool)=>.br (!x22.2) (.lf (Sum.inr ([],{ea:=[],op:=0,l:=[],F4:=0,at_:=0,size:=0},false))) (let T7:Tree ((List UInt8×Int)⊕(((List UInt8)×kr×Bool))):=let E32:=cU E25 (cV (dA 2) x0.1);.an (Nv E32 x22.1) (.lv (Vy E32 x22.1) λ(RV:List nz×Bool)=>.br (!RV.2) (.lf (Sum.inr ([],{ea:=[],op:=0,l:=[],F4:=0,at_:=0,size:=0},false))) (.an (Kn ((46:UInt8)::oU.F3)) (.lv (RU ([(46:UInt8)]++oU.F3)) λ(Ec:Int)=>.br (decide ([(46:UInt8)]++oU.F3=[(46:UInt8),115,112,97,99,101])) (let Hz:=bX 3 3&&bN 0 3&&decide ((0:Int)<=(0:Int)/\0<(RV.1.length:Int));.cn Hz (let E22:=RV.1.getD (dA 0) (RK.ed RK.ay);.br (decide (E22.num<0)) (.lf (Sum.inr ([],{ea:=[],op:=0,l:=[],F4:=0,at_:=0,size:=0},false))) (.cn Hz (.br (decide (E22.num>1024)) (.lf (Sum.inr ([],{ea:=[],op:=0,l:=[],F4:=0,at_:=0,size:=0},false))) (.cn Hz (.lf (Sum.inr ([],{ea:=(46:UInt8)::oU.F3,op:=Ec,l:=RV.1,F4:=0,at_:=0,size:=E22.num},true)))))))) (.lf (Sum.inr ([],{ea:=(46:UInt8)::oU.F3,op:=Ec,l:=RV.1,F4:=0,at_:=0,size:=1},true))))));.br (decide (E8>(0:Int))) (.cn E28 (.br (!mX.wZ) (.lf (Sum.inr ([],{ea:=[],op:=0,l:=[],F4:=0,at_:=0,size:=0},false))) T7)) T7)))))) T1)) T1) T1)));.br E30 (.cn E17 (.br (decide (oU.F3=[(58:UInt8)])) (.cn E16 (.cn E16 (.br (E9.kind !=1) (.lf (Sum.inr ([],{ea:=[],op:=0,l:=[],F4:=0,at_:=0,size:=0},false))) (.an (WQ E9.F3) (.lv (Z8e E9.F3) λ(x1:Bool)=>.br (!x1) (.lf (Sum.inr ([],{ea:=[],op:=0,l:=[],F4:=0,at_:=0,size:=0},false))) (.cn E19 (.br (E8==(0:Int)) (.lf (Sum.inr (E9.F3,{ea:=[],op:=0,l:=[],F4:=0,at_:=0,size:=0},true))) (.cn E28 (.cn (bX 3 3&&bN 0 3&&decide ((0:Int)<=(1:Int)/\1<=E8/\E8<=E8)) (let T2:Tree ((List UInt8×Int)⊕(((List UInt8)×kr×Bool))):=.an (Nt mX.F3) (.lv (Vx mX.F3) λ(x7:List UInt8×Bool)=>.br (!x7.2) (.lf (Sum.inr ([],{ea:=[],op:=0,l:=[],F4:=0,at_:=0,size:=0},false))) (let T4:Tree ((List UInt8×Int)⊕(((List UInt8)×kr×Bool))):=let E26:=cU (dA E8-dA 1) (cV (dA 2+dA 1) x0.1);.an (Nv E26 x7.1) (.lv (Vy E26 x7.1) λ(x8:List nz×Bool)=>.br (!x8.2) (.lf (Sum.inr ([],{ea:=[],op:=0,l:=[],F4:=0,at_:=0,size:=0},false))) (.an (Kn mX.F3) (.lv (RU mX.F3) λ(x9:Int)=>.br (decide (mX.F3=[(108:UInt8),105])) (.lf (Sum.inr (E9.F3,{ea:=mX.F3,op:=x9,l:=x8.1,F4:=0,at_:=0,size:=2},true))) (.br (decide (mX.F3=[(46:UInt8),115,112,97,99,101])) (let HA:=bX 3 3&&bN 0 3&&decide ((0:Int)<=(0:Int)/\0<(x8.1.length:Int));.cn HA (let E23:=x8.1.getD (dA 0) (RK.ed RK.ay);.br (decide (E23.num<0)) (.lf (Sum.inr ([],{ea:=[],op:=0,l:=[],F4:=0,at_:=0,size:=0},false))) (.cn HA (.br (decide (E23.num>1024)) (.lf (Sum.inr ([],{ea:=[],op:=0,l:=[],F4:=0,at_:=0,size:=0},false))) (.cn HA (.lf (Sum.inr (E9.F3,{ea:=mX.F3,op:=x9,l:=x8.1,F4:=0,at_:=0,size:=E23.num},true)))))))) (.lf (Sum.inr (E9.F3,{ea:=mX.F3,op:=x9,l:=x8.1,F4:=0,at_:=0,size:=1},true)))))));.br (decide ((↑(dA E8-dA 1):Int)>(0:Int))) (.cn (bX 3 3&&bN 0 3&&decide ((0:Int)<=(0:Int)/\0<(↑(dA E8-dA 1):Int))) (.br (!(x0.1.getD (dA 2+dA 1+dA 0) (RK.ed RK.av)).wZ) (.lf (Sum.inr ([],{ea:=[],op:=0,l:=[],F4:=0,at_:=0,size:=0},false))) T4)) T4));.br (decide (mX.F3=[(46:UInt8)])) (.br (decide (E8>=(2:Int))) (let E29:=bX 3 3&&bN 0 3&&decide ((0:Int)<=(1:Int)/\1<E8);.cn E29 (let nS:=x0.1.getD (dA 2+dA 1) (RK.ed RK.av);.br (!nS.wZ) (.cn E29 (.cn (decide (1+dF nS.F3<=maxLen)) (.cn (bX 3 3&&bN 0 3&&decide ((0:Int)<=(2:Int)/\2<=E8/\E8<=E8)) (.an (Nt ((46:UInt8)::nS.F3)) (.lv (Vx ([(46:UInt8)]++nS.F3)) λ(x2:List UInt8×Bool)=>.br (!x2.2) (.lf (Sum.inr ([],{ea:=[],op:=0,l:=[],F4:=0,at_:=0,size:=0},false))) (let T5:Tree ((List UInt8×Int)⊕(((List UInt8)×kr×Bool))):=let E27:=cU (dA E8-dA 2) (cV (dA 2+dA 2) x0.1);.an (Nv E27 x2.1) (.lv (Vy E27 x2.1) λ(x3:List nz×Bool)=>.br (!x3.2) (.lf (Sum.inr ([],{ea:=[],op:=0,l:=[],F4:=0,at_:=0,size:=0},false))) (.an (Kn ((46:UInt8)::nS.F3)) (.lv (RU ([(46:UInt8)]++nS.F3)) λ(x4:Int)=>.br (decide ([(46:UInt8)]++nS.F3=[(46:UInt8),115,112,97,99,101])) (let E18:=bX 3 3&&bN 0 3&&decide ((0:Int)<=(0:Int)/\0<(x3.1.length:Int));.cn E18 (let E24:=x3.1.getD (dA 0) (RK.ed RK.ay);.br (decide (E24.num<0)) (.lf (Sum.inr ([],{ea:=[],op:=0,l:=[],F4:=0,at_:=0,size:=0},false))) (.cn E18 (.br (decide (E24.num>1024)) (.lf (Sum.inr ([],{ea:=[],op:=0,l:=[],F4:=0,at_:=0,size:=0},false))) (.cn E18 (.lf (Sum.inr (E9.F3,{ea:=(46:UInt8)::nS.F3,op:=x4,l:=x3.1,F4:=0,at_:=0,size:=E24.num},true)))))))) (.lf (Sum.inr (E9.F3,{ea:=(46:UInt8)::nS.F3,op:=x4,l:=x3.1,F4:=0,at_:=0,size:=1},true))))));.br (decide ((↑(dA E8-dA 2):Int)>(0:Int))) (.cn (bX 3 3&&bN 0 3&&decide ((0:Int)<=(0:Int)/\0<(↑(dA E8-dA 2):Int))) (.br (!(x0.1.getD (dA 2+dA 2+dA 0) (RK.ed RK.av)).wZ) (.lf (Sum.inr ([],{ea:=[],op:=0,l:=[],F4:=0,at_:=0,size:=0},false))) T5)) T5)))))) T2)) T2) T2)))))))))) T3)) T3)))
def Z93 s:=(Nx s).m
abbrev Ql s:=(Nx s).p
def Zam:cg:={
 α:=(List UInt8)×(Int)
 F:=λst a=>([(0,.str a.1),(2,(lk st 2)),(3,.ptr 0 0 0),(4,(lk st 4)),(5,.int i64 a.2)],[⟨true,177,6,.gen [[(cT st 3 0),(cT st 3 1),(cT st 3 2),(cT st 3 3),(cT st 3 4),(cT st 3 5)]]⟩])
 a0:=λst=>((lk st 0).toStr,(lk st 5).toInt)
 jb:=λst=>[]++[(rX st 3 0)]}
def Z3n:List (Nat×cg):=[(2,Zam)]
def Zfc:bd:=mT 176 [] false [.one (.str)] [] (λa r=>Nx (jH a 0)) (λX=>.dw [.str (X.1),.agg (kr.cells (X.2.1)),.bool (X.2.2)]) (λX=>[])
theorem Z9q:bn pG Zfc:=oT (.cons Z9y (.cons Z25 (.cons Z7j (.cons Z7o (.cons Qo5 (.nil)))))) Tryz.func176 Tryz.call176 [.sl (.ah .ay) false] Z3n 3 (jx:=nofun)
def Qo0(l:List nZ)(label:List UInt8)(z:(Int)):Prop:=0<=z/\z<=l.length
def Qe9(l:List nZ)(label:List UInt8)(z:(Int)):Nat:=(l.length-z).toNat
def Vz(l:List nZ)(label:List UInt8):Tree (Int×Bool):=
.lp inferInstance (Qe9 l label 0+1) ((nR RK.dq 2 l/\rE (label:List UInt8)/\rE (0:Int)/\True)/\True) 0 λ(v0:Int)=>.br (decide (v0<(l.length:Int))) (let E1:=bX 2 2&&bN 0 2&&decide (0<=v0/\v0<(l.length:Int));.cn E1 (let E2:=l.getD v0.toNat (RK.ed RK.dq);.br (decide (E2.Name=label)) (.cn E1 (.lf (Sum.inr (E2.Addr,true)))) (.nx ((nR RK.dq 2 l/\rE (label:List UInt8)/\rE ((wrap i64 (v0+1)):Int)/\True)/\True) (Sum.inl (wrap i64 (v0+1)))))) (.lf (Sum.inr (0,false)))
def Qr9 l label:=(Vz l label).m
def Gr(l:List nZ)(label:List UInt8):Prop:=
l.length<=1000000000000
theorem Z3p(l:List nZ)(label:List UInt8)(hw:Gr l label):(Vz l label).p:=by
 simp only[Gr]at hw
 unfold Tree.p Vz
 repeat'(first|refine fj (inv:=Qo0 l label) (μ:=Qe9 l label) ?_ (cN _) (λ_ _=>?_)|exact trivial|refine ab (λ_=>?_) (λ_=>?_)|refine ax ?_ ?_|refine c6 ?_ ?_|refine aq (λ_ _=>?_)|refine ei ?_|refine bj ?_|refine And.intro ?_ ?_)
 all_goals((try simp only[Qo0,Qe9]at*);exact nL)
def Z65:cg:={
 α:=(Int)
 F:=λst a=>([(0,(lk st 0)),(1,(lk st 1)),(6,.int i64 a)],[])
 a0:=λst=>(lk st 6).toInt
 jb:=λst=>[]++[]}
def Qzw:List (Nat×cg):=[(2,Z65)]
def Z9l:bd:=kU 124 [] true [.one (.ah .dq),.one (.str)] [] (λa r=>Gr (j6 .dq a 0) (jH a 1)) (λa r=>Qr9 (j6 .dq a 0) (jH a 1)) (λX=>.dw [.int .u32 (X.1),.bool (X.2)]) (λX=>[])
theorem Qrq:bn pG Z9l:=tG drawn jz (.nil) Tryz.func124 Tryz.call124 (λa r=>Vz (j6 .dq a 0) (jH a 1)) [] Qzw 3 (hp:=λa r h=>Z3p (j6 .dq a 0) (jH a 1) h)
def Z7f(src:List UInt8)(z:(Int)×(Int)×(List nZ)×(List kr)):Nat:=((Qzn src).length-z.2.1).toNat
def Ny(src:List UInt8):Tree ((List nZ)×(List kr)×tq):=
.br (decide ((src.length:Int)>(8192:Int))) (.lf ([],[],{wY:=300,ny:=0})) (.an (Qmk src) (.lv (Qzn src) λ(x0:List (List UInt8))=>.lp inferInstance (Z7f src (0,0,[],[])+1) ((rZ/\True/\True/\rE (0:Int)/\True/\rE (0:Int)/\True)/\(rE (0:Int)/\rE (0:Int)/\True)/\rE (x0:List (RK.T RK.str))/\rE ([]:List (RK.T RK.dq))/\rE ([]:List (RK.T RK.ak))/\True) (0,0,[],[]) λ(v0:Int×Int×List nZ×List kr)=>.br (decide (v0.2.1<(x0.length:Int))) (.cn (bX 1 1&&bN 0 1&&decide (0<=v0.2.1/\v0.2.1<(x0.length:Int))) (let E3:=x0.getD v0.2.1.toNat (RK.ed RK.str);.an (Ql E3) (.lv (Z93 E3) λ(x1:List UInt8×kr×Bool)=>.br (!x1.2.2) (.lf (Sum.inr ([],[],{wY:=301,ny:=wrap i64 (v0.2.1+1)}))) (let E1:=({wY:=305,ny:=wrap i64 (v0.2.1+1)}:tq);let E2:=decide (72*(v0.2.2.2.length+1)<=140737488355328);let E4:=decide (wrap i64 (v0.1+x1.2.1.size)>1024);.br (!decide (x1.1=[])) (.an (Gr v0.2.2.1 x1.1) (.lv (Qr9 v0.2.2.1 x1.1) λ(x2:Int×Bool)=>.br x2.2 (.lf (Sum.inr ([],[],{wY:=303,ny:=wrap i64 (v0.2.1+1)}))) (.cn (decide (24*(v0.2.2.1.length+1)<=140737488355328)) (let E5:=({Name:=x1.1,Addr:=wrap u32 (wrap i64 (4*v0.1))}:nZ);.br (!decide (x1.2.1.ea=[])) (.cn E2 (.br E4 (.lf (Sum.inr ([],[],E1))) (.nx ((rZ/\True/\True/\rE ((wrap i64 (v0.1+x1.2.1.size)):Int)/\True/\rE ((wrap i64 (v0.2.1+1)):Int)/\True)/\(rE (0:Int)/\rE (0:Int)/\True)/\rE (x0:List (RK.T RK.str))/\rE ((v0.2.2.1++[{Name:=x1.1,Addr:=wrap u32 (wrap i64 (4*v0.1))}]):List (RK.T RK.dq))/\rE ((v0.2.2.2++[{ea:=x1.2.1.ea,op:=x1.2.1.op,l:=x1.2.1.l,F4:=wrap i64 (v0.2.1+1),at_:=v0.1,size:=x1.2.1.size}]):List (RK.T RK.ak))/\True) (Sum.inl (wrap i64 (v0.1+x1.2.1.size),wrap i64 (v0.2.1+1),v0.2.2.1++[E5],v0.2.2.2++[{ea:=x1.2.1.ea,op:=x1.2.1.op,l:=x1.2.1.l,F4:=wrap i64 (v0.2.1+1),at_:=v0.1,size:=x1.2.1.size}]))))) (.br (decide (v0.1>1024)) (.lf (Sum.inr ([],[],E1))) (.nx ((rZ/\True/\True/\rE v0.1/\True/\rE ((wrap i64 (v0.2.1+1)):Int)/\True)/\(rE (0:Int)/\rE (0:Int)/\True)/\rE (x0:List (RK.T RK.str))/\rE ((v0.2.2.1++[{Name:=x1.1,Addr:=wrap u32 (wrap i64 (4*v0.1))}]):List (RK.T RK.dq))/\rE v0.2.2.2/\True) (Sum.inl (v0.1,wrap i64 (v0.2.1+1),v0.2.2.1++[E5],v0.2.2.2)))))))) (.br (!decide (x1.2.1.ea=[])) (.cn E2 (.br E4 (.lf (Sum.inr ([],[],E1))) (.nx ((rZ/\True/\True/\rE ((wrap i64 (v0.1+x1.2.1.size)):Int)/\True/\rE ((wrap i64 (v0.2.1+1)):Int)/\True)/\(rE (0:Int)/\rE (0:Int)/\True)/\rE (x0:List (RK.T RK.str))/\rE v0.2.2.1/\rE ((v0.2.2.2++[{ea:=x1.2.1.ea,op:=x1.2.1.op,l:=x1.2.1.l,F4:=wrap i64 (v0.2.1+1),at_:=v0.1,size:=x1.2.1.size}]):List (RK.T RK.ak))/\True) (Sum.inl (wrap i64 (v0.1+x1.2.1.size),wrap i64 (v0.2.1+1),v0.2.2.1,v0.2.2.2++[{ea:=x1.2.1.ea,op:=x1.2.1.op,l:=x1.2.1.l,F4:=wrap i64 (v0.2.1+1),at_:=v0.1,size:=x1.2.1.size}]))))) (.br (decide (v0.1>1024)) (.lf (Sum.inr ([],[],E1))) (.nx ((rZ/\True/\True/\rE v0.1/\True/\rE ((wrap i64 (v0.2.1+1)):Int)/\True)/\(rE (0:Int)/\rE (0:Int)/\True)/\rE (x0:List (RK.T RK.str))/\rE v0.2.2.1/\rE v0.2.2.2/\True) (Sum.inl (v0.1,wrap i64 (v0.2.1+1),v0.2.2.1,v0.2.2.2))))))))) (.lf (Sum.inr (v0.2.2.1,v0.2.2.2,{wY:=0,ny:=0})))))
def Z61 src:=(Ny src).m
abbrev Qom src:=(Ny src).p
def Zk3:cg:={
 α:=(Int)×(Int)×(List nZ)×(List kr)
 F:=λst a=>([(4,.ptr 0 0 0),(5,.all 2),(6,.all 3),(7,.int i64 a.1),(8,.all 1),(9,.int i64 a.2.1)],[⟨true,120,2,.gen [[(cT st 4 0),(cT st 4 1)]]⟩,⟨false,9,1,jA st.rows (rN st 8)⟩,⟨false,243,2,.ah RK.dq a.2.2.1⟩,⟨false,177,6,.ah RK.ak a.2.2.2⟩])
 a0:=λst=>((lk st 7).toInt,(lk st 9).toInt,(oH RK.dq st.rows (rN st 5)),(oH RK.ak st.rows (rN st 6)))
 jb:=λst=>[]++[(rX st 4 0),(rX st 8 1),(rX st 5 2),(rX st 6 3)]}
def Z9p:List (Nat×cg):=[(8,Zk3)]
def Zmh:bd:=mT 123 [] false [.one (.str)] [] (λa r=>Ny (jH a 0)) (λX=>.dw [.all 0,.all 1,.agg (tq.cells (X.2.2))]) (λX=>[⟨false,243,2,.ah .dq (X.1)⟩,⟨false,177,6,.ah .ak (X.2.1)⟩])
theorem Zhv:bn pG Zmh:=oT (.cons Zgq (.cons Z9q (.cons Qrq (.nil)))) Tryz.func123 Tryz.call123 [.row 243 2 (.ah .dq),.row 177 6 (.ah .ak)] Z9p 3 (jx:=nofun)
def NA(st:kr)(v:Int):Tree (Int×Bool):=
.lv (oK st.op) λ(x0:Int)=>.lv (Xd x0) λ(x1:Int×Int)=>let E7:=st.l.getD (dA 0) (RK.ed RK.ay);let E8:=st.l.getD (dA 1) (RK.ed RK.ay);let E9:=bX 3 3&&bN 0 3&&decide ((0:Int)<=(0:Int)/\0<(st.l.length:Int));let mX:=bX 3 3&&bN 0 3&&decide ((0:Int)<=(1:Int)/\1<(st.l.length:Int));let nS:=st.l.getD (dA 2) (RK.ed RK.ay);let oU:=bX 3 3&&bN 0 3&&decide ((0:Int)<=(2:Int)/\2<(st.l.length:Int));.br (x0==2) (.cn E9 (.cn mX (.cn oU (let T2:Tree ((Int×Bool)):=.br (decide (0<x1.1)) (.lf (0,false)) (.br (decide (0>x1.2)) (.lf (0,false)) (.lv (oI {Op:=st.op,A:=E7.kE,B:=E8.kE,C:=nS.kE,cf:=wrap i32 0}) λ(x2:Int×Bool)=>.lf (x2.1,x2.2)));.br (x0==2) T2 (.br (x0==1) T2 (.br (decide (v<x1.1)) (.lf (0,false)) (.br (decide (v>x1.2)) (.lf (0,false)) (.lv (oI {Op:=st.op,A:=E7.kE,B:=E8.kE,C:=nS.kE,cf:=wrap i32 v}) λ(x4:Int×Bool)=>.lf (x4.1,x4.2))))))))) (let T1:Tree ((Int×Bool)):=.br (decide (x0>=6)) (.cn E9 (let T5:Tree ((Int×Bool)):=.br (decide (0<x1.1)) (.lf (0,false)) (.br (decide (0>x1.2)) (.lf (0,false)) (.lv (oI {Op:=st.op,A:=E7.kE,B:=0,C:=0,cf:=wrap i32 0}) λ(x8:Int×Bool)=>.lf (x8.1,x8.2)));.br (x0==2) T5 (.br (x0==1) T5 (.br (decide (v<x1.1)) (.lf (0,false)) (.br (decide (v>x1.2)) (.lf (0,false)) (.lv (oI {Op:=st.op,A:=E7.kE,B:=0,C:=0,cf:=wrap i32 v}) λ(lJ:Int×Bool)=>.lf (lJ.1,lJ.2))))))) (.br (x0 !=1) (.cn E9 (.cn mX (let T3:Tree ((Int×Bool)):=.br (decide (0<x1.1)) (.lf (0,false)) (.br (decide (0>x1.2)) (.lf (0,false)) (.lv (oI {Op:=st.op,A:=E7.kE,B:=E8.kE,C:=0,cf:=wrap i32 0}) λ(mb:Int×Bool)=>.lf (mb.1,mb.2)));.br (x0==2) T3 (.br (x0==1) T3 (.br (decide (v<x1.1)) (.lf (0,false)) (.br (decide (v>x1.2)) (.lf (0,false)) (.lv (oI {Op:=st.op,A:=E7.kE,B:=E8.kE,C:=0,cf:=wrap i32 v}) λ(uO:Int×Bool)=>.lf (uO.1,uO.2)))))))) (let T6:Tree ((Int×Bool)):=.br (decide (0<x1.1)) (.lf (0,false)) (.br (decide (0>x1.2)) (.lf (0,false)) (.lv (oI {Op:=st.op,A:=0,B:=0,C:=0,cf:=wrap i32 0}) λ(AH:Int×Bool)=>.lf (AH.1,AH.2)));.br (x0==2) T6 (.br (x0==1) T6 (.br (decide (v<x1.1)) (.lf (0,false)) (.br (decide (v>x1.2)) (.lf (0,false)) (.lv (oI {Op:=st.op,A:=0,B:=0,C:=0,cf:=wrap i32 v}) λ(Dn:Int×Bool)=>.lf (Dn.1,Dn.2)))))));.br (decide (st.op>=32)) (.br (decide (st.op<=36)) (.cn E9 (.cn oU (.cn mX (let T4:Tree ((Int×Bool)):=.br (decide (0<x1.1)) (.lf (0,false)) (.br (decide (0>x1.2)) (.lf (0,false)) (.lv (oI {Op:=st.op,A:=E7.kE,B:=nS.kE,C:=0,cf:=wrap i32 0}) λ(x5:Int×Bool)=>.lf (x5.1,x5.2)));.br (x0==2) T4 (.br (x0==1) T4 (.br (decide (E8.num<x1.1)) (.lf (0,false)) (.br (decide (E8.num>x1.2)) (.lf (0,false)) (.lv (oI {Op:=st.op,A:=E7.kE,B:=nS.kE,C:=0,cf:=wrap i32 E8.num}) λ(x7:Int×Bool)=>.lf (x7.1,x7.2))))))))) T1) T1)
def VA st v:=(NA st v).m
abbrev Nz st v:=(NA st v).p
def Zo7:bd:=mT 126 [] true [.agg kr.sig,.one (.int .i64)] [] (λa r=>NA (kr.of (aC a 0)) (ar a 1)) (λX=>.dw [.int .u32 (X.1),.bool (X.2)]) (λX=>[])
theorem Zkv:bn pG Zo7:=oT (.cons RQ (.cons Qus (.cons Qmv (.nil)))) Tryz.func126 Tryz.call126 [] [] 2

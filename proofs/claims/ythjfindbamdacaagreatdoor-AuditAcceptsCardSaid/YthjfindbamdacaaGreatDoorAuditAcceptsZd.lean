import Derived.Test.YthjfindbamdacaaGreatDoorAuditAcceptsYz
open UInt8 renaming toNat->eW,ofNat->eY
open List renaming take->dB,drop->dC,length->dK,getD->aK
open Int renaming toNat->dF,tdiv->eU
open Nat renaming lt_succ_self->cO,beq->bT,blt->bJ
set_option maxRecDepth 100000
set_option linter.all false
namespace Go.Proofs.YthjfindbamdacaaGreatDoor
open Go Go.GD Go.IntKind
noncomputable section
instance Su {α β:Type} [Inhabited β]:Inhabited (α⊕β):=⟨.inr default⟩
def Z1j(src:List UInt8)(z:(Int)×(Int)×(List (List UInt8))):Nat:=(src.length-z.2.1).toNat
def N5(src:List UInt8):Tree (List (List UInt8)):=
.lp inferInstance (Z1j src (0,0,[])+1) ((rE (src:List UInt8)/\True/\rE (0:Int)/\rE (0:Int)/\True)/\rE ([]:List (RK.T RK.str))/\True) (0,0,[]) λ(v0:Int×Int×List (List UInt8))=>let E1:=decide (16*(v0.2.2.length+1)<=140737488355328);.br (decide (v0.2.1<(src.length:Int))) (.cn (decide (0<=v0.2.1/\v0.2.1<(src.length:Int))) (.br ((↑(eW (src.getD v0.2.1.toNat (0:UInt8))):Int)==(10:Int)) (.cn (decide (0<=v0.1/\v0.1<=v0.2.1/\v0.2.1<=(src.length:Int))) (.cn E1 (.nx ((rE (src:List UInt8)/\True/\rE ((wrap i64 (v0.2.1+1)):Int)/\rE ((wrap i64 (v0.2.1+1)):Int)/\True)/\rE ((v0.2.2++[dB (dF v0.2.1-dF v0.1) (dC v0.1.toNat src)]):List (RK.T RK.str))/\True) (Sum.inl (wrap i64 (v0.2.1+1),wrap i64 (v0.2.1+1),v0.2.2++[dB (dF v0.2.1-dF v0.1) (dC v0.1.toNat src)]))))) (.nx ((rE (src:List UInt8)/\True/\rE v0.1/\rE ((wrap i64 (v0.2.1+1)):Int)/\True)/\rE v0.2.2/\True) (Sum.inl (v0.1,wrap i64 (v0.2.1+1),v0.2.2))))) (.br (decide (v0.1<(src.length:Int))) (.cn (decide (0<=v0.1/\v0.1<=(src.length:Int)/\(src.length:Int)<=(src.length:Int))) (.cn E1 (.lf (Sum.inr (v0.2.2++[dB (dF (src.length:Int)-dF v0.1) (dC v0.1.toNat src)]))))) (.lf (Sum.inr v0.2.2)))
def Qyn src:=(N5 src).m
abbrev Qkr src:=(N5 src).p
def Zd2:bn:={
 α:=(Int)×(Int)×(List (List UInt8))
 F:=λst a=>([(0,(lk st 0)),(3,.all 0),(4,.int i64 a.1),(5,.int i64 a.2.1)],[⟨false,9,1,.ax RK.str a.2.2⟩])
 a0:=λst=>((lk st 4).toInt,(lk st 5).toInt,(r9 RK.str st.rows (rN st 3)))
 iL:=λst=>[]++[(rX st 3 0)]}
def Z56:List (Nat×bn):=[(4,Zd2)]
def Zk5:bf:=mT 151 [] true [.one (.str)] [] (λa r=>N5 (gm a 0)) (λX=>.all 0) (λX=>[⟨false,9,1,.ax .str X⟩])
theorem Zg:bj pG Zk5:=oT (.nil) Tryz.func151 Tryz.call151 [.row 9 1 (.ax .str)] Z56 3
def Qvi(c:Int):Tree Bool:=
.br (decide (c>=97)) (.lf (decide (c<=122))) (.lf false)
def V4 c:=(Qvi c).m
def Zef:bf:=mS 287 [] true [.one (.int .u8)] [] (λa r=>Qvi (ar a 0)) (λX=>.bool X) (λX=>[])
theorem Qsv:bj pG Zef:=oS (.nil) Tryz.func287 Tryz.call287 [] [] 2
def Qzy(c:Int):Tree Bool:=
.br (decide (c>=48)) (.lf (decide (c<=57))) (.lf false)
def Nj c:=(Qzy c).m
def Zhs:bf:=mS 288 [] true [.one (.int .u8)] [] (λa r=>Qzy (ar a 0)) (λX=>.bool X) (λX=>[])
theorem Qx0:bj pG Zhs:=oS (.nil) Tryz.func288 Tryz.call288 [] [] 2
def Qyl(s:List UInt8)(z:(Bool)×(Int)×(List lJ)):Nat:=(s.length-z.2.1).toNat
def Qy7(s:List UInt8)(v0:Bool×Int×List lJ)(z:(Int)):Nat:=(s.length-z).toNat
def Qxt(s:List UInt8)(v0:Bool×Int×List lJ)(z:(Int)):Nat:=(s.length-z).toNat
def N6(s:List UInt8):Tree ((List lJ)×Bool):=
.lp inferInstance (Qyl s (true,0,[])+1) ((rE (s:List UInt8)/\True/\rE (true:Bool)/\rE (0:Int)/\True)/\rE ([]:List (RK.T RK.ba))/\True) (true,0,[]) λ(v0:Bool×Int×List lJ)=>.br (decide (v0.2.1<(s.length:Int))) (.cn (decide (0<=v0.2.1/\v0.2.1<(s.length:Int))) (let E7:=(↑(eW (s.getD v0.2.1.toNat (0:UInt8))):Int);.br (E7==(32:Int)) (.nx ((rE (s:List UInt8)/\True/\rE (true:Bool)/\rE ((wrap i64 (v0.2.1+1)):Int)/\True)/\rE v0.2.2/\True) (Sum.inl (true,wrap i64 (v0.2.1+1),v0.2.2))) (.lv (V4 E7) λ(x0:Bool)=>let mj:=decide (32*(v0.2.2.length+1)<=140737488355328);let BQ:=dC v0.2.1.toNat s;.br x0 (.lp inferInstance (Qy7 s v0 v0.2.1+1) ((rE (s:List UInt8)/\True/\rE v0.1/\rE v0.2.1/\rE v0.2.1/\True)/\rE v0.2.2/\True) v0.2.1 λ(v1:Int)=>let T3:Tree ((Int)⊕((Bool×Int×List lJ)⊕(((List lJ)×Bool)))):=.cn (decide (0<=v0.2.1/\v0.2.1<=v1/\v1<=(s.length:Int))) (.cn mj (.nx ((rE (s:List UInt8)/\True/\rE (false:Bool)/\rE (v1:Int)/\True)/\rE ((v0.2.2++[{kind:=1,text:=dB (dF v1-dF v0.2.1) (dC v0.2.1.toNat s),AA:=v0.1}]):List (RK.T RK.ba))/\True) (Sum.inr (Sum.inl (false,v1,v0.2.2++[{kind:=1,text:=dB (dF v1-dF v0.2.1) BQ,AA:=v0.1}])))));.br (decide (v1<(s.length:Int))) (let og:=decide (0<=v1/\v1<(s.length:Int));.cn og (let E8:=(↑(eW (s.getD v1.toNat (0:UInt8))):Int);.lv (V4 E8) λ(x1:Bool)=>let T5:Tree ((Int)⊕((Bool×Int×List lJ)⊕(((List lJ)×Bool)))):=.nx ((rE (s:List UInt8)/\True/\rE v0.1/\rE ((wrap i64 (v1+1)):Int)/\rE v0.2.1/\True)/\rE v0.2.2/\True) (Sum.inl (wrap i64 (v1+1)));.br x1 T5 (.cn og (.lv (Nj E8) λ(x2:Bool)=>.br x2 T5 (.cn og (.br (E8==(95:Int)) T5 T3)))))) T3) (.lv (Nj E7) λ(x3:Bool)=>let T2:Tree ((Bool×Int×List lJ)⊕(((List lJ)×Bool))):=.lp inferInstance (Qxt s v0 (wrap i64 (v0.2.1+1))+1) ((rE (s:List UInt8)/\True/\rE v0.1/\rE ((wrap i64 (v0.2.1+1)):Int)/\rE v0.2.1/\True)/\rE v0.2.2/\True) (wrap i64 (v0.2.1+1)) λ(v1:Int)=>let T4:Tree ((Int)⊕((Bool×Int×List lJ)⊕(((List lJ)×Bool)))):=.cn (decide (0<=v0.2.1/\v0.2.1<=v1/\v1<=(s.length:Int))) (.cn mj (.nx ((rE (s:List UInt8)/\True/\rE (false:Bool)/\rE (v1:Int)/\True)/\rE ((v0.2.2++[{kind:=2,text:=dB (dF v1-dF v0.2.1) (dC v0.2.1.toNat s),AA:=v0.1}]):List (RK.T RK.ba))/\True) (Sum.inr (Sum.inl (false,v1,v0.2.2++[{kind:=2,text:=dB (dF v1-dF v0.2.1) BQ,AA:=v0.1}])))));.br (decide (v1<(s.length:Int))) (let pj:=decide (0<=v1/\v1<(s.length:Int));.cn pj (let E9:=(↑(eW (s.getD v1.toNat (0:UInt8))):Int);.lv (V4 E9) λ(x4:Bool)=>let T6:Tree ((Int)⊕((Bool×Int×List lJ)⊕(((List lJ)×Bool)))):=.nx ((rE (s:List UInt8)/\True/\rE v0.1/\rE ((wrap i64 (v1+1)):Int)/\rE v0.2.1/\True)/\rE v0.2.2/\True) (Sum.inl (wrap i64 (v1+1)));.br x4 T6 (.cn pj (.lv (Nj E9) λ(x5:Bool)=>.br x5 T6 (.cn pj (.br (E9==(95:Int)) T6 T4)))))) T4;.br x3 T2 (.br (E7==(45:Int)) T2 (let T1:Tree ((Bool×Int×List lJ)⊕(((List lJ)×Bool))):=.cn (decide (0<=v0.2.1/\v0.2.1<=wrap i64 (v0.2.1+1)/\wrap i64 (v0.2.1+1)<=(s.length:Int))) (.cn mj (.nx ((rE (s:List UInt8)/\True/\rE (false:Bool)/\rE ((wrap i64 (v0.2.1+1)):Int)/\True)/\rE ((v0.2.2++[{kind:=3,text:=dB (dF (wrap i64 (v0.2.1+1))-dF v0.2.1) (dC v0.2.1.toNat s),AA:=v0.1}]):List (RK.T RK.ba))/\True) (Sum.inl (false,wrap i64 (v0.2.1+1),v0.2.2++[{kind:=3,text:=dB (dF (wrap i64 (v0.2.1+1))-dF v0.2.1) BQ,AA:=v0.1}]))));.br (E7==(44:Int)) T1 (.br (E7==(58:Int)) T1 (.br (E7==(40:Int)) T1 (.br (E7==(41:Int)) T1 (.br (E7==(46:Int)) T1 (.lf (Sum.inr ([],false))))))))))))) (.lf (Sum.inr (v0.2.2,true)))
def Z4s s:=(N6 s).m
abbrev Qi7 s:=(N6 s).p
def Z8o:bn:={
 α:=(Bool)×(Int)×(List lJ)
 F:=λst a=>([(0,(lk st 0)),(4,.all 0),(5,.bool a.1),(6,.int i64 a.2.1)],[⟨false,303,3,.ax RK.ba a.2.2⟩])
 a0:=λst=>((lk st 5).toBool,(lk st 6).toInt,(r9 RK.ba st.rows (rN st 4)))
 iL:=λst=>[]++[(rX st 4 0)]}
def Z9y:bn:={
 α:=(Int)
 F:=λst a=>([(0,(lk st 0)),(4,.all 0),(5,(lk st 5)),(6,.int i64 a),(8,(lk st 8))],[⟨false,303,3,nL st.rows (rN st 4)⟩])
 a0:=λst=>(lk st 6).toInt
 iL:=λst=>[]++[(rX st 4 0)]}
def Z8v:bn:={
 α:=(Int)
 F:=λst a=>([(0,(lk st 0)),(4,.all 0),(5,(lk st 5)),(6,.int i64 a),(8,(lk st 8))],[⟨false,303,3,nL st.rows (rN st 4)⟩])
 a0:=λst=>(lk st 6).toInt
 iL:=λst=>[]++[(rX st 4 0)]}
def Z1c:List (Nat×bn):=[(4,Z8o),(12,Z9y),(17,Z8v)]
def Zec:bf:=mT 231 [] true [.one (.str)] [] (λa r=>N6 (gm a 0)) (λX=>.dt [.all 0,.bool (X.2)]) (λX=>[⟨false,303,3,.ax .ba (X.1)⟩])
theorem Z9o:bj pG Zec:=oT (.cons Qsv (.cons Qx0 (.nil))) Tryz.func231 Tryz.call231 [.row 303 3 (.ax .ba)] Z1c 3
 def Sv (p:Int->Prop) (r:Int->List UInt8) (n:Int):Tree (List UInt8):=
 .br (decide (n<(10:Int))) (.lf ([(λ(n:Int)=>eY n.toNat) (wrap u8 (wrap u64 ((48:Int)+n)))])) (.an (p (wrap u64 (eU n (10:Int)))) (.lv (r (wrap u64 (eU n (10:Int)))) λ(x0:List UInt8)=>.cn (decide (x0.length+dK [(λ(n:Int)=>eY n.toNat) (wrap u8 (wrap u64 ((48:Int)+Int.tmod n (10:Int))))]<=maxLen)) (.lf (x0++[(λ(n:Int)=>eY n.toNat) (wrap u8 (wrap u64 ((48:Int)+Int.tmod n (10:Int))))]))))
 def Bw:Nat->Int->List UInt8
  |0,_=>[]
  |k+1,n=>(Sv (λ_=>True) (Bw k) n).m
 def KI (k:Nat) (n:Int):Prop:=0<=n/\n<10^k/\n<18446744073709551616/\0<k/\k<=30
 def Jaq (k:Nat):bf:=mP 225 [] true [.one (.int .u64)] [] (λargs rows=>KI k (ar args 0)) (λargs rows=>Bw k (ar args 0)) (λX=>.str X) (λX=>[])
 theorem oV:∀k n,(Bw k n).length<=k
  |0,_=>Nat.le_refl _
  |k+1,n=>by
   show(bif decide (n<10)then _ else df (Bw k _) λx0=>x0++_).length<=k+1
   have:=oV k (wrap u64 (eU n 10))
   cases decide (n<10)
   ·simp[df,Tree.m];omega
   ·simp[Tree.m]
 theorem Ar:∀k,bj pG (Jaq k)
  |0=>Nc Tryz.call225 (λargs rows h=>absurd h.2.2.2.1 (Nat.lt_irrefl 0)) (λ_ X=>by kernel_rfl)
  |k + 1=>by
   refine ue drawn mQ (.cons (Ar k) .nil) Tryz.func225 Tryz.call225 (λargs rows=>Sv (KI k) (Bw k) (ar args 0)) [] [] 2 (λ_ _ _=>by kernel_rfl) (λ_ _=>rfl) (λargs rows h=>?_) (λ_ X=>by kernel_rfl)
   obtain⟨h0,h1,h2,h3,h4⟩:=h
   generalize ar args 0=n at*
   refine aa (λ_=>trivial) (λhn=>?_)
   have hn:=oN hn
   have e:wrap u64 (eU n 10)=n/10:=by rw[wrap_u64,Int.tdiv_eq_ediv_of_nonneg h0];omega
   refine cj (show KI k _ from ?_) (aq λx hx=>au (dY ?_) trivial)
   ·rw[e]
    rw[Int.pow_succ]at h1
    have hk:0<k:=by
     rcases Nat.eq_zero_or_pos k with rfl|h
     ·simp at h1;omega
     ·exact h
    exact⟨by omega,by omega,by omega,hk,by omega⟩
   ·have:=oV k (wrap u64 (eU n 10))
    rw[<-hx]at this
    simp[maxLen];omega
def Nk(n:Int):(List UInt8):=
Bw 20 n
def FB(n:Int):Prop:=
0<=n/\n<18446744073709551616
def Qny(n:Int):List D:=[.int .u64 n]
def Qoc(n:Int):List Row:=[]
def Qid(X:List UInt8):D:=.str X
def Qjg(X:List UInt8):List Row:=[]
def Qr6:List PT:=[.one (.int .u64)]
def Qnw:List RT:=[]
def Z3s(args:List D)(rows:List Row):(List UInt8):=Nk (ar args 0)
def Z6k(args:List D)(rows:List Row):Prop:=FB (ar args 0)
def Zg5:bf:=mP 225 [] true Qr6 Qnw Z6k Z3s Qid Qjg
theorem Qya(n:Int)(hw:FB n):kr pG 225 (Qny n) (Qoc n) (Qid (Nk n)) (Qjg (Nk n)):=by
 have h20:(18446744073709551616:Int)<=10^20:=by decide
 exact yD (args:=[.int .u64 n]) (rows:=[]) (Ar 20) (by kernel_rfl) ⟨hw.1,Int.lt_of_lt_of_le hw.2 h20,hw.2,by decide,by decide⟩
set_option maxRecDepth 100000 in
theorem Z1b(args:List D)(rows:List Row):mw Qr6 args 0=Qny (ar args 0):=by kernel_rfl
set_option maxRecDepth 100000 in
theorem Qz0(args:List D)(rows:List Row):lH Qnw rows 0=Qoc (ar args 0):=by kernel_rfl
set_option maxRecDepth 100000 in
theorem Z9n(X:List UInt8):(wA (Qid X)&&jO (Qjg X))=true:=by kernel_rfl
theorem Z9u:bj pG Zg5:=Nc Tryz.call225 (λargs rows hp=>by rw[Z1b args rows,Qz0 args rows];exact Qya (ar args 0) hp) (λ_ X=>Z9n X)
def I4(n:Int):Tree (List UInt8):=
.br (decide (n<0)) (let E1:=wrap u64 (wrap u64 (wrap i64 (0-wrap i64 (n+1)))+1);.an (FB E1) (.lv (Nk E1) λ(x0:List UInt8)=>.cn (decide (1+x0.length<=maxLen)) (.lf ((45:UInt8)::x0)))) (.an (FB (wrap u64 n)) (.lv (Nk (wrap u64 n)) λ(x1:List UInt8)=>.lf x1))
def Qpn n:=(I4 n).m
abbrev Qg9 n:=(I4 n).p
def Z8q:bf:=mT 148 [] true [.one (.int .i64)] [] (λa r=>I4 (ar a 0)) (λX=>.str X) (λX=>[])
theorem Z4k:bj pG Z8q:=oT (.cons Z9u (.nil)) Tryz.func148 Tryz.call148 [] [] 2
def I5(r:Int):Tree (List UInt8):=
.an (Qg9 r) (.lv (Qpn r) λ(x0:List UInt8)=>.cn (decide (1+x0.length<=maxLen)) (.lf ((114:UInt8)::x0)))
def Zqk r:=(I5 r).m
abbrev Qpw r:=(I5 r).p
def Zr9:bf:=mT 309 [] true [.one (.int .i64)] [] (λa r=>I5 (ar a 0)) (λX=>.str X) (λX=>[])
theorem Zmz:bj pG Zr9:=oT (.cons Z4k (.nil)) Tryz.func309 Tryz.call309 [] [] 2
def Qsi(s:List UInt8)(z:(Int)):Prop:=0<=z/\z<=16
def Qf8(s:List UInt8)(z:(Int)):Nat:=(16-z).toNat
def V5(s:List UInt8):Tree (Int×Bool):=
.lp inferInstance (Qf8 s 0+1) ((rE (s:List UInt8)/\rE (0:Int)/\True)/\True) 0 λ(v0:Int)=>.br (decide (v0<16)) (.an (Qpw v0) (.lv (Zqk v0) λ(x0:List UInt8)=>.br (decide (s=x0)) (.lf (Sum.inr (v0,true))) (.nx ((rE (s:List UInt8)/\rE ((wrap i64 (v0+1)):Int)/\True)/\True) (Sum.inl (wrap i64 (v0+1)))))) (.lf (Sum.inr (0,false)))
def Qi3 s:=(V5 s).m
theorem Qtu(s:List UInt8):(V5 s).p:=by
 unfold Tree.p V5
 have dp:∀x,FB (wrap .u64 x):=λx=>by unfold FB;rw[wrap_u64];omega
 have dl:∀x,(Nk x).length<=20:=λx=>oV 20 x
 have hd:∀x,(I4 x).w (λr=>r.length<=21):=λx=>by
  unfold I4
  refine aa (λ_=>cj (dp _) (aq λx0 h0=>au (dY ?_) ?_)) (λ_=>cj (dp _) (aq λx1 h1=>?_))
  ·have:=dl (wrap .u64 (wrap .u64 (wrap .i64 (0-wrap .i64 (x+1)))+1));rw[<-h0]at this;simp[maxLen];omega
  ·have:=dl (wrap .u64 (wrap .u64 (wrap .i64 (0-wrap .i64 (x+1)))+1));rw[<-h0]at this;show(_::x0).length<=21;simp;omega
  ·rw[h1];exact Nat.le_trans (dl _) (by decide)
 have hr:∀x,(I5 x).p:=λx=>by
  unfold Tree.p I5
  refine cj (Tree.pp (hd x)).1 (aq λx0 h0=>au (dY ?_) trivial)
  have:(Qpn x).length<=21:=(Tree.pp (hd x)).2
  rw[<-h0]at this;simp[maxLen];omega
 refine fi (inv:=Qsi s) (μ:=Qf8 s) ⟨by decide,by decide⟩ (cO _) (λz hz=>?_)
 obtain⟨z1,z2⟩:=hz
 refine aa (λhb=>cj (hr _) (aq λx0 _=>aa (λ_=>trivial) (λ_=>ea ?_))) (λ_=>trivial)
 have hb:=oY hb
 show(0<=i64.wrap (z+1)/\i64.wrap (z+1)<=16)/\(16-i64.wrap (z+1)).toNat<(16-z).toNat
 rw[wrap_i64];omega
def Qv6:bn:={
 α:=(Int)
 F:=λst a=>([(0,(lk st 0)),(4,.int i64 a)],[])
 a0:=λst=>(lk st 4).toInt
 iL:=λst=>[]++[]}
def Qs9:List (Nat×bn):=[(2,Qv6)]
def Qy0:bf:=mS 289 [] true [.one (.str)] [] (λa r=>V5 (gm a 0)) (λX=>.dt [.int .i64 (X.1),.bool (X.2)]) (λX=>[])
theorem Qkf:bj pG Qy0:=oS (.cons Zmz (.nil)) Tryz.func289 Tryz.call289 [] Qs9 3 (λ_ _ _=>by kernel_rfl) (λa r=>Qtu (gm a 0)) (λ_ X=>by kernel_rfl)
def N7(s:List UInt8):Tree Bool:=
.lv (Qi3 s) λ(x0:Int×Bool)=>.br (decide ((s.length:Int)>=(1:Int))) (.br (decide ((s.length:Int)<=(12:Int))) (.cn (decide ((0:Int)<=(0:Int)/\0<(s.length:Int))) (.lv (V4 (↑(eW (s.getD (dF 0) (0:UInt8))):Int)) λ(x1:Bool)=>.br x1 (.lf (!x0.2)) (.lf false))) (.lf false)) (.lf false)
def Z53 s:=(N7 s).m
abbrev Xv s:=(N7 s).p
def Zlp:bf:=mT 232 [] true [.one (.str)] [] (λa r=>N7 (gm a 0)) (λX=>.bool X) (λX=>[])
theorem Z03:bj pG Zlp:=oT (.cons Qkf (.cons Qsv (.nil))) Tryz.func232 Tryz.call232 [] [] 2
def N8(op:Int):Tree (List UInt8):=
let T1:Tree ((List UInt8)):=let T3:Tree ((List UInt8)):=.br (op==48) (.lf ([(106:UInt8),97,108])) (.br (op==49) (.lf ([(106:UInt8),97,108,114])) (.br (decide (op>=56)) (.br (decide (op<=64)) (.cn (bT 1 1&&bJ 0 1&&decide (0<=wrap i64 (op-56)/\wrap i64 (op-56)<(↑9:Int))) (.lf (aK [[(101:UInt8),99,97,108,108],[(101:UInt8),114,101,116],[(99:UInt8),115,114,114],[(99:UInt8),115,114,119],[(105:UInt8),110],[(111:UInt8),117,116],[(119:UInt8),102,105],[(102:UInt8),108,117,115,104],[(104:UInt8),97,108,116]] (dF (wrap i64 (op-56))) (RK.cw RK.str)))) (.lf ([]))) (.lf ([]))));.br (decide (op>=40)) (.br (decide (op<=45)) (.cn (bT 1 1&&bJ 0 1&&decide (0<=wrap i64 (op-40)/\wrap i64 (op-40)<(↑6:Int))) (.lf (aK [[(98:UInt8),101,113],[(98:UInt8),110,101],[(98:UInt8),108,116],[(98:UInt8),103,101],[(98:UInt8),108,116,117],[(98:UInt8),103,101,117]] (dF (wrap i64 (op-40))) (RK.cw RK.str)))) T3) T3;let T2:Tree ((List UInt8)):=let T4:Tree ((List UInt8)):=.br (decide (op>=32)) (.br (decide (op<=36)) (.cn (bT 1 1&&bJ 0 1&&decide (0<=wrap i64 (op-32)/\wrap i64 (op-32)<(↑5:Int))) (.lf (aK [[(108:UInt8),119],[(108:UInt8),98],[(108:UInt8),98,117],[(115:UInt8),119],[(115:UInt8),98]] (dF (wrap i64 (op-32))) (RK.cw RK.str)))) T1) T1;.br (decide (op>=16)) (.br (decide (op<=24)) (.cn (bT 1 1&&bJ 0 1&&decide (0<=wrap i64 (op-16)/\wrap i64 (op-16)<(↑9:Int))) (.lf (aK [[(97:UInt8),100,100,105],[(97:UInt8),110,100,105],[(111:UInt8),114,105],[(120:UInt8),111,114,105],[(115:UInt8),104,108,105],[(115:UInt8),104,114,105],[(115:UInt8),97,114,105],[(115:UInt8),108,116,105],[(108:UInt8),117,105]] (dF (wrap i64 (op-16))) (RK.cw RK.str)))) T4) T4;.br (decide (op>=1)) (.br (decide (op<=13)) (.cn (bT 1 1&&bJ 0 1&&decide (0<=wrap i64 (op-1)/\wrap i64 (op-1)<(↑13:Int))) (.lf (aK [[(97:UInt8),100,100],[(115:UInt8),117,98],[(97:UInt8),110,100],[(111:UInt8),114],[(120:UInt8),111,114],[(115:UInt8),104,108],[(115:UInt8),104,114],[(115:UInt8),97,114],[(109:UInt8),117,108],[(100:UInt8),105,118],[(114:UInt8),101,109],[(115:UInt8),108,116],[(115:UInt8),108,116,117]] (dF (wrap i64 (op-1))) (RK.cw RK.str)))) T2) T2
def Qwh op:=(N8 op).m
abbrev Qdt op:=(N8 op).p
def Z7:bf:=mT 291 [] true [.one (.int .i64)] [] (λa r=>N8 (ar a 0)) (λX=>.str X) (λX=>[])
theorem Z1z:bj pG Z7:=oT (.nil) Tryz.func291 Tryz.call291 [] [] 2
def Qs(s:List UInt8)(z:(Int)):Nat:=(65-z).toNat
def N9(s:List UInt8):Tree Int:=
.lp inferInstance (Qs s 1+1) ((rE (s:List UInt8)/\rE (1:Int)/\True)/\True) 1 λ(v0:Int)=>.br (decide (v0<=64)) (.lv (o7 v0) λ(x0:Int)=>.br (decide (x0>0)) (.an (Qdt v0) (.lv (Qwh v0) λ(x1:List UInt8)=>.br (decide (x1=s)) (.lf (Sum.inr v0)) (.nx ((rE (s:List UInt8)/\rE ((wrap i64 (v0+1)):Int)/\True)/\True) (Sum.inl (wrap i64 (v0+1)))))) (.nx ((rE (s:List UInt8)/\rE ((wrap i64 (v0+1)):Int)/\True)/\True) (Sum.inl (wrap i64 (v0+1))))) (.lf (Sum.inr 0))
def Sw s:=(N9 s).m
abbrev La s:=(N9 s).p
def Qye:bn:={
 α:=(Int)
 F:=λst a=>([(0,(lk st 0)),(3,.int i64 a)],[])
 a0:=λst=>(lk st 3).toInt
 iL:=λst=>[]++[]}
def Qts:List (Nat×bn):=[(2,Qye)]
def Z29:bf:=mT 235 [] true [.one (.str)] [] (λa r=>N9 (gm a 0)) (λX=>.int .i64 X) (λX=>[])
theorem Qm2:bj pG Z29:=oT (.cons Ss (.cons Z1z (.nil))) Tryz.func235 Tryz.call235 [] Qts 3
def Ob(ej:List UInt8):Tree ((List UInt8)×Bool):=
.an (La ej) (.lv (Sw ej) λ(x0:Int)=>.br (decide (ej=[(46:UInt8),119,111,114,100])) (.lf ([(120:UInt8)],true)) (.br (decide (ej=[(46:UInt8),115,112,97,99,101])) (.lf ([(110:UInt8)],true)) (.br (decide (ej=[(108:UInt8),105])) (.lf ([(114:UInt8),44,120],true)) (.br (decide (ej=[(109:UInt8),118])) (.lf ([(114:UInt8),44,114],true)) (.br (decide (ej=[(110:UInt8),111,112])) (.lf ([],true)) (.br (x0==0) (.lf ([],false)) (let T1:Tree (((List UInt8)×Bool)):=.br (x0==48) (.lf ([(114:UInt8),44,120],true)) (.lv (o7 x0) λ(x1:Int)=>.br (x1==1) (.lf ([],true)) (.br (x1==2) (.lf ([(114:UInt8),44,114,44,114],true)) (.br (decide (x1>=6)) (.lf ([(114:UInt8),44,110],true)) (.lf ([(114:UInt8),44,114,44,110],true)))));let T2:Tree (((List UInt8)×Bool)):=.br (decide (x0>=40)) (.br (decide (x0<=45)) (.lf ([(114:UInt8),44,114,44,120],true)) T1) T1;.br (decide (x0>=32)) (.br (decide (x0<=36)) (.lf ([(114:UInt8),44,110,40,114,41],true)) T2) T2)))))))
def V6 ej:=(Ob ej).m
abbrev Oa ej:=(Ob ej).p
def Z8i:bf:=mT 233 [] true [.one (.str)] [] (λa r=>Ob (gm a 0)) (λX=>.dt [.str (X.1),.bool (X.2)]) (λX=>[])
theorem Z5d:bj pG Z8i:=oT (.cons Qm2 (.cons Ss (.nil))) Tryz.func233 Tryz.call233 [] [] 2
def Qz9(s:List UInt8)(z:(Int)×(Int)):Nat:=(s.length-z.2).toNat
def Qm0(s:List UInt8)(z:(Int)×(Int)):Nat:=(s.length-z.2).toNat
def Oc(s:List UInt8):Tree (Int×Bool):=
let E7:=decide ((0:Int)<=(0:Int)/\0<(s.length:Int));let E8:=(↑(eW (s.getD (dF 0) (0:UInt8))):Int);let T1:Tree ((Int×Bool)):=let T2:Tree ((Int×Bool)):=.br (decide (wrap i64 ((s.length:Int)-(0:Int))<1)) (.lf (0,false)) (.br (decide (wrap i64 ((s.length:Int)-(0:Int))>10)) (.lf (0,false)) (.lp inferInstance (Qm0 s (0,0)+1) ((rE (s:List UInt8)/\rE (0:Int)/\rE (0:Int)/\rE (0:Int)/\True)/\True) (0,0) λ(v0:Int×Int)=>.br (decide (v0.2<(s.length:Int))) (let E9:=decide (0<=v0.2/\v0.2<(s.length:Int));.cn E9 (let E5:=(↑(eW (s.getD v0.2.toNat (0:UInt8))):Int);.lv (Nj E5) λ(x2:Bool)=>.br (!x2) (.lf (Sum.inr (0,false))) (.cn E9 (.nx ((rE (s:List UInt8)/\rE (0:Int)/\rE ((wrap i64 (wrap i64 (10*v0.1)+wrap i64 (wrap u8 ((↑(eW (s.getD v0.2.toNat (0:UInt8))):Int)-(48:Int))))):Int)/\rE ((wrap i64 (v0.2+1)):Int)/\True)/\True) (Sum.inl (wrap i64 (wrap i64 (10*v0.1)+wrap i64 (wrap u8 (E5-(48:Int)))),wrap i64 (v0.2+1))))))) (.br (decide (v0.1>=(-2147483648))) (.lf (Sum.inr (v0.1,decide (v0.1<=4294967295)))) (.lf (Sum.inr (v0.1,false))))));.br (decide ((s.length:Int)>(0:Int))) (.cn E7 (.br (E8==(45:Int)) (.br (decide (wrap i64 ((s.length:Int)-(1:Int))<1)) (.lf (0,false)) (.br (decide (wrap i64 ((s.length:Int)-(1:Int))>10)) (.lf (0,false)) (.lp inferInstance (Qm0 s (0,1)+1) ((rE (s:List UInt8)/\rE (1:Int)/\rE (0:Int)/\rE (1:Int)/\True)/\True) (0,1) λ(v0:Int×Int)=>.br (decide (v0.2<(s.length:Int))) (let mj:=decide (0<=v0.2/\v0.2<(s.length:Int));.cn mj (let E6:=(↑(eW (s.getD v0.2.toNat (0:UInt8))):Int);.lv (Nj E6) λ(x1:Bool)=>.br (!x1) (.lf (Sum.inr (0,false))) (.cn mj (.nx ((rE (s:List UInt8)/\rE (1:Int)/\rE ((wrap i64 (wrap i64 (10*v0.1)+wrap i64 (wrap u8 ((↑(eW (s.getD v0.2.toNat (0:UInt8))):Int)-(48:Int))))):Int)/\rE ((wrap i64 (v0.2+1)):Int)/\True)/\True) (Sum.inl (wrap i64 (wrap i64 (10*v0.1)+wrap i64 (wrap u8 (E6-(48:Int)))),wrap i64 (v0.2+1))))))) (.br (decide (wrap i64 (0-v0.1)>=(-2147483648))) (.lf (Sum.inr (wrap i64 (0-v0.1),decide (wrap i64 (0-v0.1)<=4294967295)))) (.lf (Sum.inr (wrap i64 (0-v0.1),false))))))) T2)) T2;.br (decide ((s.length:Int)>(2:Int))) (.cn E7 (.br (E8==(48:Int)) (.cn (decide ((0:Int)<=(1:Int)/\1<(s.length:Int))) (.br ((↑(eW (s.getD (dF 1) (0:UInt8))):Int)==(120:Int)) (.br (decide ((s.length:Int)>(10:Int))) (.lf (0,false)) (.lp inferInstance (Qz9 s (0,2)+1) ((rE (s:List UInt8)/\rE (0:Int)/\rE (2:Int)/\True)/\True) (0,2) λ(v0:Int×Int)=>.br (decide (v0.2<(s.length:Int))) (let E4:=decide (0<=v0.2/\v0.2<(s.length:Int));.cn E4 (let E3:=(↑(eW (s.getD v0.2.toNat (0:UInt8))):Int);.lv (Nj E3) λ(x0:Bool)=>.br x0 (.cn E4 (.nx ((rE (s:List UInt8)/\rE ((wrap i64 (wrap i64 (16*v0.1)+wrap i64 (wrap u8 ((↑(eW (s.getD v0.2.toNat (0:UInt8))):Int)-(48:Int))))):Int)/\rE ((wrap i64 (v0.2+1)):Int)/\True)/\True) (Sum.inl (wrap i64 (wrap i64 (16*v0.1)+wrap i64 (wrap u8 (E3-(48:Int)))),wrap i64 (v0.2+1))))) (.cn E4 (.br (decide (E3>=(97:Int))) (.cn E4 (.br (decide (E3<=(102:Int))) (.cn E4 (.nx ((rE (s:List UInt8)/\rE ((wrap i64 (wrap i64 (wrap i64 (16*v0.1)+wrap i64 (wrap u8 ((↑(eW (s.getD v0.2.toNat (0:UInt8))):Int)-(97:Int))))+10)):Int)/\rE ((wrap i64 (v0.2+1)):Int)/\True)/\True) (Sum.inl (wrap i64 (wrap i64 (wrap i64 (16*v0.1)+wrap i64 (wrap u8 (E3-(97:Int))))+10),wrap i64 (v0.2+1))))) (.lf (Sum.inr (0,false))))) (.lf (Sum.inr (0,false))))))) (.lf (Sum.inr (v0.1,true))))) T1)) T1)) T1
def Z3g s:=(Oc s).m
abbrev Qj0 s:=(Oc s).p
def Z8k:bn:={
 α:=(Int)×(Int)
 F:=λst a=>([(0,(lk st 0)),(4,.int i64 a.1),(5,.int i64 a.2)],[])
 a0:=λst=>((lk st 4).toInt,(lk st 5).toInt)
 iL:=λst=>[]++[]}
def Z8s:bn:={
 α:=(Int)×(Int)
 F:=λst a=>([(0,(lk st 0)),(6,(lk st 6)),(7,.int i64 a.1),(8,.int i64 a.2)],[])
 a0:=λst=>((lk st 7).toInt,(lk st 8).toInt)
 iL:=λst=>[]++[]}
def Z2p:List (Nat×bn):=[(6,Z8k),(21,Z8s)]
def Zeb:bf:=mT 290 [] true [.one (.str)] [] (λa r=>Oc (gm a 0)) (λX=>.dt [.int .i64 (X.1),.bool (X.2)]) (λX=>[])
theorem Z9a:bj pG Zeb:=oT (.cons Qx0 (.nil)) Tryz.func290 Tryz.call290 [] Z2p 3
def Qxm(l:List lJ)(p:List UInt8)(z:(Int)×(List nH)):Nat:=(l.length-z.1).toNat
def Qb(l:List lJ)(p:List UInt8):Tree ((List nH)×Bool):=
.br ((l.length:Int) !=(p.length:Int)) (.lf ([],false)) (.lp inferInstance (Qxm l p (0,[])+1) ((nR RK.ba 3 l/\rE (p:List UInt8)/\True/\rE (0:Int)/\True)/\rE ([]:List (RK.T RK.bb))/\True) (0,[]) λ(v0:Int×List nH)=>.br (decide (v0.1<(l.length:Int))) (.cn (bT 3 3&&bJ 0 3&&decide (0<=v0.1/\v0.1<(l.length:Int))) (let E6:=decide (0<=v0.1/\v0.1<(p.length:Int));.cn E6 (let E3:=l.getD v0.1.toNat (RK.cw RK.ba);let E4:=(↑(eW (p.getD v0.1.toNat (0:UInt8))):Int);let E5:=decide (32*(v0.2.length+1)<=140737488355328);.br (E4==(114:Int)) (.lv (Qi3 E3.text) λ(x0:Int×Bool)=>.br (E3.kind !=1) (.lf (Sum.inr ([],false))) (.br (!x0.2) (.lf (Sum.inr ([],false))) (.cn E5 (.nx ((nR RK.ba 3 l/\rE (p:List UInt8)/\True/\rE ((wrap i64 (v0.1+1)):Int)/\True)/\rE ((v0.2++[{kM:=x0.1,num:=0,label:=[]}]):List (RK.T RK.bb))/\True) (Sum.inl (wrap i64 (v0.1+1),v0.2++[{kM:=x0.1,num:=0,label:=[]}])))))) (let T1:Tree ((Int×List nH)⊕(((List nH)×Bool))):=.an (Qj0 E3.text) (.lv (Z3g E3.text) λ(x2:Int×Bool)=>.br (E3.kind !=2) (.lf (Sum.inr ([],false))) (.br (!x2.2) (.lf (Sum.inr ([],false))) (.cn E5 (.nx ((nR RK.ba 3 l/\rE (p:List UInt8)/\True/\rE ((wrap i64 (v0.1+1)):Int)/\True)/\rE ((v0.2++[{kM:=0,num:=x2.1,label:=[]}]):List (RK.T RK.bb))/\True) (Sum.inl (wrap i64 (v0.1+1),v0.2++[{kM:=0,num:=x2.1,label:=[]}]))))));let T2:Tree ((Int×List nH)⊕(((List nH)×Bool))):=.cn E6 (.br (E4==(120:Int)) (.br (E3.kind==1) (.an (Xv E3.text) (.lv (Z53 E3.text) λ(x1:Bool)=>.br x1 (.cn E5 (.nx ((nR RK.ba 3 l/\rE (p:List UInt8)/\True/\rE ((wrap i64 (v0.1+1)):Int)/\True)/\rE ((v0.2++[{kM:=0,num:=0,label:=(l.getD v0.1.toNat (RK.cw RK.ba)).text}]):List (RK.T RK.bb))/\True) (Sum.inl (wrap i64 (v0.1+1),v0.2++[{kM:=0,num:=0,label:=E3.text}])))) T1)) T1) T1);.br (E4==(110:Int)) T2 (.br (E4==(120:Int)) T2 (.br (E3.kind !=3) (.lf (Sum.inr ([],false))) (.cn (decide (0<=v0.1/\v0.1<=wrap i64 (v0.1+1)/\wrap i64 (v0.1+1)<=(p.length:Int))) (.br (!decide (E3.text=dB (dF (wrap i64 (v0.1+1))-dF v0.1) (dC v0.1.toNat p))) (.lf (Sum.inr ([],false))) (.nx ((nR RK.ba 3 l/\rE (p:List UInt8)/\True/\rE ((wrap i64 (v0.1+1)):Int)/\True)/\rE v0.2/\True) (Sum.inl (wrap i64 (v0.1+1),v0.2))))))))))) (.lf (Sum.inr (v0.2,true))))
def V7 l p:=(Qb l p).m
abbrev Od l p:=(Qb l p).p
def Z6f:bn:={
 α:=(Int)×(List nH)
 F:=λst a=>([(0,(lk st 0)),(1,(lk st 1)),(6,.all 0),(7,.int i64 a.1)],[⟨false,177,3,.ax RK.bb a.2⟩])
 a0:=λst=>((lk st 7).toInt,(r9 RK.bb st.rows (rN st 6)))
 iL:=λst=>[]++[(rX st 6 0)]}
def Qyz:List (Nat×bn):=[(5,Z6f)]
def Z9x:bf:=mT 234 [] true [.one (.ax .ba),.one (.str)] [] (λa r=>Qb (iI .ba a 0) (gm a 1)) (λX=>.dt [.all 0,.bool (X.2)]) (λX=>[⟨false,177,3,.ax .bb (X.1)⟩])
theorem Z71:bj pG Z9x:=oT (.cons Qkf (.cons Z03 (.cons Z9a (.nil)))) Tryz.func234 Tryz.call234 [.row 177 3 (.ax .bb)] Qyz 3
def Qyj(s:List UInt8)(z:(List UInt8)×(Int)):Nat:=(s.length-z.2).toNat
def Oe(s:List UInt8):Tree ((List UInt8)×kH×Bool):=
.lp inferInstance (Qyj s (s,0)+1) ((rE (s:List UInt8)/\rE ([]:List UInt8)/\rZ/\rE (false:Bool)/\rE (0:Int)/\True)/\(rE ([]:List UInt8)/\rE (0:Int)/\True/\rE (0:Int)/\rE (0:Int)/\rE (0:Int)/\True)/\True) (s,0) λ(v0:List UInt8×Int)=>.br (decide (v0.2<(v0.1.length:Int))) (.cn (decide (0<=v0.2/\v0.2<(v0.1.length:Int))) (.br ((↑(eW (v0.1.getD v0.2.toNat (0:UInt8))):Int)==(59:Int)) (.cn (decide ((0:Int)<=(0:Int)/\0<=v0.2/\v0.2<=(v0.1.length:Int))) (.nx ((rE ((dB (dF v0.2-dF 0) (dC (dF 0) v0.1)):List UInt8)/\rE ([]:List UInt8)/\rZ/\rE (false:Bool)/\rE ((wrap i64 (v0.2+1)):Int)/\True)/\(rE ([]:List UInt8)/\rE (0:Int)/\True/\rE (0:Int)/\rE (0:Int)/\rE (0:Int)/\True)/\True) (Sum.inl (dB (dF v0.2-dF 0) (dC (dF 0) v0.1),wrap i64 (v0.2+1))))) (.nx ((rE v0.1/\rE ([]:List UInt8)/\rZ/\rE (false:Bool)/\rE ((wrap i64 (v0.2+1)):Int)/\True)/\(rE ([]:List UInt8)/\rE (0:Int)/\True/\rE (0:Int)/\rE (0:Int)/\rE (0:Int)/\True)/\True) (Sum.inl (v0.1,wrap i64 (v0.2+1)))))) (.an (Qi7 v0.1) (.lv (Z4s v0.1) λ(x0:List lJ×Bool)=>.br (!x0.2) (.lf (Sum.inr ([],{ej:=[],op:=0,l:=[],D7:=0,at_:=0,size:=0},false))) (let E9:=x0.1.getD (dF 0) (RK.cw RK.ba);let T1:Tree ((List UInt8×Int)⊕(((List UInt8)×kH×Bool))):=.an (Oa E9.text) (.lv (V6 E9.text) λ(x27:List UInt8×Bool)=>.br (!x27.2) (.lf (Sum.inr ([],{ej:=[],op:=0,l:=[],D7:=0,at_:=0,size:=0},false))) (let E20:=dF (x0.1.length:Int)-dF 1;let T6:Tree ((List UInt8×Int)⊕(((List UInt8)×kH×Bool))):=let E31:=dB E20 (dC (dF 1) x0.1);.an (Od E31 x27.1) (.lv (V7 E31 x27.1) λ(Nl:List nH×Bool)=>.br (!Nl.2) (.lf (Sum.inr ([],{ej:=[],op:=0,l:=[],D7:=0,at_:=0,size:=0},false))) (.an (La E9.text) (.lv (Sw E9.text) λ(x29:Int)=>.br (decide (E9.text=[(108:UInt8),105])) (.lf (Sum.inr ([],{ej:=E9.text,op:=x29,l:=Nl.1,D7:=0,at_:=0,size:=2},true))) (.br (decide (E9.text=[(46:UInt8),115,112,97,99,101])) (let BQ:=bT 3 3&&bJ 0 3&&decide ((0:Int)<=(0:Int)/\0<(Nl.1.length:Int));.cn BQ (let E21:=Nl.1.getD (dF 0) (RK.cw RK.bb);.br (decide (E21.num<0)) (.lf (Sum.inr ([],{ej:=[],op:=0,l:=[],D7:=0,at_:=0,size:=0},false))) (.cn BQ (.br (decide (E21.num>1024)) (.lf (Sum.inr ([],{ej:=[],op:=0,l:=[],D7:=0,at_:=0,size:=0},false))) (.cn BQ (.lf (Sum.inr ([],{ej:=E9.text,op:=x29,l:=Nl.1,D7:=0,at_:=0,size:=E21.num},true)))))))) (.lf (Sum.inr ([],{ej:=E9.text,op:=x29,l:=Nl.1,D7:=0,at_:=0,size:=1},true)))))));.br (decide ((↑E20:Int)>(0:Int))) (.cn (bT 3 3&&bJ 0 3&&decide ((0:Int)<=(0:Int)/\0<(↑E20:Int))) (.br (!(x0.1.getD (dF 1+dF 0) (RK.cw RK.ba)).AA) (.lf (Sum.inr ([],{ej:=[],op:=0,l:=[],D7:=0,at_:=0,size:=0},false))) T6)) T6));let E25:=dF (x0.1.length:Int)-dF 2;let E8:=(↑E25:Int);let mj:=x0.1.getD (dF 2+dF 0) (RK.cw RK.ba);let pj:=x0.1.getD (dF 1) (RK.cw RK.ba);let E16:=bT 3 3&&bJ 0 3&&decide ((0:Int)<=(0:Int)/\0<(x0.1.length:Int));let E17:=bT 3 3&&bJ 0 3&&decide ((0:Int)<=(1:Int)/\1<(x0.1.length:Int));let E19:=bT 3 3&&bJ 0 3&&decide ((0:Int)<=(2:Int)/\2<=(x0.1.length:Int)/\(x0.1.length:Int)<=(x0.1.length:Int));let E28:=bT 3 3&&bJ 0 3&&decide ((0:Int)<=(0:Int)/\0<E8);let E30:=decide ((x0.1.length:Int)>=(2:Int));let T3:Tree ((List UInt8×Int)⊕(((List UInt8)×kH×Bool))):=.br ((x0.1.length:Int)==(0:Int)) (.lf (Sum.inr ([],{ej:=[],op:=0,l:=[],D7:=0,at_:=0,size:=0},true))) (.cn E16 (.cn (bT 3 3&&bJ 0 3&&decide ((0:Int)<=(1:Int)/\1<=(x0.1.length:Int)/\(x0.1.length:Int)<=(x0.1.length:Int))) (.br (decide (E9.text=[(46:UInt8)])) (.br E30 (.cn E17 (.br (!pj.AA) (.cn E17 (.cn (decide (1+dK pj.text<=maxLen)) (.cn E19 (.an (Oa ((46:UInt8)::pj.text)) (.lv (V6 ([(46:UInt8)]++pj.text)) λ(ss:List UInt8×Bool)=>.br (!ss.2) (.lf (Sum.inr ([],{ej:=[],op:=0,l:=[],D7:=0,at_:=0,size:=0},false))) (let T7:Tree ((List UInt8×Int)⊕(((List UInt8)×kH×Bool))):=let E32:=dB E25 (dC (dF 2) x0.1);.an (Od E32 ss.1) (.lv (V7 E32 ss.1) λ(Bf:List nH×Bool)=>.br (!Bf.2) (.lf (Sum.inr ([],{ej:=[],op:=0,l:=[],D7:=0,at_:=0,size:=0},false))) (.an (La ((46:UInt8)::pj.text)) (.lv (Sw ([(46:UInt8)]++pj.text)) λ(EW:Int)=>.br (decide ([(46:UInt8)]++pj.text=[(46:UInt8),115,112,97,99,101])) (let Il:=bT 3 3&&bJ 0 3&&decide ((0:Int)<=(0:Int)/\0<(Bf.1.length:Int));.cn Il (let E22:=Bf.1.getD (dF 0) (RK.cw RK.bb);.br (decide (E22.num<0)) (.lf (Sum.inr ([],{ej:=[],op:=0,l:=[],D7:=0,at_:=0,size:=0},false))) (.cn Il (.br (decide (E22.num>1024)) (.lf (Sum.inr ([],{ej:=[],op:=0,l:=[],D7:=0,at_:=0,size:=0},false))) (.cn Il (.lf (Sum.inr ([],{ej:=(46:UInt8)::pj.text,op:=EW,l:=Bf.1,D7:=0,at_:=0,size:=E22.num},true)))))))) (.lf (Sum.inr ([],{ej:=(46:UInt8)::pj.text,op:=EW,l:=Bf.1,D7:=0,at_:=0,size:=1},true))))));.br (decide (E8>(0:Int))) (.cn E28 (.br (!mj.AA) (.lf (Sum.inr ([],{ej:=[],op:=0,l:=[],D7:=0,at_:=0,size:=0},false))) T7)) T7)))))) T1)) T1) T1)));.br E30 (.cn E17 (.br (decide (pj.text=[(58:UInt8)])) (.cn E16 (.cn E16 (.br (E9.kind !=1) (.lf (Sum.inr ([],{ej:=[],op:=0,l:=[],D7:=0,at_:=0,size:=0},false))) (.an (Xv E9.text) (.lv (Z53 E9.text) λ(x1:Bool)=>.br (!x1) (.lf (Sum.inr ([],{ej:=[],op:=0,l:=[],D7:=0,at_:=0,size:=0},false))) (.cn E19 (.br (E8==(0:Int)) (.lf (Sum.inr (E9.text,{ej:=[],op:=0,l:=[],D7:=0,at_:=0,size:=0},true))) (.cn E28 (.cn (bT 3 3&&bJ 0 3&&decide ((0:Int)<=(1:Int)/\1<=E8/\E8<=E8)) (let T2:Tree ((List UInt8×Int)⊕(((List UInt8)×kH×Bool))):=.an (Oa mj.text) (.lv (V6 mj.text) λ(x7:List UInt8×Bool)=>.br (!x7.2) (.lf (Sum.inr ([],{ej:=[],op:=0,l:=[],D7:=0,at_:=0,size:=0},false))) (let T4:Tree ((List UInt8×Int)⊕(((List UInt8)×kH×Bool))):=let E26:=dB (dF E8-dF 1) (dC (dF 2+dF 1) x0.1);.an (Od E26 x7.1) (.lv (V7 E26 x7.1) λ(x8:List nH×Bool)=>.br (!x8.2) (.lf (Sum.inr ([],{ej:=[],op:=0,l:=[],D7:=0,at_:=0,size:=0},false))) (.an (La mj.text) (.lv (Sw mj.text) λ(x9:Int)=>.br (decide (mj.text=[(108:UInt8),105])) (.lf (Sum.inr (E9.text,{ej:=mj.text,op:=x9,l:=x8.1,D7:=0,at_:=0,size:=2},true))) (.br (decide (mj.text=[(46:UInt8),115,112,97,99,101])) (let Im:=bT 3 3&&bJ 0 3&&decide ((0:Int)<=(0:Int)/\0<(x8.1.length:Int));.cn Im (let E23:=x8.1.getD (dF 0) (RK.cw RK.bb);.br (decide (E23.num<0)) (.lf (Sum.inr ([],{ej:=[],op:=0,l:=[],D7:=0,at_:=0,size:=0},false))) (.cn Im (.br (decide (E23.num>1024)) (.lf (Sum.inr ([],{ej:=[],op:=0,l:=[],D7:=0,at_:=0,size:=0},false))) (.cn Im (.lf (Sum.inr (E9.text,{ej:=mj.text,op:=x9,l:=x8.1,D7:=0,at_:=0,size:=E23.num},true)))))))) (.lf (Sum.inr (E9.text,{ej:=mj.text,op:=x9,l:=x8.1,D7:=0,at_:=0,size:=1},true)))))));.br (decide ((↑(dF E8-dF 1):Int)>(0:Int))) (.cn (bT 3 3&&bJ 0 3&&decide ((0:Int)<=(0:Int)/\0<(↑(dF E8-dF 1):Int))) (.br (!(x0.1.getD (dF 2+dF 1+dF 0) (RK.cw RK.ba)).AA) (.lf (Sum.inr ([],{ej:=[],op:=0,l:=[],D7:=0,at_:=0,size:=0},false))) T4)) T4));.br (decide (mj.text=[(46:UInt8)])) (.br (decide (E8>=(2:Int))) (let E29:=bT 3 3&&bJ 0 3&&decide ((0:Int)<=(1:Int)/\1<E8);.cn E29 (let og:=x0.1.getD (dF 2+dF 1) (RK.cw RK.ba);.br (!og.AA) (.cn E29 (.cn (decide (1+dK og.text<=maxLen)) (.cn (bT 3 3&&bJ 0 3&&decide ((0:Int)<=(2:Int)/\2<=E8/\E8<=E8)) (.an (Oa ((46:UInt8)::og.text)) (.lv (V6 ([(46:UInt8)]++og.text)) λ(x2:List UInt8×Bool)=>.br (!x2.2) (.lf (Sum.inr ([],{ej:=[],op:=0,l:=[],D7:=0,at_:=0,size:=0},false))) (let T5:Tree ((List UInt8×Int)⊕(((List UInt8)×kH×Bool))):=let E27:=dB (dF E8-dF 2) (dC (dF 2+dF 2) x0.1);.an (Od E27 x2.1) (.lv (V7 E27 x2.1) λ(x3:List nH×Bool)=>.br (!x3.2) (.lf (Sum.inr ([],{ej:=[],op:=0,l:=[],D7:=0,at_:=0,size:=0},false))) (.an (La ((46:UInt8)::og.text)) (.lv (Sw ([(46:UInt8)]++og.text)) λ(x4:Int)=>.br (decide ([(46:UInt8)]++og.text=[(46:UInt8),115,112,97,99,101])) (let E18:=bT 3 3&&bJ 0 3&&decide ((0:Int)<=(0:Int)/\0<(x3.1.length:Int));.cn E18 (let E24:=x3.1.getD (dF 0) (RK.cw RK.bb);.br (decide (E24.num<0)) (.lf (Sum.inr ([],{ej:=[],op:=0,l:=[],D7:=0,at_:=0,size:=0},false))) (.cn E18 (.br (decide (E24.num>1024)) (.lf (Sum.inr ([],{ej:=[],op:=0,l:=[],D7:=0,at_:=0,size:=0},false))) (.cn E18 (.lf (Sum.inr (E9.text,{ej:=(46:UInt8)::og.text,op:=x4,l:=x3.1,D7:=0,at_:=0,size:=E24.num},true)))))))) (.lf (Sum.inr (E9.text,{ej:=(46:UInt8)::og.text,op:=x4,l:=x3.1,D7:=0,at_:=0,size:=1},true))))));.br (decide ((↑(dF E8-dF 2):Int)>(0:Int))) (.cn (bT 3 3&&bJ 0 3&&decide ((0:Int)<=(0:Int)/\0<(↑(dF E8-dF 2):Int))) (.br (!(x0.1.getD (dF 2+dF 2+dF 0) (RK.cw RK.ba)).AA) (.lf (Sum.inr ([],{ej:=[],op:=0,l:=[],D7:=0,at_:=0,size:=0},false))) T5)) T5)))))) T2)) T2) T2)))))))))) T3)) T3)))
def Z52 s:=(Oe s).m
abbrev Qj3 s:=(Oe s).p
def Z9w:bn:={
 α:=(List UInt8)×(Int)
 F:=λst a=>([(0,.str a.1),(2,(lk st 2)),(3,.ptr 0 0 0),(4,(lk st 4)),(5,.int i64 a.2)],[⟨true,175,6,.gen [[(cT st 3 0),(cT st 3 1),(cT st 3 2),(cT st 3 3),(cT st 3 4),(cT st 3 5)]]⟩])
 a0:=λst=>((lk st 0).toStr,(lk st 5).toInt)
 iL:=λst=>[]++[(rX st 3 0)]}
def Z26:List (Nat×bn):=[(2,Z9w)]
def Zfo:bf:=mT 152 [] false [.one (.str)] [] (λa r=>Oe (gm a 0)) (λX=>.dt [.str (X.1),.agg (kH.cells (X.2.1)),.bool (X.2.2)]) (λX=>[])
theorem Z91:bj pG Zfo:=oT (.cons Z9o (.cons Z03 (.cons Z5d (.cons Z71 (.cons Qm2 (.nil)))))) Tryz.func152 Tryz.call152 [.sl (.ax .bb) false] Z26 3 (jY:=nofun)
def Qlk(l:List oq)(label:List UInt8)(z:(Int)):Prop:=0<=z/\z<=l.length
def Qcm(l:List oq)(label:List UInt8)(z:(Int)):Nat:=(l.length-z).toNat
def V8(l:List oq)(label:List UInt8):Tree (Int×Bool):=
.lp inferInstance (Qcm l label 0+1) ((nR RK.dq 2 l/\rE (label:List UInt8)/\rE (0:Int)/\True)/\True) 0 λ(v0:Int)=>.br (decide (v0<(l.length:Int))) (let E1:=bT 2 2&&bJ 0 2&&decide (0<=v0/\v0<(l.length:Int));.cn E1 (let E2:=l.getD v0.toNat (RK.cw RK.dq);.br (decide (E2.Name=label)) (.cn E1 (.lf (Sum.inr (E2.Addr,true)))) (.nx ((nR RK.dq 2 l/\rE (label:List UInt8)/\rE ((wrap i64 (v0+1)):Int)/\True)/\True) (Sum.inl (wrap i64 (v0+1)))))) (.lf (Sum.inr (0,false)))
def Qp8 l label:=(V8 l label).m
def GV(l:List oq)(label:List UInt8):Prop:=
l.length<=1000000000000
theorem Z1d(l:List oq)(label:List UInt8)(hw:GV l label):(V8 l label).p:=by
 simp only[GV]at hw
 unfold Tree.p V8
 repeat'(first|refine fi (inv:=Qlk l label) (μ:=Qcm l label) ?_ (cO _) (λ_ _=>?_)|exact trivial|refine aa (λ_=>?_) (λ_=>?_)|refine au ?_ ?_|refine cj ?_ ?_|refine aq (λ_ _=>?_)|refine ea ?_|refine dc ?_|refine And.intro ?_ ?_)
 all_goals((try simp only[Qlk,Qcm]at*);exact nY)
def Z7e:bn:={
 α:=(Int)
 F:=λst a=>([(0,(lk st 0)),(1,(lk st 1)),(6,.int i64 a)],[])
 a0:=λst=>(lk st 6).toInt
 iL:=λst=>[]++[]}
def Qyu:List (Nat×bn):=[(2,Z7e)]
def Z8g:bf:=mP 95 [] true [.one (.ax .dq),.one (.str)] [] (λa r=>GV (iI .dq a 0) (gm a 1)) (λa r=>Qp8 (iI .dq a 0) (gm a 1)) (λX=>.dt [.int .u32 (X.1),.bool (X.2)]) (λX=>[])
theorem Qr4:bj pG Z8g:=ue drawn mQ (.nil) Tryz.func95 Tryz.call95 (λa r=>V8 (iI .dq a 0) (gm a 1)) [] Qyu 3 (hp:=λa r h=>Z1d (iI .dq a 0) (gm a 1) h)
def Z42(src:List UInt8)(z:(Int)×(Int)×(List oq)×(List kH)):Nat:=((Qyn src).length-z.2.1).toNat
def Of(src:List UInt8):Tree ((List oq)×(List kH)×tL):=
.br (decide ((src.length:Int)>(8192:Int))) (.lf ([],[],{Ay:=300,nG:=0})) (.an (Qkr src) (.lv (Qyn src) λ(x0:List (List UInt8))=>.lp inferInstance (Z42 src (0,0,[],[])+1) ((rZ/\True/\True/\rE (0:Int)/\True/\rE (0:Int)/\True)/\(rE (0:Int)/\rE (0:Int)/\True)/\rE (x0:List (RK.T RK.str))/\rE ([]:List (RK.T RK.dq))/\rE ([]:List (RK.T RK.ai))/\True) (0,0,[],[]) λ(v0:Int×Int×List oq×List kH)=>.br (decide (v0.2.1<(x0.length:Int))) (.cn (bT 1 1&&bJ 0 1&&decide (0<=v0.2.1/\v0.2.1<(x0.length:Int))) (let E3:=x0.getD v0.2.1.toNat (RK.cw RK.str);.an (Qj3 E3) (.lv (Z52 E3) λ(x1:List UInt8×kH×Bool)=>.br (!x1.2.2) (.lf (Sum.inr ([],[],{Ay:=301,nG:=wrap i64 (v0.2.1+1)}))) (let E1:=({Ay:=305,nG:=wrap i64 (v0.2.1+1)}:tL);let E2:=decide (72*(v0.2.2.2.length+1)<=140737488355328);let E4:=decide (wrap i64 (v0.1+x1.2.1.size)>1024);.br (!decide (x1.1=[])) (.an (GV v0.2.2.1 x1.1) (.lv (Qp8 v0.2.2.1 x1.1) λ(x2:Int×Bool)=>.br x2.2 (.lf (Sum.inr ([],[],{Ay:=303,nG:=wrap i64 (v0.2.1+1)}))) (.cn (decide (24*(v0.2.2.1.length+1)<=140737488355328)) (let E5:=({Name:=x1.1,Addr:=wrap u32 (wrap i64 (4*v0.1))}:oq);.br (!decide (x1.2.1.ej=[])) (.cn E2 (.br E4 (.lf (Sum.inr ([],[],E1))) (.nx ((rZ/\True/\True/\rE ((wrap i64 (v0.1+x1.2.1.size)):Int)/\True/\rE ((wrap i64 (v0.2.1+1)):Int)/\True)/\(rE (0:Int)/\rE (0:Int)/\True)/\rE (x0:List (RK.T RK.str))/\rE ((v0.2.2.1++[{Name:=x1.1,Addr:=wrap u32 (wrap i64 (4*v0.1))}]):List (RK.T RK.dq))/\rE ((v0.2.2.2++[{ej:=x1.2.1.ej,op:=x1.2.1.op,l:=x1.2.1.l,D7:=wrap i64 (v0.2.1+1),at_:=v0.1,size:=x1.2.1.size}]):List (RK.T RK.ai))/\True) (Sum.inl (wrap i64 (v0.1+x1.2.1.size),wrap i64 (v0.2.1+1),v0.2.2.1++[E5],v0.2.2.2++[{ej:=x1.2.1.ej,op:=x1.2.1.op,l:=x1.2.1.l,D7:=wrap i64 (v0.2.1+1),at_:=v0.1,size:=x1.2.1.size}]))))) (.br (decide (v0.1>1024)) (.lf (Sum.inr ([],[],E1))) (.nx ((rZ/\True/\True/\rE v0.1/\True/\rE ((wrap i64 (v0.2.1+1)):Int)/\True)/\(rE (0:Int)/\rE (0:Int)/\True)/\rE (x0:List (RK.T RK.str))/\rE ((v0.2.2.1++[{Name:=x1.1,Addr:=wrap u32 (wrap i64 (4*v0.1))}]):List (RK.T RK.dq))/\rE v0.2.2.2/\True) (Sum.inl (v0.1,wrap i64 (v0.2.1+1),v0.2.2.1++[E5],v0.2.2.2)))))))) (.br (!decide (x1.2.1.ej=[])) (.cn E2 (.br E4 (.lf (Sum.inr ([],[],E1))) (.nx ((rZ/\True/\True/\rE ((wrap i64 (v0.1+x1.2.1.size)):Int)/\True/\rE ((wrap i64 (v0.2.1+1)):Int)/\True)/\(rE (0:Int)/\rE (0:Int)/\True)/\rE (x0:List (RK.T RK.str))/\rE v0.2.2.1/\rE ((v0.2.2.2++[{ej:=x1.2.1.ej,op:=x1.2.1.op,l:=x1.2.1.l,D7:=wrap i64 (v0.2.1+1),at_:=v0.1,size:=x1.2.1.size}]):List (RK.T RK.ai))/\True) (Sum.inl (wrap i64 (v0.1+x1.2.1.size),wrap i64 (v0.2.1+1),v0.2.2.1,v0.2.2.2++[{ej:=x1.2.1.ej,op:=x1.2.1.op,l:=x1.2.1.l,D7:=wrap i64 (v0.2.1+1),at_:=v0.1,size:=x1.2.1.size}]))))) (.br (decide (v0.1>1024)) (.lf (Sum.inr ([],[],E1))) (.nx ((rZ/\True/\True/\rE v0.1/\True/\rE ((wrap i64 (v0.2.1+1)):Int)/\True)/\(rE (0:Int)/\rE (0:Int)/\True)/\rE (x0:List (RK.T RK.str))/\rE v0.2.2.1/\rE v0.2.2.2/\True) (Sum.inl (v0.1,wrap i64 (v0.2.1+1),v0.2.2.1,v0.2.2.2))))))))) (.lf (Sum.inr (v0.2.2.1,v0.2.2.2,{Ay:=0,nG:=0})))))
def Z4 src:=(Of src).m
abbrev Qn2 src:=(Of src).p
def Zhf:bn:={
 α:=(Int)×(Int)×(List oq)×(List kH)
 F:=λst a=>([(4,.ptr 0 0 0),(5,.all 2),(6,.all 3),(7,.int i64 a.1),(8,.all 1),(9,.int i64 a.2.1)],[⟨true,112,2,.gen [[(cT st 4 0),(cT st 4 1)]]⟩,⟨false,9,1,nL st.rows (rN st 8)⟩,⟨false,238,2,.ax RK.dq a.2.2.1⟩,⟨false,175,6,.ax RK.ai a.2.2.2⟩])
 a0:=λst=>((lk st 7).toInt,(lk st 9).toInt,(r9 RK.dq st.rows (rN st 5)),(r9 RK.ai st.rows (rN st 6)))
 iL:=λst=>[]++[(rX st 4 0),(rX st 8 1),(rX st 5 2),(rX st 6 3)]}
def Z8d:List (Nat×bn):=[(8,Zhf)]
def Zlg:bf:=mT 94 [] false [.one (.str)] [] (λa r=>Of (gm a 0)) (λX=>.dt [.all 0,.all 1,.agg (tL.cells (X.2.2))]) (λX=>[⟨false,238,2,.ax .dq (X.1)⟩,⟨false,175,6,.ax .ai (X.2.1)⟩])
theorem Zha:bj pG Zlg:=oT (.cons Zg (.cons Z91 (.cons Qr4 (.nil)))) Tryz.func94 Tryz.call94 [.row 238 2 (.ax .dq),.row 175 6 (.ax .ai)] Z8d 3 (jY:=nofun)
def Og(st:kH)(v:Int):Tree (Int×Bool):=
.lv (o7 st.op) λ(x0:Int)=>.lv (XU x0) λ(x1:Int×Int)=>let E7:=st.l.getD (dF 0) (RK.cw RK.bb);let E8:=st.l.getD (dF 1) (RK.cw RK.bb);let E9:=bT 3 3&&bJ 0 3&&decide ((0:Int)<=(0:Int)/\0<(st.l.length:Int));let mj:=bT 3 3&&bJ 0 3&&decide ((0:Int)<=(1:Int)/\1<(st.l.length:Int));let og:=st.l.getD (dF 2) (RK.cw RK.bb);let pj:=bT 3 3&&bJ 0 3&&decide ((0:Int)<=(2:Int)/\2<(st.l.length:Int));.br (x0==2) (.cn E9 (.cn mj (.cn pj (let T2:Tree ((Int×Bool)):=.br (decide (0<x1.1)) (.lf (0,false)) (.br (decide (0>x1.2)) (.lf (0,false)) (.lv (o4 {Op:=st.op,A:=E7.kM,B:=E8.kM,C:=og.kM,bo:=wrap i32 0}) λ(x2:Int×Bool)=>.lf (x2.1,x2.2)));.br (x0==2) T2 (.br (x0==1) T2 (.br (decide (v<x1.1)) (.lf (0,false)) (.br (decide (v>x1.2)) (.lf (0,false)) (.lv (o4 {Op:=st.op,A:=E7.kM,B:=E8.kM,C:=og.kM,bo:=wrap i32 v}) λ(x4:Int×Bool)=>.lf (x4.1,x4.2))))))))) (let T1:Tree ((Int×Bool)):=.br (decide (x0>=6)) (.cn E9 (let T5:Tree ((Int×Bool)):=.br (decide (0<x1.1)) (.lf (0,false)) (.br (decide (0>x1.2)) (.lf (0,false)) (.lv (o4 {Op:=st.op,A:=E7.kM,B:=0,C:=0,bo:=wrap i32 0}) λ(x8:Int×Bool)=>.lf (x8.1,x8.2)));.br (x0==2) T5 (.br (x0==1) T5 (.br (decide (v<x1.1)) (.lf (0,false)) (.br (decide (v>x1.2)) (.lf (0,false)) (.lv (o4 {Op:=st.op,A:=E7.kM,B:=0,C:=0,bo:=wrap i32 v}) λ(jc:Int×Bool)=>.lf (jc.1,jc.2))))))) (.br (x0 !=1) (.cn E9 (.cn mj (let T3:Tree ((Int×Bool)):=.br (decide (0<x1.1)) (.lf (0,false)) (.br (decide (0>x1.2)) (.lf (0,false)) (.lv (o4 {Op:=st.op,A:=E7.kM,B:=E8.kM,C:=0,bo:=wrap i32 0}) λ(jM:Int×Bool)=>.lf (jM.1,jM.2)));.br (x0==2) T3 (.br (x0==1) T3 (.br (decide (v<x1.1)) (.lf (0,false)) (.br (decide (v>x1.2)) (.lf (0,false)) (.lv (o4 {Op:=st.op,A:=E7.kM,B:=E8.kM,C:=0,bo:=wrap i32 v}) λ(jN:Int×Bool)=>.lf (jN.1,jN.2)))))))) (let T6:Tree ((Int×Bool)):=.br (decide (0<x1.1)) (.lf (0,false)) (.br (decide (0>x1.2)) (.lf (0,false)) (.lv (o4 {Op:=st.op,A:=0,B:=0,C:=0,bo:=wrap i32 0}) λ(mg:Int×Bool)=>.lf (mg.1,mg.2)));.br (x0==2) T6 (.br (x0==1) T6 (.br (decide (v<x1.1)) (.lf (0,false)) (.br (decide (v>x1.2)) (.lf (0,false)) (.lv (o4 {Op:=st.op,A:=0,B:=0,C:=0,bo:=wrap i32 v}) λ(mK:Int×Bool)=>.lf (mK.1,mK.2)))))));.br (decide (st.op>=32)) (.br (decide (st.op<=36)) (.cn E9 (.cn pj (.cn mj (let T4:Tree ((Int×Bool)):=.br (decide (0<x1.1)) (.lf (0,false)) (.br (decide (0>x1.2)) (.lf (0,false)) (.lv (o4 {Op:=st.op,A:=E7.kM,B:=og.kM,C:=0,bo:=wrap i32 0}) λ(x5:Int×Bool)=>.lf (x5.1,x5.2)));.br (x0==2) T4 (.br (x0==1) T4 (.br (decide (E8.num<x1.1)) (.lf (0,false)) (.br (decide (E8.num>x1.2)) (.lf (0,false)) (.lv (o4 {Op:=st.op,A:=E7.kM,B:=og.kM,C:=0,bo:=wrap i32 E8.num}) λ(x7:Int×Bool)=>.lf (x7.1,x7.2))))))))) T1) T1)
def V9 st v:=(Og st v).m
abbrev Qa st v:=(Og st v).p
def Zlh:bf:=mT 97 [] true [.agg kH.sig,.one (.int .i64)] [] (λa r=>Og (kH.of (aC a 0)) (ar a 1)) (λX=>.dt [.int .u32 (X.1),.bool (X.2)]) (λX=>[])
theorem Zj9:bj pG Zlh:=oT (.cons Ss (.cons Qsn (.cons Qku (.nil)))) Tryz.func97 Tryz.call97 [] [] 2

import Derived.Test.YthjfindbamdacaaGreatDoorAuditScriptsYz
open UInt8 renaming toNat->eW,ofNat->eX
open List renaming take->dB,drop->dC,length->dK,getD->aK
open Int renaming toNat->dF,tdiv->eU
open Nat renaming lt_succ_self->cO,beq->bT,blt->bJ
set_option maxRecDepth 100000
set_option linter.all false
namespace Go.Proofs.YthjfindbamdacaaGreatDoor
open Go Go.GD Go.IntKind
noncomputable section
instance R9 {α β:Type} [Inhabited β]:Inhabited (α⊕β):=⟨.inr default⟩
def Z0z(src:List UInt8)(z:(Int)×(Int)×(List (List UInt8))):Nat:=(src.length-z.2.1).toNat
def NQ(src:List UInt8):Tree (List (List UInt8)):=
.lp inferInstance (Z0z src (0,0,[])+1) ((rE (src:List UInt8)/\True/\rE (0:Int)/\rE (0:Int)/\True)/\rE ([]:List (RK.T RK.str))/\True) (0,0,[]) λ(v0:Int×Int×List (List UInt8))=>let E1:=decide (16*(v0.2.2.length+1)<=140737488355328);.br (decide (v0.2.1<(src.length:Int))) (.cn (decide (0<=v0.2.1/\v0.2.1<(src.length:Int))) (.br ((↑(eW (src.getD v0.2.1.toNat (0:UInt8))):Int)==(10:Int)) (.cn (decide (0<=v0.1/\v0.1<=v0.2.1/\v0.2.1<=(src.length:Int))) (.cn E1 (.nx ((rE (src:List UInt8)/\True/\rE ((wrap i64 (v0.2.1+1)):Int)/\rE ((wrap i64 (v0.2.1+1)):Int)/\True)/\rE ((v0.2.2++[dB (dF v0.2.1-dF v0.1) (dC v0.1.toNat src)]):List (RK.T RK.str))/\True) (Sum.inl (wrap i64 (v0.2.1+1),wrap i64 (v0.2.1+1),v0.2.2++[dB (dF v0.2.1-dF v0.1) (dC v0.1.toNat src)]))))) (.nx ((rE (src:List UInt8)/\True/\rE v0.1/\rE ((wrap i64 (v0.2.1+1)):Int)/\True)/\rE v0.2.2/\True) (Sum.inl (v0.1,wrap i64 (v0.2.1+1),v0.2.2))))) (.br (decide (v0.1<(src.length:Int))) (.cn (decide (0<=v0.1/\v0.1<=(src.length:Int)/\(src.length:Int)<=(src.length:Int))) (.cn E1 (.lf (Sum.inr (v0.2.2++[dB (dF (src.length:Int)-dF v0.1) (dC v0.1.toNat src)]))))) (.lf (Sum.inr v0.2.2)))
def Qxy src:=(NQ src).m
abbrev Qk5 src:=(NQ src).p
def Zaf:bu:={
 α:=(Int)×(Int)×(List (List UInt8))
 F:=λst a=>([(0,(lk st 0)),(3,.all 0),(4,.int i64 a.1),(5,.int i64 a.2.1)],[⟨false,9,1,.av RK.str a.2.2⟩])
 a0:=λst=>((lk st 4).toInt,(lk st 5).toInt,(tF RK.str st.rows (rN st 3)))
 jn:=λst=>[]++[(rX st 3 0)]}
def Z3x:List (Nat×bu):=[(4,Zaf)]
def Zi:bc:=mT 151 [] true [.one (.str)] [] (λa r=>NQ (iq a 0)) (λX=>.all 0) (λX=>[⟨false,9,1,.av .str X⟩])
theorem Zcw:bj pG Zi:=oT (.nil) Tryz.func151 Tryz.call151 [.row 9 1 (.av .str)] Z3x 3
def Qun(c:Int):Tree Bool:=
.br (decide (c>=97)) (.lf (decide (c<=122))) (.lf false)
def VK c:=(Qun c).m
def Zao:bc:=mS 287 [] true [.one (.int .u8)] [] (λa r=>Qun (aq a 0)) (λX=>.bool X) (λX=>[])
theorem Qrt:bj pG Zao:=oS (.nil) Tryz.func287 Tryz.call287 [] [] 2
def Qyg(c:Int):Tree Bool:=
.br (decide (c>=48)) (.lf (decide (c<=57))) (.lf false)
def MX c:=(Qyg c).m
def Zh7:bc:=mS 288 [] true [.one (.int .u8)] [] (λa r=>Qyg (aq a 0)) (λX=>.bool X) (λX=>[])
theorem Qvh:bj pG Zh7:=oS (.nil) Tryz.func288 Tryz.call288 [] [] 2
def Qy3(s:List UInt8)(z:(Bool)×(Int)×(List ly)):Nat:=(s.length-z.2.1).toNat
def Qxw(s:List UInt8)(v0:Bool×Int×List ly)(z:(Int)):Nat:=(s.length-z).toNat
def Qx6(s:List UInt8)(v0:Bool×Int×List ly)(z:(Int)):Nat:=(s.length-z).toNat
def NR(s:List UInt8):Tree ((List ly)×Bool):=
.lp inferInstance (Qy3 s (true,0,[])+1) ((rE (s:List UInt8)/\True/\rE (true:Bool)/\rE (0:Int)/\True)/\rE ([]:List (RK.T RK.ax))/\True) (true,0,[]) λ(v0:Bool×Int×List ly)=>.br (decide (v0.2.1<(s.length:Int))) (.cn (decide (0<=v0.2.1/\v0.2.1<(s.length:Int))) (let E7:=(↑(eW (s.getD v0.2.1.toNat (0:UInt8))):Int);.br (E7==(32:Int)) (.nx ((rE (s:List UInt8)/\True/\rE (true:Bool)/\rE ((wrap i64 (v0.2.1+1)):Int)/\True)/\rE v0.2.2/\True) (Sum.inl (true,wrap i64 (v0.2.1+1),v0.2.2))) (.lv (VK E7) λ(x0:Bool)=>let nk:=decide (32*(v0.2.2.length+1)<=140737488355328);let BE:=dC v0.2.1.toNat s;.br x0 (.lp inferInstance (Qxw s v0 v0.2.1+1) ((rE (s:List UInt8)/\True/\rE v0.1/\rE v0.2.1/\rE v0.2.1/\True)/\rE v0.2.2/\True) v0.2.1 λ(v1:Int)=>let T3:Tree ((Int)⊕((Bool×Int×List ly)⊕(((List ly)×Bool)))):=.cn (decide (0<=v0.2.1/\v0.2.1<=v1/\v1<=(s.length:Int))) (.cn nk (.nx ((rE (s:List UInt8)/\True/\rE (false:Bool)/\rE (v1:Int)/\True)/\rE ((v0.2.2++[{kind:=1,text:=dB (dF v1-dF v0.2.1) (dC v0.2.1.toNat s),An:=v0.1}]):List (RK.T RK.ax))/\True) (Sum.inr (Sum.inl (false,v1,v0.2.2++[{kind:=1,text:=dB (dF v1-dF v0.2.1) BE,An:=v0.1}])))));.br (decide (v1<(s.length:Int))) (let nW:=decide (0<=v1/\v1<(s.length:Int));.cn nW (let E8:=(↑(eW (s.getD v1.toNat (0:UInt8))):Int);.lv (VK E8) λ(x1:Bool)=>let T5:Tree ((Int)⊕((Bool×Int×List ly)⊕(((List ly)×Bool)))):=.nx ((rE (s:List UInt8)/\True/\rE v0.1/\rE ((wrap i64 (v1+1)):Int)/\rE v0.2.1/\True)/\rE v0.2.2/\True) (Sum.inl (wrap i64 (v1+1)));.br x1 T5 (.cn nW (.lv (MX E8) λ(x2:Bool)=>.br x2 T5 (.cn nW (.br (E8==(95:Int)) T5 T3)))))) T3) (.lv (MX E7) λ(x3:Bool)=>let T2:Tree ((Bool×Int×List ly)⊕(((List ly)×Bool))):=.lp inferInstance (Qx6 s v0 (wrap i64 (v0.2.1+1))+1) ((rE (s:List UInt8)/\True/\rE v0.1/\rE ((wrap i64 (v0.2.1+1)):Int)/\rE v0.2.1/\True)/\rE v0.2.2/\True) (wrap i64 (v0.2.1+1)) λ(v1:Int)=>let T4:Tree ((Int)⊕((Bool×Int×List ly)⊕(((List ly)×Bool)))):=.cn (decide (0<=v0.2.1/\v0.2.1<=v1/\v1<=(s.length:Int))) (.cn nk (.nx ((rE (s:List UInt8)/\True/\rE (false:Bool)/\rE (v1:Int)/\True)/\rE ((v0.2.2++[{kind:=2,text:=dB (dF v1-dF v0.2.1) (dC v0.2.1.toNat s),An:=v0.1}]):List (RK.T RK.ax))/\True) (Sum.inr (Sum.inl (false,v1,v0.2.2++[{kind:=2,text:=dB (dF v1-dF v0.2.1) BE,An:=v0.1}])))));.br (decide (v1<(s.length:Int))) (let oX:=decide (0<=v1/\v1<(s.length:Int));.cn oX (let E9:=(↑(eW (s.getD v1.toNat (0:UInt8))):Int);.lv (VK E9) λ(x4:Bool)=>let T6:Tree ((Int)⊕((Bool×Int×List ly)⊕(((List ly)×Bool)))):=.nx ((rE (s:List UInt8)/\True/\rE v0.1/\rE ((wrap i64 (v1+1)):Int)/\rE v0.2.1/\True)/\rE v0.2.2/\True) (Sum.inl (wrap i64 (v1+1)));.br x4 T6 (.cn oX (.lv (MX E9) λ(x5:Bool)=>.br x5 T6 (.cn oX (.br (E9==(95:Int)) T6 T4)))))) T4;.br x3 T2 (.br (E7==(45:Int)) T2 (let T1:Tree ((Bool×Int×List ly)⊕(((List ly)×Bool))):=.cn (decide (0<=v0.2.1/\v0.2.1<=wrap i64 (v0.2.1+1)/\wrap i64 (v0.2.1+1)<=(s.length:Int))) (.cn nk (.nx ((rE (s:List UInt8)/\True/\rE (false:Bool)/\rE ((wrap i64 (v0.2.1+1)):Int)/\True)/\rE ((v0.2.2++[{kind:=3,text:=dB (dF (wrap i64 (v0.2.1+1))-dF v0.2.1) (dC v0.2.1.toNat s),An:=v0.1}]):List (RK.T RK.ax))/\True) (Sum.inl (false,wrap i64 (v0.2.1+1),v0.2.2++[{kind:=3,text:=dB (dF (wrap i64 (v0.2.1+1))-dF v0.2.1) BE,An:=v0.1}]))));.br (E7==(44:Int)) T1 (.br (E7==(58:Int)) T1 (.br (E7==(40:Int)) T1 (.br (E7==(41:Int)) T1 (.br (E7==(46:Int)) T1 (.lf (Sum.inr ([],false))))))))))))) (.lf (Sum.inr (v0.2.2,true)))
def Z5n s:=(NR s).m
abbrev Qhl s:=(NR s).p
def Z72:bu:={
 α:=(Bool)×(Int)×(List ly)
 F:=λst a=>([(0,(lk st 0)),(4,.all 0),(5,.bool a.1),(6,.int i64 a.2.1)],[⟨false,303,3,.av RK.ax a.2.2⟩])
 a0:=λst=>((lk st 5).toBool,(lk st 6).toInt,(tF RK.ax st.rows (rN st 4)))
 jn:=λst=>[]++[(rX st 4 0)]}
def Z7b:bu:={
 α:=(Int)
 F:=λst a=>([(0,(lk st 0)),(4,.all 0),(5,(lk st 5)),(6,.int i64 a),(8,(lk st 8))],[⟨false,303,3,pj st.rows (rN st 4)⟩])
 a0:=λst=>(lk st 6).toInt
 jn:=λst=>[]++[(rX st 4 0)]}
def Z6v:bu:={
 α:=(Int)
 F:=λst a=>([(0,(lk st 0)),(4,.all 0),(5,(lk st 5)),(6,.int i64 a),(8,(lk st 8))],[⟨false,303,3,pj st.rows (rN st 4)⟩])
 a0:=λst=>(lk st 6).toInt
 jn:=λst=>[]++[(rX st 4 0)]}
def Z00:List (Nat×bu):=[(4,Z72),(12,Z7b),(17,Z6v)]
def Zdq:bc:=mT 231 [] true [.one (.str)] [] (λa r=>NR (iq a 0)) (λX=>.dt [.all 0,.bool (X.2)]) (λX=>[⟨false,303,3,.av .ax (X.1)⟩])
theorem Z6c:bj pG Zdq:=oT (.cons Qrt (.cons Qvh (.nil))) Tryz.func231 Tryz.call231 [.row 303 3 (.av .ax)] Z00 3
 def Sa (p:Int->Prop) (r:Int->List UInt8) (n:Int):Tree (List UInt8):=
 .br (decide (n<(10:Int))) (.lf ([(λ(n:Int)=>eX n.toNat) (wrap u8 (wrap u64 ((48:Int)+n)))])) (.an (p (wrap u64 (eU n (10:Int)))) (.lv (r (wrap u64 (eU n (10:Int)))) λ(x0:List UInt8)=>.cn (decide (x0.length+dK [(λ(n:Int)=>eX n.toNat) (wrap u8 (wrap u64 ((48:Int)+Int.tmod n (10:Int))))]<=maxLen)) (.lf (x0++[(λ(n:Int)=>eX n.toNat) (wrap u8 (wrap u64 ((48:Int)+Int.tmod n (10:Int))))]))))
 def Bk:Nat->Int->List UInt8
  |0,_=>[]
  |k+1,n=>(Sa (λ_=>True) (Bk k) n).m
 def Kq (k:Nat) (n:Int):Prop:=0<=n/\n<10^k/\n<18446744073709551616/\0<k/\k<=30
 def Jan (k:Nat):bc:=mP 225 [] true [.one (.int .u64)] [] (λargs rows=>Kq k (aq args 0)) (λargs rows=>Bk k (aq args 0)) (λX=>.str X) (λX=>[])
 theorem oK:∀k n,(Bk k n).length<=k
  |0,_=>Nat.le_refl _
  |k+1,n=>by
   show(bif decide (n<10)then _ else dd (Bk k _) λx0=>x0++_).length<=k+1
   have:=oK k (wrap u64 (eU n 10))
   cases decide (n<10)
   ·simp[dd,Tree.m];omega
   ·simp[Tree.m]
 theorem Ag:∀k,bj pG (Jan k)
  |0=>MR Tryz.call225 (λargs rows h=>absurd h.2.2.2.1 (Nat.lt_irrefl 0)) (λ_ X=>by kernel_rfl)
  |k + 1=>by
   refine wc drawn mQ (.cons (Ag k) .nil) Tryz.func225 Tryz.call225 (λargs rows=>Sa (Kq k) (Bk k) (aq args 0)) [] [] 2 (λ_ _ _=>by kernel_rfl) (λ_ _=>rfl) (λargs rows h=>?_) (λ_ X=>by kernel_rfl)
   obtain⟨h0,h1,h2,h3,h4⟩:=h
   generalize aq args 0=n at*
   refine aa (λ_=>trivial) (λhn=>?_)
   have hn:=oN hn
   have e:wrap u64 (eU n 10)=n/10:=by rw[wrap_u64,Int.tdiv_eq_ediv_of_nonneg h0];omega
   refine cz (show Kq k _ from ?_) (ar λx hx=>ba (dY ?_) trivial)
   ·rw[e]
    rw[Int.pow_succ]at h1
    have hk:0<k:=by
     rcases Nat.eq_zero_or_pos k with rfl|h
     ·simp at h1;omega
     ·exact h
    exact⟨by omega,by omega,by omega,hk,by omega⟩
   ·have:=oK k (wrap u64 (eU n 10))
    rw[<-hx]at this
    simp[maxLen];omega
def MY(n:Int):(List UInt8):=
Bk 20 n
def Fc(n:Int):Prop:=
0<=n/\n<18446744073709551616
def Qn5(n:Int):List D:=[.int .u64 n]
def Qna(n:Int):List Row:=[]
def Qis(X:List UInt8):D:=.str X
def Qii(X:List UInt8):List Row:=[]
def Qor:List PT:=[.one (.int .u64)]
def Qnd:List RT:=[]
def Z29(args:List D)(rows:List Row):(List UInt8):=MY (aq args 0)
def Z3b(args:List D)(rows:List Row):Prop:=Fc (aq args 0)
def Zap:bc:=mP 225 [] true Qor Qnd Z3b Z29 Qis Qii
theorem Qws(n:Int)(hw:Fc n):j9 pG 225 (Qn5 n) (Qna n) (Qis (MY n)) (Qii (MY n)):=by
 have h20:(18446744073709551616:Int)<=10^20:=by decide
 exact zC (args:=[.int .u64 n]) (rows:=[]) (Ag 20) (by kernel_rfl) ⟨hw.1,Int.lt_of_lt_of_le hw.2 h20,hw.2,by decide,by decide⟩
set_option maxRecDepth 100000 in
theorem Z03(args:List D)(rows:List Row):Qe Qor args 0=Qn5 (aq args 0):=by kernel_rfl
set_option maxRecDepth 100000 in
theorem Qwi(args:List D)(rows:List Row):lr Qnd rows 0=Qna (aq args 0):=by kernel_rfl
set_option maxRecDepth 100000 in
theorem Z6q(X:List UInt8):(wa (Qis X)&&jI (Qii X))=true:=by kernel_rfl
theorem Z65:bj pG Zap:=MR Tryz.call225 (λargs rows hp=>by rw[Z03 args rows,Qwi args rows];exact Qws (aq args 0) hp) (λ_ X=>Z6q X)
def IN(n:Int):Tree (List UInt8):=
.br (decide (n<0)) (let E1:=wrap u64 (wrap u64 (wrap i64 (0-wrap i64 (n+1)))+1);.an (Fc E1) (.lv (MY E1) λ(x0:List UInt8)=>.cn (decide (1+x0.length<=maxLen)) (.lf ((45:UInt8)::x0)))) (.an (Fc (wrap u64 n)) (.lv (MY (wrap u64 n)) λ(x1:List UInt8)=>.lf x1))
def Qoh n:=(IN n).m
abbrev Qfr n:=(IN n).p
def Z7w:bc:=mT 148 [] true [.one (.int .i64)] [] (λa r=>IN (aq a 0)) (λX=>.str X) (λX=>[])
theorem Z3q:bj pG Z7w:=oT (.cons Z65 (.nil)) Tryz.func148 Tryz.call148 [] [] 2
def IP(r:Int):Tree (List UInt8):=
.an (Qfr r) (.lv (Qoh r) λ(x0:List UInt8)=>.cn (decide (1+x0.length<=maxLen)) (.lf ((114:UInt8)::x0)))
def Znt r:=(IP r).m
abbrev Qns r:=(IP r).p
def Zpd:bc:=mT 309 [] true [.one (.int .i64)] [] (λa r=>IP (aq a 0)) (λX=>.str X) (λX=>[])
theorem Zk7:bj pG Zpd:=oT (.cons Z3q (.nil)) Tryz.func309 Tryz.call309 [] [] 2
def Qr0(s:List UInt8)(z:(Int)):Prop:=0<=z/\z<=16
def Qet(s:List UInt8)(z:(Int)):Nat:=(16-z).toNat
def VL(s:List UInt8):Tree (Int×Bool):=
.lp inferInstance (Qet s 0+1) ((rE (s:List UInt8)/\rE (0:Int)/\True)/\True) 0 λ(v0:Int)=>.br (decide (v0<16)) (.an (Qns v0) (.lv (Znt v0) λ(x0:List UInt8)=>.br (decide (s=x0)) (.lf (Sum.inr (v0,true))) (.nx ((rE (s:List UInt8)/\rE ((wrap i64 (v0+1)):Int)/\True)/\True) (Sum.inl (wrap i64 (v0+1)))))) (.lf (Sum.inr (0,false)))
def Qi8 s:=(VL s).m
theorem Qsj(s:List UInt8):(VL s).p:=by
 unfold Tree.p VL
 have dp:∀x,Fc (wrap .u64 x):=λx=>by unfold Fc;rw[wrap_u64];omega
 have dl:∀x,(MY x).length<=20:=λx=>oK 20 x
 have hd:∀x,(IN x).w (λr=>r.length<=21):=λx=>by
  unfold IN
  refine aa (λ_=>cz (dp _) (ar λx0 h0=>ba (dY ?_) ?_)) (λ_=>cz (dp _) (ar λx1 h1=>?_))
  ·have:=dl (wrap .u64 (wrap .u64 (wrap .i64 (0-wrap .i64 (x+1)))+1));rw[<-h0]at this;simp[maxLen];omega
  ·have:=dl (wrap .u64 (wrap .u64 (wrap .i64 (0-wrap .i64 (x+1)))+1));rw[<-h0]at this;show(_::x0).length<=21;simp;omega
  ·rw[h1];exact Nat.le_trans (dl _) (by decide)
 have hr:∀x,(IP x).p:=λx=>by
  unfold Tree.p IP
  refine cz (Tree.pp (hd x)).1 (ar λx0 h0=>ba (dY ?_) trivial)
  have:(Qoh x).length<=21:=(Tree.pp (hd x)).2
  rw[<-h0]at this;simp[maxLen];omega
 refine ga (inv:=Qr0 s) (μ:=Qet s) ⟨by decide,by decide⟩ (cO _) (λz hz=>?_)
 obtain⟨z1,z2⟩:=hz
 refine aa (λhb=>cz (hr _) (ar λx0 _=>aa (λ_=>trivial) (λ_=>fh ?_))) (λ_=>trivial)
 have hb:=oY hb
 show(0<=i64.wrap (z+1)/\i64.wrap (z+1)<=16)/\(16-i64.wrap (z+1)).toNat<(16-z).toNat
 rw[wrap_i64];omega
def Qv1:bu:={
 α:=(Int)
 F:=λst a=>([(0,(lk st 0)),(4,.int i64 a)],[])
 a0:=λst=>(lk st 4).toInt
 jn:=λst=>[]++[]}
def Qqt:List (Nat×bu):=[(2,Qv1)]
def Qxp:bc:=mS 289 [] true [.one (.str)] [] (λa r=>VL (iq a 0)) (λX=>.dt [.int .i64 (X.1),.bool (X.2)]) (λX=>[])
theorem Qjc:bj pG Qxp:=oS (.cons Zk7 (.nil)) Tryz.func289 Tryz.call289 [] Qqt 3 (λ_ _ _=>by kernel_rfl) (λa r=>Qsj (iq a 0)) (λ_ X=>by kernel_rfl)
def NS(s:List UInt8):Tree Bool:=
.lv (Qi8 s) λ(x0:Int×Bool)=>.br (decide ((s.length:Int)>=(1:Int))) (.br (decide ((s.length:Int)<=(12:Int))) (.cn (decide ((0:Int)<=(0:Int)/\0<(s.length:Int))) (.lv (VK (↑(eW (s.getD (dF 0) (0:UInt8))):Int)) λ(x1:Bool)=>.br x1 (.lf (!x0.2)) (.lf false))) (.lf false)) (.lf false)
def Z22 s:=(NS s).m
abbrev W5 s:=(NS s).p
def Zji:bc:=mT 232 [] true [.one (.str)] [] (λa r=>NS (iq a 0)) (λX=>.bool X) (λX=>[])
theorem Qz8:bj pG Zji:=oT (.cons Qjc (.cons Qrt (.nil))) Tryz.func232 Tryz.call232 [] [] 2
def NT(op:Int):Tree (List UInt8):=
let T1:Tree ((List UInt8)):=let T3:Tree ((List UInt8)):=.br (op==48) (.lf ([(106:UInt8),97,108])) (.br (op==49) (.lf ([(106:UInt8),97,108,114])) (.br (decide (op>=56)) (.br (decide (op<=64)) (.cn (bT 1 1&&bJ 0 1&&decide (0<=wrap i64 (op-56)/\wrap i64 (op-56)<(↑9:Int))) (.lf (aK [[(101:UInt8),99,97,108,108],[(101:UInt8),114,101,116],[(99:UInt8),115,114,114],[(99:UInt8),115,114,119],[(105:UInt8),110],[(111:UInt8),117,116],[(119:UInt8),102,105],[(102:UInt8),108,117,115,104],[(104:UInt8),97,108,116]] (dF (wrap i64 (op-56))) (RK.cj RK.str)))) (.lf ([]))) (.lf ([]))));.br (decide (op>=40)) (.br (decide (op<=45)) (.cn (bT 1 1&&bJ 0 1&&decide (0<=wrap i64 (op-40)/\wrap i64 (op-40)<(↑6:Int))) (.lf (aK [[(98:UInt8),101,113],[(98:UInt8),110,101],[(98:UInt8),108,116],[(98:UInt8),103,101],[(98:UInt8),108,116,117],[(98:UInt8),103,101,117]] (dF (wrap i64 (op-40))) (RK.cj RK.str)))) T3) T3;let T2:Tree ((List UInt8)):=let T4:Tree ((List UInt8)):=.br (decide (op>=32)) (.br (decide (op<=36)) (.cn (bT 1 1&&bJ 0 1&&decide (0<=wrap i64 (op-32)/\wrap i64 (op-32)<(↑5:Int))) (.lf (aK [[(108:UInt8),119],[(108:UInt8),98],[(108:UInt8),98,117],[(115:UInt8),119],[(115:UInt8),98]] (dF (wrap i64 (op-32))) (RK.cj RK.str)))) T1) T1;.br (decide (op>=16)) (.br (decide (op<=24)) (.cn (bT 1 1&&bJ 0 1&&decide (0<=wrap i64 (op-16)/\wrap i64 (op-16)<(↑9:Int))) (.lf (aK [[(97:UInt8),100,100,105],[(97:UInt8),110,100,105],[(111:UInt8),114,105],[(120:UInt8),111,114,105],[(115:UInt8),104,108,105],[(115:UInt8),104,114,105],[(115:UInt8),97,114,105],[(115:UInt8),108,116,105],[(108:UInt8),117,105]] (dF (wrap i64 (op-16))) (RK.cj RK.str)))) T4) T4;.br (decide (op>=1)) (.br (decide (op<=13)) (.cn (bT 1 1&&bJ 0 1&&decide (0<=wrap i64 (op-1)/\wrap i64 (op-1)<(↑13:Int))) (.lf (aK [[(97:UInt8),100,100],[(115:UInt8),117,98],[(97:UInt8),110,100],[(111:UInt8),114],[(120:UInt8),111,114],[(115:UInt8),104,108],[(115:UInt8),104,114],[(115:UInt8),97,114],[(109:UInt8),117,108],[(100:UInt8),105,118],[(114:UInt8),101,109],[(115:UInt8),108,116],[(115:UInt8),108,116,117]] (dF (wrap i64 (op-1))) (RK.cj RK.str)))) T2) T2
def Qtt op:=(NT op).m
abbrev Qdu op:=(NT op).p
def Z4g:bc:=mT 291 [] true [.one (.int .i64)] [] (λa r=>NT (aq a 0)) (λX=>.str X) (λX=>[])
theorem Z0f:bj pG Z4g:=oT (.nil) Tryz.func291 Tryz.call291 [] [] 2
def Qqu(s:List UInt8)(z:(Int)):Nat:=(65-z).toNat
def NU(s:List UInt8):Tree Int:=
.lp inferInstance (Qqu s 1+1) ((rE (s:List UInt8)/\rE (1:Int)/\True)/\True) 1 λ(v0:Int)=>.br (decide (v0<=64)) (.lv (oR v0) λ(x0:Int)=>.br (decide (x0>0)) (.an (Qdu v0) (.lv (Qtt v0) λ(x1:List UInt8)=>.br (decide (x1=s)) (.lf (Sum.inr v0)) (.nx ((rE (s:List UInt8)/\rE ((wrap i64 (v0+1)):Int)/\True)/\True) (Sum.inl (wrap i64 (v0+1)))))) (.nx ((rE (s:List UInt8)/\rE ((wrap i64 (v0+1)):Int)/\True)/\True) (Sum.inl (wrap i64 (v0+1))))) (.lf (Sum.inr 0))
def Sb s:=(NU s).m
abbrev KR s:=(NU s).p
def Qwh:bu:={
 α:=(Int)
 F:=λst a=>([(0,(lk st 0)),(3,.int i64 a)],[])
 a0:=λst=>(lk st 3).toInt
 jn:=λst=>[]++[]}
def Qt9:List (Nat×bu):=[(2,Qwh)]
def Z0b:bc:=mT 235 [] true [.one (.str)] [] (λa r=>NU (iq a 0)) (λX=>.int .i64 X) (λX=>[])
theorem Qkc:bj pG Z0b:=oT (.cons R7 (.cons Z0f (.nil))) Tryz.func235 Tryz.call235 [] Qt9 3
def NW(ee:List UInt8):Tree ((List UInt8)×Bool):=
.an (KR ee) (.lv (Sb ee) λ(x0:Int)=>.br (decide (ee=[(46:UInt8),119,111,114,100])) (.lf ([(120:UInt8)],true)) (.br (decide (ee=[(46:UInt8),115,112,97,99,101])) (.lf ([(110:UInt8)],true)) (.br (decide (ee=[(108:UInt8),105])) (.lf ([(114:UInt8),44,120],true)) (.br (decide (ee=[(109:UInt8),118])) (.lf ([(114:UInt8),44,114],true)) (.br (decide (ee=[(110:UInt8),111,112])) (.lf ([],true)) (.br (x0==0) (.lf ([],false)) (let T1:Tree (((List UInt8)×Bool)):=.br (x0==48) (.lf ([(114:UInt8),44,120],true)) (.lv (oR x0) λ(x1:Int)=>.br (x1==1) (.lf ([],true)) (.br (x1==2) (.lf ([(114:UInt8),44,114,44,114],true)) (.br (decide (x1>=6)) (.lf ([(114:UInt8),44,110],true)) (.lf ([(114:UInt8),44,114,44,110],true)))));let T2:Tree (((List UInt8)×Bool)):=.br (decide (x0>=40)) (.br (decide (x0<=45)) (.lf ([(114:UInt8),44,114,44,120],true)) T1) T1;.br (decide (x0>=32)) (.br (decide (x0<=36)) (.lf ([(114:UInt8),44,110,40,114,41],true)) T2) T2)))))))
def VM ee:=(NW ee).m
abbrev NV ee:=(NW ee).p
def Z7u:bc:=mT 233 [] true [.one (.str)] [] (λa r=>NW (iq a 0)) (λX=>.dt [.str (X.1),.bool (X.2)]) (λX=>[])
theorem Z3h:bj pG Z7u:=oT (.cons Qkc (.cons R7 (.nil))) Tryz.func233 Tryz.call233 [] [] 2
def Qxl(s:List UInt8)(z:(Int)×(Int)):Nat:=(s.length-z.2).toNat
def Qkp(s:List UInt8)(z:(Int)×(Int)):Nat:=(s.length-z.2).toNat
def NX(s:List UInt8):Tree (Int×Bool):=
let E7:=decide ((0:Int)<=(0:Int)/\0<(s.length:Int));let E8:=(↑(eW (s.getD (dF 0) (0:UInt8))):Int);let T1:Tree ((Int×Bool)):=let T2:Tree ((Int×Bool)):=.br (decide (wrap i64 ((s.length:Int)-(0:Int))<1)) (.lf (0,false)) (.br (decide (wrap i64 ((s.length:Int)-(0:Int))>10)) (.lf (0,false)) (.lp inferInstance (Qkp s (0,0)+1) ((rE (s:List UInt8)/\rE (0:Int)/\rE (0:Int)/\rE (0:Int)/\True)/\True) (0,0) λ(v0:Int×Int)=>.br (decide (v0.2<(s.length:Int))) (let E9:=decide (0<=v0.2/\v0.2<(s.length:Int));.cn E9 (let E5:=(↑(eW (s.getD v0.2.toNat (0:UInt8))):Int);.lv (MX E5) λ(x2:Bool)=>.br (!x2) (.lf (Sum.inr (0,false))) (.cn E9 (.nx ((rE (s:List UInt8)/\rE (0:Int)/\rE ((wrap i64 (wrap i64 (10*v0.1)+wrap i64 (wrap u8 ((↑(eW (s.getD v0.2.toNat (0:UInt8))):Int)-(48:Int))))):Int)/\rE ((wrap i64 (v0.2+1)):Int)/\True)/\True) (Sum.inl (wrap i64 (wrap i64 (10*v0.1)+wrap i64 (wrap u8 (E5-(48:Int)))),wrap i64 (v0.2+1))))))) (.br (decide (v0.1>=(-2147483648))) (.lf (Sum.inr (v0.1,decide (v0.1<=4294967295)))) (.lf (Sum.inr (v0.1,false))))));.br (decide ((s.length:Int)>(0:Int))) (.cn E7 (.br (E8==(45:Int)) (.br (decide (wrap i64 ((s.length:Int)-(1:Int))<1)) (.lf (0,false)) (.br (decide (wrap i64 ((s.length:Int)-(1:Int))>10)) (.lf (0,false)) (.lp inferInstance (Qkp s (0,1)+1) ((rE (s:List UInt8)/\rE (1:Int)/\rE (0:Int)/\rE (1:Int)/\True)/\True) (0,1) λ(v0:Int×Int)=>.br (decide (v0.2<(s.length:Int))) (let nk:=decide (0<=v0.2/\v0.2<(s.length:Int));.cn nk (let E6:=(↑(eW (s.getD v0.2.toNat (0:UInt8))):Int);.lv (MX E6) λ(x1:Bool)=>.br (!x1) (.lf (Sum.inr (0,false))) (.cn nk (.nx ((rE (s:List UInt8)/\rE (1:Int)/\rE ((wrap i64 (wrap i64 (10*v0.1)+wrap i64 (wrap u8 ((↑(eW (s.getD v0.2.toNat (0:UInt8))):Int)-(48:Int))))):Int)/\rE ((wrap i64 (v0.2+1)):Int)/\True)/\True) (Sum.inl (wrap i64 (wrap i64 (10*v0.1)+wrap i64 (wrap u8 (E6-(48:Int)))),wrap i64 (v0.2+1))))))) (.br (decide (wrap i64 (0-v0.1)>=(-2147483648))) (.lf (Sum.inr (wrap i64 (0-v0.1),decide (wrap i64 (0-v0.1)<=4294967295)))) (.lf (Sum.inr (wrap i64 (0-v0.1),false))))))) T2)) T2;.br (decide ((s.length:Int)>(2:Int))) (.cn E7 (.br (E8==(48:Int)) (.cn (decide ((0:Int)<=(1:Int)/\1<(s.length:Int))) (.br ((↑(eW (s.getD (dF 1) (0:UInt8))):Int)==(120:Int)) (.br (decide ((s.length:Int)>(10:Int))) (.lf (0,false)) (.lp inferInstance (Qxl s (0,2)+1) ((rE (s:List UInt8)/\rE (0:Int)/\rE (2:Int)/\True)/\True) (0,2) λ(v0:Int×Int)=>.br (decide (v0.2<(s.length:Int))) (let E4:=decide (0<=v0.2/\v0.2<(s.length:Int));.cn E4 (let E3:=(↑(eW (s.getD v0.2.toNat (0:UInt8))):Int);.lv (MX E3) λ(x0:Bool)=>.br x0 (.cn E4 (.nx ((rE (s:List UInt8)/\rE ((wrap i64 (wrap i64 (16*v0.1)+wrap i64 (wrap u8 ((↑(eW (s.getD v0.2.toNat (0:UInt8))):Int)-(48:Int))))):Int)/\rE ((wrap i64 (v0.2+1)):Int)/\True)/\True) (Sum.inl (wrap i64 (wrap i64 (16*v0.1)+wrap i64 (wrap u8 (E3-(48:Int)))),wrap i64 (v0.2+1))))) (.cn E4 (.br (decide (E3>=(97:Int))) (.cn E4 (.br (decide (E3<=(102:Int))) (.cn E4 (.nx ((rE (s:List UInt8)/\rE ((wrap i64 (wrap i64 (wrap i64 (16*v0.1)+wrap i64 (wrap u8 ((↑(eW (s.getD v0.2.toNat (0:UInt8))):Int)-(97:Int))))+10)):Int)/\rE ((wrap i64 (v0.2+1)):Int)/\True)/\True) (Sum.inl (wrap i64 (wrap i64 (wrap i64 (16*v0.1)+wrap i64 (wrap u8 (E3-(97:Int))))+10),wrap i64 (v0.2+1))))) (.lf (Sum.inr (0,false))))) (.lf (Sum.inr (0,false))))))) (.lf (Sum.inr (v0.1,true))))) T1)) T1)) T1
def Z4a s:=(NX s).m
abbrev Qh7 s:=(NX s).p
def Z7l:bu:={
 α:=(Int)×(Int)
 F:=λst a=>([(0,(lk st 0)),(4,.int i64 a.1),(5,.int i64 a.2)],[])
 a0:=λst=>((lk st 4).toInt,(lk st 5).toInt)
 jn:=λst=>[]++[]}
def Z7:bu:={
 α:=(Int)×(Int)
 F:=λst a=>([(0,(lk st 0)),(6,(lk st 6)),(7,.int i64 a.1),(8,.int i64 a.2)],[])
 a0:=λst=>((lk st 7).toInt,(lk st 8).toInt)
 jn:=λst=>[]++[]}
def Z11:List (Nat×bu):=[(6,Z7l),(21,Z7)]
def Zd3:bc:=mT 290 [] true [.one (.str)] [] (λa r=>NX (iq a 0)) (λX=>.dt [.int .i64 (X.1),.bool (X.2)]) (λX=>[])
theorem Z6h:bj pG Zd3:=oT (.cons Qvh (.nil)) Tryz.func290 Tryz.call290 [] Z11 3
def Qtq(l:List ly)(p:List UInt8)(z:(Int)×(List nD)):Nat:=(l.length-z.1).toNat
def NZ(l:List ly)(p:List UInt8):Tree ((List nD)×Bool):=
.br ((l.length:Int) !=(p.length:Int)) (.lf ([],false)) (.lp inferInstance (Qtq l p (0,[])+1) ((nR RK.ax 3 l/\rE (p:List UInt8)/\True/\rE (0:Int)/\True)/\rE ([]:List (RK.T RK.bb))/\True) (0,[]) λ(v0:Int×List nD)=>.br (decide (v0.1<(l.length:Int))) (.cn (bT 3 3&&bJ 0 3&&decide (0<=v0.1/\v0.1<(l.length:Int))) (let E6:=decide (0<=v0.1/\v0.1<(p.length:Int));.cn E6 (let E3:=l.getD v0.1.toNat (RK.cj RK.ax);let E4:=(↑(eW (p.getD v0.1.toNat (0:UInt8))):Int);let E5:=decide (32*(v0.2.length+1)<=140737488355328);.br (E4==(114:Int)) (.lv (Qi8 E3.text) λ(x0:Int×Bool)=>.br (E3.kind !=1) (.lf (Sum.inr ([],false))) (.br (!x0.2) (.lf (Sum.inr ([],false))) (.cn E5 (.nx ((nR RK.ax 3 l/\rE (p:List UInt8)/\True/\rE ((wrap i64 (v0.1+1)):Int)/\True)/\rE ((v0.2++[{kF:=x0.1,num:=0,label:=[]}]):List (RK.T RK.bb))/\True) (Sum.inl (wrap i64 (v0.1+1),v0.2++[{kF:=x0.1,num:=0,label:=[]}])))))) (let T1:Tree ((Int×List nD)⊕(((List nD)×Bool))):=.an (Qh7 E3.text) (.lv (Z4a E3.text) λ(x2:Int×Bool)=>.br (E3.kind !=2) (.lf (Sum.inr ([],false))) (.br (!x2.2) (.lf (Sum.inr ([],false))) (.cn E5 (.nx ((nR RK.ax 3 l/\rE (p:List UInt8)/\True/\rE ((wrap i64 (v0.1+1)):Int)/\True)/\rE ((v0.2++[{kF:=0,num:=x2.1,label:=[]}]):List (RK.T RK.bb))/\True) (Sum.inl (wrap i64 (v0.1+1),v0.2++[{kF:=0,num:=x2.1,label:=[]}]))))));let T2:Tree ((Int×List nD)⊕(((List nD)×Bool))):=.cn E6 (.br (E4==(120:Int)) (.br (E3.kind==1) (.an (W5 E3.text) (.lv (Z22 E3.text) λ(x1:Bool)=>.br x1 (.cn E5 (.nx ((nR RK.ax 3 l/\rE (p:List UInt8)/\True/\rE ((wrap i64 (v0.1+1)):Int)/\True)/\rE ((v0.2++[{kF:=0,num:=0,label:=(l.getD v0.1.toNat (RK.cj RK.ax)).text}]):List (RK.T RK.bb))/\True) (Sum.inl (wrap i64 (v0.1+1),v0.2++[{kF:=0,num:=0,label:=E3.text}])))) T1)) T1) T1);.br (E4==(110:Int)) T2 (.br (E4==(120:Int)) T2 (.br (E3.kind !=3) (.lf (Sum.inr ([],false))) (.cn (decide (0<=v0.1/\v0.1<=wrap i64 (v0.1+1)/\wrap i64 (v0.1+1)<=(p.length:Int))) (.br (!decide (E3.text=dB (dF (wrap i64 (v0.1+1))-dF v0.1) (dC v0.1.toNat p))) (.lf (Sum.inr ([],false))) (.nx ((nR RK.ax 3 l/\rE (p:List UInt8)/\True/\rE ((wrap i64 (v0.1+1)):Int)/\True)/\rE v0.2/\True) (Sum.inl (wrap i64 (v0.1+1),v0.2))))))))))) (.lf (Sum.inr (v0.2,true))))
def VN l p:=(NZ l p).m
abbrev NY l p:=(NZ l p).p
def Z56:bu:={
 α:=(Int)×(List nD)
 F:=λst a=>([(0,(lk st 0)),(1,(lk st 1)),(6,.all 0),(7,.int i64 a.1)],[⟨false,177,3,.av RK.bb a.2⟩])
 a0:=λst=>((lk st 7).toInt,(tF RK.bb st.rows (rN st 6)))
 jn:=λst=>[]++[(rX st 6 0)]}
def Qxm:List (Nat×bu):=[(5,Z56)]
def Z7a:bc:=mT 234 [] true [.one (.av .ax),.one (.str)] [] (λa r=>NZ (jh .ax a 0) (iq a 1)) (λX=>.dt [.all 0,.bool (X.2)]) (λX=>[⟨false,177,3,.av .bb (X.1)⟩])
theorem Z5h:bj pG Z7a:=oT (.cons Qjc (.cons Qz8 (.cons Z6h (.nil)))) Tryz.func234 Tryz.call234 [.row 177 3 (.av .bb)] Qxm 3
def Qwn(s:List UInt8)(z:(List UInt8)×(Int)):Nat:=(s.length-z.2).toNat
def N0(s:List UInt8):Tree ((List UInt8)×kz×Bool):=
.lp inferInstance (Qwn s (s,0)+1) ((rE (s:List UInt8)/\rE ([]:List UInt8)/\rZ/\rE (false:Bool)/\rE (0:Int)/\True)/\(rE ([]:List UInt8)/\rE (0:Int)/\True/\rE (0:Int)/\rE (0:Int)/\rE (0:Int)/\True)/\True) (s,0) λ(v0:List UInt8×Int)=>.br (decide (v0.2<(v0.1.length:Int))) (.cn (decide (0<=v0.2/\v0.2<(v0.1.length:Int))) (.br ((↑(eW (v0.1.getD v0.2.toNat (0:UInt8))):Int)==(59:Int)) (.cn (decide ((0:Int)<=(0:Int)/\0<=v0.2/\v0.2<=(v0.1.length:Int))) (.nx ((rE ((dB (dF v0.2-dF 0) (dC (dF 0) v0.1)):List UInt8)/\rE ([]:List UInt8)/\rZ/\rE (false:Bool)/\rE ((wrap i64 (v0.2+1)):Int)/\True)/\(rE ([]:List UInt8)/\rE (0:Int)/\True/\rE (0:Int)/\rE (0:Int)/\rE (0:Int)/\True)/\True) (Sum.inl (dB (dF v0.2-dF 0) (dC (dF 0) v0.1),wrap i64 (v0.2+1))))) (.nx ((rE v0.1/\rE ([]:List UInt8)/\rZ/\rE (false:Bool)/\rE ((wrap i64 (v0.2+1)):Int)/\True)/\(rE ([]:List UInt8)/\rE (0:Int)/\True/\rE (0:Int)/\rE (0:Int)/\rE (0:Int)/\True)/\True) (Sum.inl (v0.1,wrap i64 (v0.2+1)))))) (.an (Qhl v0.1) (.lv (Z5n v0.1) λ(x0:List ly×Bool)=>.br (!x0.2) (.lf (Sum.inr ([],{ee:=[],op:=0,l:=[],D8:=0,at_:=0,size:=0},false))) (let E9:=x0.1.getD (dF 0) (RK.cj RK.ax);let T1:Tree ((List UInt8×Int)⊕(((List UInt8)×kz×Bool))):=.an (NV E9.text) (.lv (VM E9.text) λ(x27:List UInt8×Bool)=>.br (!x27.2) (.lf (Sum.inr ([],{ee:=[],op:=0,l:=[],D8:=0,at_:=0,size:=0},false))) (let E20:=dF (x0.1.length:Int)-dF 1;let T6:Tree ((List UInt8×Int)⊕(((List UInt8)×kz×Bool))):=let E31:=dB E20 (dC (dF 1) x0.1);.an (NY E31 x27.1) (.lv (VN E31 x27.1) λ(MZ:List nD×Bool)=>.br (!MZ.2) (.lf (Sum.inr ([],{ee:=[],op:=0,l:=[],D8:=0,at_:=0,size:=0},false))) (.an (KR E9.text) (.lv (Sb E9.text) λ(x29:Int)=>.br (decide (E9.text=[(108:UInt8),105])) (.lf (Sum.inr ([],{ee:=E9.text,op:=x29,l:=MZ.1,D8:=0,at_:=0,size:=2},true))) (.br (decide (E9.text=[(46:UInt8),115,112,97,99,101])) (let BE:=bT 3 3&&bJ 0 3&&decide ((0:Int)<=(0:Int)/\0<(MZ.1.length:Int));.cn BE (let E21:=MZ.1.getD (dF 0) (RK.cj RK.bb);.br (decide (E21.num<0)) (.lf (Sum.inr ([],{ee:=[],op:=0,l:=[],D8:=0,at_:=0,size:=0},false))) (.cn BE (.br (decide (E21.num>1024)) (.lf (Sum.inr ([],{ee:=[],op:=0,l:=[],D8:=0,at_:=0,size:=0},false))) (.cn BE (.lf (Sum.inr ([],{ee:=E9.text,op:=x29,l:=MZ.1,D8:=0,at_:=0,size:=E21.num},true)))))))) (.lf (Sum.inr ([],{ee:=E9.text,op:=x29,l:=MZ.1,D8:=0,at_:=0,size:=1},true)))))));.br (decide ((↑E20:Int)>(0:Int))) (.cn (bT 3 3&&bJ 0 3&&decide ((0:Int)<=(0:Int)/\0<(↑E20:Int))) (.br (!(x0.1.getD (dF 1+dF 0) (RK.cj RK.ax)).An) (.lf (Sum.inr ([],{ee:=[],op:=0,l:=[],D8:=0,at_:=0,size:=0},false))) T6)) T6));let E25:=dF (x0.1.length:Int)-dF 2;let E8:=(↑E25:Int);let nk:=x0.1.getD (dF 2+dF 0) (RK.cj RK.ax);let oX:=x0.1.getD (dF 1) (RK.cj RK.ax);let E16:=bT 3 3&&bJ 0 3&&decide ((0:Int)<=(0:Int)/\0<(x0.1.length:Int));let E17:=bT 3 3&&bJ 0 3&&decide ((0:Int)<=(1:Int)/\1<(x0.1.length:Int));let E19:=bT 3 3&&bJ 0 3&&decide ((0:Int)<=(2:Int)/\2<=(x0.1.length:Int)/\(x0.1.length:Int)<=(x0.1.length:Int));let E28:=bT 3 3&&bJ 0 3&&decide ((0:Int)<=(0:Int)/\0<E8);let E30:=decide ((x0.1.length:Int)>=(2:Int));let T3:Tree ((List UInt8×Int)⊕(((List UInt8)×kz×Bool))):=.br ((x0.1.length:Int)==(0:Int)) (.lf (Sum.inr ([],{ee:=[],op:=0,l:=[],D8:=0,at_:=0,size:=0},true))) (.cn E16 (.cn (bT 3 3&&bJ 0 3&&decide ((0:Int)<=(1:Int)/\1<=(x0.1.length:Int)/\(x0.1.length:Int)<=(x0.1.length:Int))) (.br (decide (E9.text=[(46:UInt8)])) (.br E30 (.cn E17 (.br (!oX.An) (.cn E17 (.cn (decide (1+dK oX.text<=maxLen)) (.cn E19 (.an (NV ((46:UInt8)::oX.text)) (.lv (VM ([(46:UInt8)]++oX.text)) λ(FC:List UInt8×Bool)=>.br (!FC.2) (.lf (Sum.inr ([],{ee:=[],op:=0,l:=[],D8:=0,at_:=0,size:=0},false))) (let T7:Tree ((List UInt8×Int)⊕(((List UInt8)×kz×Bool))):=let E32:=dB E25 (dC (dF 2) x0.1);.an (NY E32 FC.1) (.lv (VN E32 FC.1) λ(Sc:List nD×Bool)=>.br (!Sc.2) (.lf (Sum.inr ([],{ee:=[],op:=0,l:=[],D8:=0,at_:=0,size:=0},false))) (.an (KR ((46:UInt8)::oX.text)) (.lv (Sb ([(46:UInt8)]++oX.text)) λ(EA:Int)=>.br (decide ([(46:UInt8)]++oX.text=[(46:UInt8),115,112,97,99,101])) (let H5:=bT 3 3&&bJ 0 3&&decide ((0:Int)<=(0:Int)/\0<(Sc.1.length:Int));.cn H5 (let E22:=Sc.1.getD (dF 0) (RK.cj RK.bb);.br (decide (E22.num<0)) (.lf (Sum.inr ([],{ee:=[],op:=0,l:=[],D8:=0,at_:=0,size:=0},false))) (.cn H5 (.br (decide (E22.num>1024)) (.lf (Sum.inr ([],{ee:=[],op:=0,l:=[],D8:=0,at_:=0,size:=0},false))) (.cn H5 (.lf (Sum.inr ([],{ee:=(46:UInt8)::oX.text,op:=EA,l:=Sc.1,D8:=0,at_:=0,size:=E22.num},true)))))))) (.lf (Sum.inr ([],{ee:=(46:UInt8)::oX.text,op:=EA,l:=Sc.1,D8:=0,at_:=0,size:=1},true))))));.br (decide (E8>(0:Int))) (.cn E28 (.br (!nk.An) (.lf (Sum.inr ([],{ee:=[],op:=0,l:=[],D8:=0,at_:=0,size:=0},false))) T7)) T7)))))) T1)) T1) T1)));.br E30 (.cn E17 (.br (decide (oX.text=[(58:UInt8)])) (.cn E16 (.cn E16 (.br (E9.kind !=1) (.lf (Sum.inr ([],{ee:=[],op:=0,l:=[],D8:=0,at_:=0,size:=0},false))) (.an (W5 E9.text) (.lv (Z22 E9.text) λ(x1:Bool)=>.br (!x1) (.lf (Sum.inr ([],{ee:=[],op:=0,l:=[],D8:=0,at_:=0,size:=0},false))) (.cn E19 (.br (E8==(0:Int)) (.lf (Sum.inr (E9.text,{ee:=[],op:=0,l:=[],D8:=0,at_:=0,size:=0},true))) (.cn E28 (.cn (bT 3 3&&bJ 0 3&&decide ((0:Int)<=(1:Int)/\1<=E8/\E8<=E8)) (let T2:Tree ((List UInt8×Int)⊕(((List UInt8)×kz×Bool))):=.an (NV nk.text) (.lv (VM nk.text) λ(x7:List UInt8×Bool)=>.br (!x7.2) (.lf (Sum.inr ([],{ee:=[],op:=0,l:=[],D8:=0,at_:=0,size:=0},false))) (let T4:Tree ((List UInt8×Int)⊕(((List UInt8)×kz×Bool))):=let E26:=dB (dF E8-dF 1) (dC (dF 2+dF 1) x0.1);.an (NY E26 x7.1) (.lv (VN E26 x7.1) λ(x8:List nD×Bool)=>.br (!x8.2) (.lf (Sum.inr ([],{ee:=[],op:=0,l:=[],D8:=0,at_:=0,size:=0},false))) (.an (KR nk.text) (.lv (Sb nk.text) λ(x9:Int)=>.br (decide (nk.text=[(108:UInt8),105])) (.lf (Sum.inr (E9.text,{ee:=nk.text,op:=x9,l:=x8.1,D8:=0,at_:=0,size:=2},true))) (.br (decide (nk.text=[(46:UInt8),115,112,97,99,101])) (let H6:=bT 3 3&&bJ 0 3&&decide ((0:Int)<=(0:Int)/\0<(x8.1.length:Int));.cn H6 (let E23:=x8.1.getD (dF 0) (RK.cj RK.bb);.br (decide (E23.num<0)) (.lf (Sum.inr ([],{ee:=[],op:=0,l:=[],D8:=0,at_:=0,size:=0},false))) (.cn H6 (.br (decide (E23.num>1024)) (.lf (Sum.inr ([],{ee:=[],op:=0,l:=[],D8:=0,at_:=0,size:=0},false))) (.cn H6 (.lf (Sum.inr (E9.text,{ee:=nk.text,op:=x9,l:=x8.1,D8:=0,at_:=0,size:=E23.num},true)))))))) (.lf (Sum.inr (E9.text,{ee:=nk.text,op:=x9,l:=x8.1,D8:=0,at_:=0,size:=1},true)))))));.br (decide ((↑(dF E8-dF 1):Int)>(0:Int))) (.cn (bT 3 3&&bJ 0 3&&decide ((0:Int)<=(0:Int)/\0<(↑(dF E8-dF 1):Int))) (.br (!(x0.1.getD (dF 2+dF 1+dF 0) (RK.cj RK.ax)).An) (.lf (Sum.inr ([],{ee:=[],op:=0,l:=[],D8:=0,at_:=0,size:=0},false))) T4)) T4));.br (decide (nk.text=[(46:UInt8)])) (.br (decide (E8>=(2:Int))) (let E29:=bT 3 3&&bJ 0 3&&decide ((0:Int)<=(1:Int)/\1<E8);.cn E29 (let nW:=x0.1.getD (dF 2+dF 1) (RK.cj RK.ax);.br (!nW.An) (.cn E29 (.cn (decide (1+dK nW.text<=maxLen)) (.cn (bT 3 3&&bJ 0 3&&decide ((0:Int)<=(2:Int)/\2<=E8/\E8<=E8)) (.an (NV ((46:UInt8)::nW.text)) (.lv (VM ([(46:UInt8)]++nW.text)) λ(x2:List UInt8×Bool)=>.br (!x2.2) (.lf (Sum.inr ([],{ee:=[],op:=0,l:=[],D8:=0,at_:=0,size:=0},false))) (let T5:Tree ((List UInt8×Int)⊕(((List UInt8)×kz×Bool))):=let E27:=dB (dF E8-dF 2) (dC (dF 2+dF 2) x0.1);.an (NY E27 x2.1) (.lv (VN E27 x2.1) λ(x3:List nD×Bool)=>.br (!x3.2) (.lf (Sum.inr ([],{ee:=[],op:=0,l:=[],D8:=0,at_:=0,size:=0},false))) (.an (KR ((46:UInt8)::nW.text)) (.lv (Sb ([(46:UInt8)]++nW.text)) λ(x4:Int)=>.br (decide ([(46:UInt8)]++nW.text=[(46:UInt8),115,112,97,99,101])) (let E18:=bT 3 3&&bJ 0 3&&decide ((0:Int)<=(0:Int)/\0<(x3.1.length:Int));.cn E18 (let E24:=x3.1.getD (dF 0) (RK.cj RK.bb);.br (decide (E24.num<0)) (.lf (Sum.inr ([],{ee:=[],op:=0,l:=[],D8:=0,at_:=0,size:=0},false))) (.cn E18 (.br (decide (E24.num>1024)) (.lf (Sum.inr ([],{ee:=[],op:=0,l:=[],D8:=0,at_:=0,size:=0},false))) (.cn E18 (.lf (Sum.inr (E9.text,{ee:=(46:UInt8)::nW.text,op:=x4,l:=x3.1,D8:=0,at_:=0,size:=E24.num},true)))))))) (.lf (Sum.inr (E9.text,{ee:=(46:UInt8)::nW.text,op:=x4,l:=x3.1,D8:=0,at_:=0,size:=1},true))))));.br (decide ((↑(dF E8-dF 2):Int)>(0:Int))) (.cn (bT 3 3&&bJ 0 3&&decide ((0:Int)<=(0:Int)/\0<(↑(dF E8-dF 2):Int))) (.br (!(x0.1.getD (dF 2+dF 2+dF 0) (RK.cj RK.ax)).An) (.lf (Sum.inr ([],{ee:=[],op:=0,l:=[],D8:=0,at_:=0,size:=0},false))) T5)) T5)))))) T2)) T2) T2)))))))))) T3)) T3)))
def Z3s s:=(N0 s).m
abbrev Qhf s:=(N0 s).p
def Z6w:bu:={
 α:=(List UInt8)×(Int)
 F:=λst a=>([(0,.str a.1),(2,(lk st 2)),(3,.ptr 0 0 0),(4,(lk st 4)),(5,.int i64 a.2)],[⟨true,175,6,.gen [[(cT st 3 0),(cT st 3 1),(cT st 3 2),(cT st 3 3),(cT st 3 4),(cT st 3 5)]]⟩])
 a0:=λst=>((lk st 0).toStr,(lk st 5).toInt)
 jn:=λst=>[]++[(rX st 3 0)]}
def Z0x:List (Nat×bu):=[(2,Z6w)]
def Zbu:bc:=mT 152 [] false [.one (.str)] [] (λa r=>N0 (iq a 0)) (λX=>.dt [.str (X.1),.agg (kz.cells (X.2.1)),.bool (X.2.2)]) (λX=>[])
theorem Z6:bj pG Zbu:=oT (.cons Z6c (.cons Qz8 (.cons Z3h (.cons Z5h (.cons Qkc (.nil)))))) Tryz.func152 Tryz.call152 [.sl (.av .bb) false] Z0x 3 (jP:=nofun)
def Qkh(l:List ob)(label:List UInt8)(z:(Int)):Prop:=0<=z/\z<=l.length
def Qcs(l:List ob)(label:List UInt8)(z:(Int)):Nat:=(l.length-z).toNat
def VO(l:List ob)(label:List UInt8):Tree (Int×Bool):=
.lp inferInstance (Qcs l label 0+1) ((nR RK.dk 2 l/\rE (label:List UInt8)/\rE (0:Int)/\True)/\True) 0 λ(v0:Int)=>.br (decide (v0<(l.length:Int))) (let E1:=bT 2 2&&bJ 0 2&&decide (0<=v0/\v0<(l.length:Int));.cn E1 (let E2:=l.getD v0.toNat (RK.cj RK.dk);.br (decide (E2.Name=label)) (.cn E1 (.lf (Sum.inr (E2.Addr,true)))) (.nx ((nR RK.dk 2 l/\rE (label:List UInt8)/\rE ((wrap i64 (v0+1)):Int)/\True)/\True) (Sum.inl (wrap i64 (v0+1)))))) (.lf (Sum.inr (0,false)))
def Qpo l label:=(VO l label).m
def GA(l:List ob)(label:List UInt8):Prop:=
l.length<=1000000000000
theorem Z0g(l:List ob)(label:List UInt8)(hw:GA l label):(VO l label).p:=by
 simp only[GA]at hw
 unfold Tree.p VO
 repeat'(first|refine ga (inv:=Qkh l label) (μ:=Qcs l label) ?_ (cO _) (λ_ _=>?_)|exact trivial|refine aa (λ_=>?_) (λ_=>?_)|refine ba ?_ ?_|refine cz ?_ ?_|refine ar (λ_ _=>?_)|refine fh ?_|refine ez ?_|refine And.intro ?_ ?_)
 all_goals((try simp only[Qkh,Qcs]at*);exact oI)
def Z4:bu:={
 α:=(Int)
 F:=λst a=>([(0,(lk st 0)),(1,(lk st 1)),(6,.int i64 a)],[])
 a0:=λst=>(lk st 6).toInt
 jn:=λst=>[]++[]}
def Qxg:List (Nat×bu):=[(2,Z4)]
def Z6b:bc:=mP 95 [] true [.one (.av .dk),.one (.str)] [] (λa r=>GA (jh .dk a 0) (iq a 1)) (λa r=>Qpo (jh .dk a 0) (iq a 1)) (λX=>.dt [.int .u32 (X.1),.bool (X.2)]) (λX=>[])
theorem Qo2:bj pG Z6b:=wc drawn mQ (.nil) Tryz.func95 Tryz.call95 (λa r=>VO (jh .dk a 0) (iq a 1)) [] Qxg 3 (hp:=λa r h=>Z0g (jh .dk a 0) (iq a 1) h)
def Z46(src:List UInt8)(z:(Int)×(Int)×(List ob)×(List kz)):Nat:=((Qxy src).length-z.2.1).toNat
def N1(src:List UInt8):Tree ((List ob)×(List kz)×tA):=
.br (decide ((src.length:Int)>(8192:Int))) (.lf ([],[],{Al:=300,nC:=0})) (.an (Qk5 src) (.lv (Qxy src) λ(x0:List (List UInt8))=>.lp inferInstance (Z46 src (0,0,[],[])+1) ((rZ/\True/\True/\rE (0:Int)/\True/\rE (0:Int)/\True)/\(rE (0:Int)/\rE (0:Int)/\True)/\rE (x0:List (RK.T RK.str))/\rE ([]:List (RK.T RK.dk))/\rE ([]:List (RK.T RK.ai))/\True) (0,0,[],[]) λ(v0:Int×Int×List ob×List kz)=>.br (decide (v0.2.1<(x0.length:Int))) (.cn (bT 1 1&&bJ 0 1&&decide (0<=v0.2.1/\v0.2.1<(x0.length:Int))) (let E3:=x0.getD v0.2.1.toNat (RK.cj RK.str);.an (Qhf E3) (.lv (Z3s E3) λ(x1:List UInt8×kz×Bool)=>.br (!x1.2.2) (.lf (Sum.inr ([],[],{Al:=301,nC:=wrap i64 (v0.2.1+1)}))) (let E1:=({Al:=305,nC:=wrap i64 (v0.2.1+1)}:tA);let E2:=decide (72*(v0.2.2.2.length+1)<=140737488355328);let E4:=decide (wrap i64 (v0.1+x1.2.1.size)>1024);.br (!decide (x1.1=[])) (.an (GA v0.2.2.1 x1.1) (.lv (Qpo v0.2.2.1 x1.1) λ(x2:Int×Bool)=>.br x2.2 (.lf (Sum.inr ([],[],{Al:=303,nC:=wrap i64 (v0.2.1+1)}))) (.cn (decide (24*(v0.2.2.1.length+1)<=140737488355328)) (let E5:=({Name:=x1.1,Addr:=wrap u32 (wrap i64 (4*v0.1))}:ob);.br (!decide (x1.2.1.ee=[])) (.cn E2 (.br E4 (.lf (Sum.inr ([],[],E1))) (.nx ((rZ/\True/\True/\rE ((wrap i64 (v0.1+x1.2.1.size)):Int)/\True/\rE ((wrap i64 (v0.2.1+1)):Int)/\True)/\(rE (0:Int)/\rE (0:Int)/\True)/\rE (x0:List (RK.T RK.str))/\rE ((v0.2.2.1++[{Name:=x1.1,Addr:=wrap u32 (wrap i64 (4*v0.1))}]):List (RK.T RK.dk))/\rE ((v0.2.2.2++[{ee:=x1.2.1.ee,op:=x1.2.1.op,l:=x1.2.1.l,D8:=wrap i64 (v0.2.1+1),at_:=v0.1,size:=x1.2.1.size}]):List (RK.T RK.ai))/\True) (Sum.inl (wrap i64 (v0.1+x1.2.1.size),wrap i64 (v0.2.1+1),v0.2.2.1++[E5],v0.2.2.2++[{ee:=x1.2.1.ee,op:=x1.2.1.op,l:=x1.2.1.l,D8:=wrap i64 (v0.2.1+1),at_:=v0.1,size:=x1.2.1.size}]))))) (.br (decide (v0.1>1024)) (.lf (Sum.inr ([],[],E1))) (.nx ((rZ/\True/\True/\rE v0.1/\True/\rE ((wrap i64 (v0.2.1+1)):Int)/\True)/\(rE (0:Int)/\rE (0:Int)/\True)/\rE (x0:List (RK.T RK.str))/\rE ((v0.2.2.1++[{Name:=x1.1,Addr:=wrap u32 (wrap i64 (4*v0.1))}]):List (RK.T RK.dk))/\rE v0.2.2.2/\True) (Sum.inl (v0.1,wrap i64 (v0.2.1+1),v0.2.2.1++[E5],v0.2.2.2)))))))) (.br (!decide (x1.2.1.ee=[])) (.cn E2 (.br E4 (.lf (Sum.inr ([],[],E1))) (.nx ((rZ/\True/\True/\rE ((wrap i64 (v0.1+x1.2.1.size)):Int)/\True/\rE ((wrap i64 (v0.2.1+1)):Int)/\True)/\(rE (0:Int)/\rE (0:Int)/\True)/\rE (x0:List (RK.T RK.str))/\rE v0.2.2.1/\rE ((v0.2.2.2++[{ee:=x1.2.1.ee,op:=x1.2.1.op,l:=x1.2.1.l,D8:=wrap i64 (v0.2.1+1),at_:=v0.1,size:=x1.2.1.size}]):List (RK.T RK.ai))/\True) (Sum.inl (wrap i64 (v0.1+x1.2.1.size),wrap i64 (v0.2.1+1),v0.2.2.1,v0.2.2.2++[{ee:=x1.2.1.ee,op:=x1.2.1.op,l:=x1.2.1.l,D8:=wrap i64 (v0.2.1+1),at_:=v0.1,size:=x1.2.1.size}]))))) (.br (decide (v0.1>1024)) (.lf (Sum.inr ([],[],E1))) (.nx ((rZ/\True/\True/\rE v0.1/\True/\rE ((wrap i64 (v0.2.1+1)):Int)/\True)/\(rE (0:Int)/\rE (0:Int)/\True)/\rE (x0:List (RK.T RK.str))/\rE v0.2.2.1/\rE v0.2.2.2/\True) (Sum.inl (v0.1,wrap i64 (v0.2.1+1),v0.2.2.1,v0.2.2.2))))))))) (.lf (Sum.inr (v0.2.2.1,v0.2.2.2,{Al:=0,nC:=0})))))
def Z2v src:=(N1 src).m
abbrev Qmg src:=(N1 src).p
def Zh:bu:={
 α:=(Int)×(Int)×(List ob)×(List kz)
 F:=λst a=>([(4,.ptr 0 0 0),(5,.all 2),(6,.all 3),(7,.int i64 a.1),(8,.all 1),(9,.int i64 a.2.1)],[⟨true,112,2,.gen [[(cT st 4 0),(cT st 4 1)]]⟩,⟨false,9,1,pj st.rows (rN st 8)⟩,⟨false,238,2,.av RK.dk a.2.2.1⟩,⟨false,175,6,.av RK.ai a.2.2.2⟩])
 a0:=λst=>((lk st 7).toInt,(lk st 9).toInt,(tF RK.dk st.rows (rN st 5)),(tF RK.ai st.rows (rN st 6)))
 jn:=λst=>[]++[(rX st 4 0),(rX st 8 1),(rX st 5 2),(rX st 6 3)]}
def Z7r:List (Nat×bu):=[(8,Zh)]
def Zja:bc:=mT 94 [] false [.one (.str)] [] (λa r=>N1 (iq a 0)) (λX=>.dt [.all 0,.all 1,.agg (tA.cells (X.2.2))]) (λX=>[⟨false,238,2,.av .dk (X.1)⟩,⟨false,175,6,.av .ai (X.2.1)⟩])
theorem Zef:bj pG Zja:=oT (.cons Zcw (.cons Z6 (.cons Qo2 (.nil)))) Tryz.func94 Tryz.call94 [.row 238 2 (.av .dk),.row 175 6 (.av .ai)] Z7r 3 (jP:=nofun)
def N3(st:kz)(v:Int):Tree (Int×Bool):=
.lv (oR st.op) λ(x0:Int)=>.lv (Xt x0) λ(x1:Int×Int)=>let E7:=st.l.getD (dF 0) (RK.cj RK.bb);let E8:=st.l.getD (dF 1) (RK.cj RK.bb);let E9:=bT 3 3&&bJ 0 3&&decide ((0:Int)<=(0:Int)/\0<(st.l.length:Int));let nk:=bT 3 3&&bJ 0 3&&decide ((0:Int)<=(1:Int)/\1<(st.l.length:Int));let nW:=st.l.getD (dF 2) (RK.cj RK.bb);let oX:=bT 3 3&&bJ 0 3&&decide ((0:Int)<=(2:Int)/\2<(st.l.length:Int));.br (x0==2) (.cn E9 (.cn nk (.cn oX (let T2:Tree ((Int×Bool)):=.br (decide (0<x1.1)) (.lf (0,false)) (.br (decide (0>x1.2)) (.lf (0,false)) (.lv (oQ {Op:=st.op,A:=E7.kF,B:=E8.kF,C:=nW.kF,bn:=wrap i32 0}) λ(x2:Int×Bool)=>.lf (x2.1,x2.2)));.br (x0==2) T2 (.br (x0==1) T2 (.br (decide (v<x1.1)) (.lf (0,false)) (.br (decide (v>x1.2)) (.lf (0,false)) (.lv (oQ {Op:=st.op,A:=E7.kF,B:=E8.kF,C:=nW.kF,bn:=wrap i32 v}) λ(x4:Int×Bool)=>.lf (x4.1,x4.2))))))))) (let T1:Tree ((Int×Bool)):=.br (decide (x0>=6)) (.cn E9 (let T5:Tree ((Int×Bool)):=.br (decide (0<x1.1)) (.lf (0,false)) (.br (decide (0>x1.2)) (.lf (0,false)) (.lv (oQ {Op:=st.op,A:=E7.kF,B:=0,C:=0,bn:=wrap i32 0}) λ(x8:Int×Bool)=>.lf (x8.1,x8.2)));.br (x0==2) T5 (.br (x0==1) T5 (.br (decide (v<x1.1)) (.lf (0,false)) (.br (decide (v>x1.2)) (.lf (0,false)) (.lv (oQ {Op:=st.op,A:=E7.kF,B:=0,C:=0,bn:=wrap i32 v}) λ(kI:Int×Bool)=>.lf (kI.1,kI.2))))))) (.br (x0 !=1) (.cn E9 (.cn nk (let T3:Tree ((Int×Bool)):=.br (decide (0<x1.1)) (.lf (0,false)) (.br (decide (0>x1.2)) (.lf (0,false)) (.lv (oQ {Op:=st.op,A:=E7.kF,B:=E8.kF,C:=0,bn:=wrap i32 0}) λ(mz:Int×Bool)=>.lf (mz.1,mz.2)));.br (x0==2) T3 (.br (x0==1) T3 (.br (decide (v<x1.1)) (.lf (0,false)) (.br (decide (v>x1.2)) (.lf (0,false)) (.lv (oQ {Op:=st.op,A:=E7.kF,B:=E8.kF,C:=0,bn:=wrap i32 v}) λ(lW:Int×Bool)=>.lf (lW.1,lW.2)))))))) (let T6:Tree ((Int×Bool)):=.br (decide (0<x1.1)) (.lf (0,false)) (.br (decide (0>x1.2)) (.lf (0,false)) (.lv (oQ {Op:=st.op,A:=0,B:=0,C:=0,bn:=wrap i32 0}) λ(uE:Int×Bool)=>.lf (uE.1,uE.2)));.br (x0==2) T6 (.br (x0==1) T6 (.br (decide (v<x1.1)) (.lf (0,false)) (.br (decide (v>x1.2)) (.lf (0,false)) (.lv (oQ {Op:=st.op,A:=0,B:=0,C:=0,bn:=wrap i32 v}) λ(uF:Int×Bool)=>.lf (uF.1,uF.2)))))));.br (decide (st.op>=32)) (.br (decide (st.op<=36)) (.cn E9 (.cn oX (.cn nk (let T4:Tree ((Int×Bool)):=.br (decide (0<x1.1)) (.lf (0,false)) (.br (decide (0>x1.2)) (.lf (0,false)) (.lv (oQ {Op:=st.op,A:=E7.kF,B:=nW.kF,C:=0,bn:=wrap i32 0}) λ(x5:Int×Bool)=>.lf (x5.1,x5.2)));.br (x0==2) T4 (.br (x0==1) T4 (.br (decide (E8.num<x1.1)) (.lf (0,false)) (.br (decide (E8.num>x1.2)) (.lf (0,false)) (.lv (oQ {Op:=st.op,A:=E7.kF,B:=nW.kF,C:=0,bn:=wrap i32 E8.num}) λ(x7:Int×Bool)=>.lf (x7.1,x7.2))))))))) T1) T1)
def VP st v:=(N3 st v).m
abbrev N2 st v:=(N3 st v).p
def Zku:bc:=mT 97 [] true [.agg kz.sig,.one (.int .i64)] [] (λa r=>N3 (kz.of (aC a 0)) (aq a 1)) (λX=>.dt [.int .u32 (X.1),.bool (X.2)]) (λX=>[])
theorem Zfx:bj pG Zku:=oT (.cons R7 (.cons Qrr (.cons Qk3 (.nil)))) Tryz.func97 Tryz.call97 [] [] 2

import Derived.Test.YtaemmjbkndlkeaaGreatMigrateContinuesZt
open List renaming set->dB,mem_cons->cQ,not_mem_nil->cR
open Nat renaming blt->bN,beq->bX,lt_succ_self->cN,le_refl->aX,zero_le->bC
open Int renaming pow_pos->dI,le_of_lt->dK,fdiv_eq_ediv_of_nonneg->dJ,tmod->cZ,mul_tmod_right->gQ,mul_tdiv_cancel_left->gR,tdiv->eF,tdiv_eq_ediv_of_nonneg->eG,emod_eq_of_lt->dH,lt_of_lt_of_le->gS,le_of_eq->gT
open BitVec renaming ofInt->dR,toNat_and->dU
set_option maxRecDepth 100000
set_option linter.all false
namespace Go.Proofs.YtaemmjbkndlkeaaGreat
open Go Go.GD
open Go.IntKind(wrap i64 u32 u64 u8 i32 wrap_i64 wrap_u32 wrap_u64 wrap_u8 wrap_i32)
variable {P:Nat}{b f root size v va x:Int}{c:bq}{d:fw}{i:gv}{m:List Int}{n:gw}
def U(x:Int):Prop:=0<=x/\x<4294967296
theorem fk(x:Int):U (u32.wrap x):=by rw[wrap_u32];unfold U;omega
theorem KU(x y:Int):U (ba .u32 x y):=fk _
theorem nu(x y:Int):U (iH .u32 x y):=fk _
theorem gd:U 0:=⟨by omega,by omega⟩
theorem Eg(h:∀w∈m,U w)(hv:U v)(i:Nat):∀w∈m.set i v,U w:=by
 intro w hw
 rcases List.mem_or_eq_of_mem_set hw with h1|h1
 ·exact h w h1
 ·rw[h1];exact hv
structure ej(P:Nat)(m:List Int):Prop where
 len:m.length=32*P
 p1:0<=P
 p2:P<=32
 u:∀w∈m,U w
structure w4(d:fw):Prop where
 block:U d.C9
 frame:U d.Frame
 j9:U d.C5
 ka:U d.C6
structure ua(n:gw):Prop where
 frame:U n.Frame
 len:U n.F7
 buffer:U n.D4
 Gj:U n.F9
theorem AJ{l:List Int}(h:∀w∈l,U w)(i:Nat):U (l.getD i 0):=by
 by_cases hi:i<l.length
 ·have:l.getD i 0=l[i]:=by simp[List.getD,hi]
  rw[this];exact h _ (List.getElem_mem hi)
 ·have:l.getD i 0=0:=by simp[List.getD,List.getElem?_eq_none (by omega:l.length<=i)]
  rw[this];exact gd
structure iI(c:bq):Prop where
 x:∀w∈iv.l c.X,U w
 pc:U c.Pc
 jj:∀w∈A8.l c.C2,U w
theorem WM{X:iv Int}(h:∀w∈iv.l X,U w)(hv:U v)(i:Nat):∀w∈iv.l (iv.of 0 (dB (iv.l X) i v)),U w:=by
 have hs:=Eg h hv i
 intro w hw
 simp only[iv.l,iv.of,cQ,cR,or_false]at hw
 repeat(first|(rcases hw with rfl|hw;· exact AJ hs _)|(subst hw;exact AJ hs _))
theorem Zi{X:A8 Int}(h:∀w∈A8.l X,U w)(hv:U v)(i:Nat):∀w∈A8.l (A8.of 0 (dB (A8.l X) i v)),U w:=by
 have hs:=Eg h hv i
 intro w hw
 simp only[A8.l,A8.of,cQ,cR,or_false]at hw
 repeat(first|(rcases hw with rfl|hw;· exact AJ hs _)|(subst hw;exact AJ hs _))
section
variable {c:bq} (h:iI c)
include h
theorem iI.a(i:Nat):U ((A8.l c.C2).getD i 0):=AJ h.jj i
theorem iI.r(i:Nat):U ((iv.l c.X).getD i 0):=AJ h.x i
theorem iI.a0:U c.C2.a0:=h.a 0
theorem iI.a1:U c.C2.a1:=h.a 1
theorem iI.a2:U c.C2.a2:=h.a 2
theorem iI.a3:U c.C2.a3:=h.a 3
theorem iI.a4:U c.C2.a4:=h.a 4
theorem iI.a5:U c.C2.a5:=h.a 5
theorem iI.a6:U c.C2.a6:=h.a 6
theorem iI.a7:U c.C2.a7:=h.a 7
theorem iI.Ap{p:Int}(hp:U p):iI {X:=c.X,Pc:=p,C2:=c.C2}:=⟨h.x,hp,h.jj⟩
end
section
variable {α β:Type} {W:β->Prop} {t:Tree α} {Q:α->Prop} {k:α->Tree β}
theorem cy(hq:t.w Q)(g:∀x,Q x->(k x).w W):(Tree.an t.p (Tree.lv t.m k)).w W:=⟨(Tree.pp hq).1,λy hy=>g y (by rw[hy];exact(Tree.pp hq).2)⟩
theorem Sx(hq:t.w Q)(g:∀x,Q x->(k x).w W):(Tree.lv t.m k).w W:=λy hy=>g y (by rw[hy];exact t.post hq)
end
theorem rc{r:Int}(h:0<=r/\r<16):(bN 0 1&&decide (0<=r/\r<((16:Nat):Int)))=true:=by simp[bN];omega
theorem w7{a:Int}(h:U a)(b:Int):U (bb .u32 a b):=by
 unfold bb U
 obtain⟨h1,h2⟩:=h
 have hp:(0:Int)<2^(min b.toNat u32.bits):=dI (by decide)
 have:=Int.fdiv_nonneg h1 (dK hp)
 refine⟨this,?_⟩
 rw[dJ _ (dK hp)]
 have h3:=Int.ediv_le_self (2^(min b.toNat u32.bits)) h1
 omega
structure sj(i:gv):Prop where
 a:0<=i.A/\i.A<16
 b:0<=i.B/\i.B<16
 c:0<=i.C/\i.C<16
 jj:i.Op=58->0<=i.bz/\i.bz<8
theorem W0(h:ej P m):jL m=P:=by
 obtain⟨h1,h2,h3,_⟩:=h
 simp only[jL,Gf,Tree.m]
 have e:(m.length:Int)=32*P:=by omega
 rw[e]
 have e1:(cZ (32*(P:Int)) 32 !=0)=false:=by simp[gQ]
 have e2:decide ((32*(P:Int))>1024)=false:=dN (by omega)
 rw[e1,e2]
 simp only[cond_false]
 rw[gR _ (by decide),wrap_i64];omega
theorem zaa(n:Int):(QI n).w (λ_=>True):=by
 unfold QI
 exact ab (λ_=>trivial) (λ_=>ax (dY (by rw[wrap_u64];omega)) trivial)
theorem L6(w low n:Int):(QJ w low n).w U:=by
 unfold QJ
 exact ab (λ_=>gd) (λ_=>ab (λ_=>gd) (λ_=>ab (λ_=>gd) (λ_=>ax (dY (by rw[wrap_u64];omega)) (cy (zaa n) λ_ _=>KU _ _))))
theorem Zse{w:Int}(hw:U w)(low n v:Int):(QK w low n v).w U:=by
 have h0:decide (0<=wrap u64 low)=true:=dY (by rw[wrap_u64];omega)
 unfold QK
 exact ab (λ_=>hw) (λ_=>ab (λ_=>hw) (λ_=>ab (λ_=>hw) (λ_=>cy (zaa n) λ_ _=>ax h0 (ax h0 (nu _ _)))))
theorem WH(hx:U x)(n:Int):(QL x n).w U:=by
 have h0:∀y,decide (0<=wrap u64 y)=true:=λy=>dY (by rw[wrap_u64];omega)
 unfold QL
 exact ab (λ_=>gd) (λ_=>ab (λ_=>hx) (λ_=>ax (h0 _) (ax (h0 _) (fk _))))
section
variable {P:Nat} {m:List Int} (h:ej P m)
include h
theorem Gg:nH m:=by
 have:=h.len
 have:=h.p2
 show m.length<=35184372088832
 omega
theorem Zj2{a:Int}(ha:U a)(hs:size=1\/size=4):(Is m a size).w (λb=>b=true->a+size<=128*P):=by
 have hp:=W0 h
 have h2:=h.p2
 obtain⟨a1,a2⟩:=ha
 have e:decide (wrap u32 size≠0)=true:=by rcases hs with rfl|rfl<;>decide
 have l:∀x,x=jL m->decide (wrap u64 (wrap u64 a+wrap u64 size)<=wrap u64 (wrap u64 x*128))=true->a+size<=128*P:=λx hx hd=>by
  rw[hx,hp]at hd
  have:=oY hd
  simp only[wrap_u64]at this
  omega
 unfold Is
 refine ab (λ_=>ab (λ_=>λh=>by cases h) (λ_=>?_)) (λ_=>?_)<;>
 exact ax e (ab (λ_=>λh=>by cases h) (λ_=>aq λx hx=>l x hx))
theorem Fl{a:Int}(ha:U a)(hl:a<128*P):(bX 1 1&&bN 0 1&&decide (0<=wrap u32 (eF a 4)/\wrap u32 (eF a 4)<(m.length:Int)))=true:=by
 obtain⟨a1,a2⟩:=ha
 have e:wrap u32 (eF a 4)=a/4:=by rw[wrap_u32,eG a1];omega
 have:=h.len
 rw[e];simp[bN];omega
theorem Ij{a:Int}(ha:U a)(hs:size=1\/size=4):(KP m a size).w (λr=>U r.1/\(r.2=true->a<128*P)):=by
 unfold KP
 refine cy (Zj2 h ha hs) λx hx=>ab (λ_=>⟨gd,λh=>by cases h⟩) (λhb=>?_)
 have hl:=hx (by simpa using hb)
 have hl:a<128*P:=by omega
 exact ax (Fl h ha hl) (ab (λ_=>cy (L6 _ _ _) λy hy=>⟨hy,λ_=>hl⟩) (λ_=>⟨AJ h.u _,λ_=>hl⟩))
theorem SK{a:Int}(ha:U a)(hs:size=1\/size=4)(hv:U v):(KR m a size v).w (λr=>ej P r.1):=by
 have st:∀i v,U v->ej P (m.set i v):=λi v hv=>⟨by simp[h.len],h.p1,h.p2,Eg h.u hv i⟩
 have jg:ko m=m:=rfl
 unfold KR
 refine c7 (Gg h) (aq λx0 nG=>?_)
 rw[jg]at nG;subst nG
 refine cy (Zj2 h ha hs) λx hx=>ab (λ_=>h) (λhb=>?_)
 have hl:=hx (by simpa using hb)
 have hl:a<128*P:=by omega
 exact ab (λ_=>ax (Fl h ha hl) (cy (Zse (AJ h.u _) _ _ _) λy hy=>ax (Fl h ha hl) (st _ _ hy))) (λ_=>ax (Fl h ha hl) (st _ _ hv))
end
theorem ZT{r:Int}{used:Bool}(h:KJ r used=true):0<=r/\r<16:=by
 simp only[KJ,SO,Tree.m]at h
 cases used
 ·have h:(r==0)=true:=h
  have:=eq_of_beq h;omega
 ·cases h1:decide (r>=0)<;>rw[h1]at h
  ·cases h
  ·have h1:=oY h1
   have h:=oY h
   omega
theorem xz(h:Iq i=true):sj i:=by
 have no:false=true->sj i:=λh=>by cases h
 refine(Tree.post (NC i) (W:=λb=>b=true->sj i) ?_) h
 unfold NC
 refine aq λx0 h0=>ab (λ_=>aq λx1 h1=>ab (λb1=>aq λx2 h2=>ab (λb2=>aq λx3 h3=>ab (λb3=>ab (λb4=>λb5=>?_) (λ_=>no)) (λ_=>no)) (λ_=>no)) (λ_=>no)) (λ_=>no)
 have b4:=oY b4
 have b5:=oY b5
 refine⟨ZT (h1.symm.trans b1),ZT (h2.symm.trans b2),ZT (h3.symm.trans b3),λe=>?_⟩
 rw[e]at h0
 have h0:x0=({a:=true,b:=false,c:=false,low:=0,F5:=7},true):=h0
 subst h0
 simp at b4 b5;omega
theorem WJ(w:Int):(KL w).w (λr=>r.2=true->sj r.1):=by
 have no:∀{p:Prop},false=true->p:=λh=>by cases h
 have l:∀i,(Tree.lv (Iq i) λx=>.br (!x) (.lf ((⟨0,0,0,0,0⟩:gv),false)) (.lf (i,true))).w (λr=>r.2=true->sj r.1):=λi=>aq λx hx=>ab (λ_=>no) (λhb=>λ_=>xz (hx.symm.trans (by simpa using hb)))
 unfold KL
 exact cy (L6 _ _ _) λx0 _=>cy (L6 _ _ _) λx1 _=>cy (L6 _ _ _) λx2 _=>aq λx3 _=>ab (λ_=>no) (λ_=>cy (L6 _ _ _) λx4 h4=>ab (λ_=>l _) (λ_=>ab (λ_=>cy (WH h4 _) λx6 _=>l _) (λ_=>l _)))
section
variable {P:Nat} {m:List Int} (h:ej P m)
include h
theorem zV(hf:U f):NI m f=decide (f<P):=by
 have:=W0 h
 obtain⟨h1,h2⟩:=hf
 have h3:=h.p2
 simp only[NI,ZU,Tree.m,ee,this]
 congr 1
 rw[wrap_u64,wrap_u64,dH h1 (by omega),dH (by omega) (by omega)]
theorem qaw(hv:U va)(access:Int):(KT m root va access).w (λt=>U t.Addr/\U t.G1):=by
 have bad:U (0:Int)/\U (0:Int):=⟨gd,gd⟩
 have fr:∀x,(QM x).w U:=λx=>by
  unfold QM
  exact cy (L6 _ _ _) λy hy=>hy
 unfold KT
 exact aq λx0 _=>ab (λ_=>bad) (λ_=>ab (λ_=>bad) (λ_=>aq λx1 _=>ab (λ_=>bad) (λ_=>cy (Ij h (fk _) (.inr rfl)) λx2 _=>ab (λ_=>bad) (λ_=>aq λx3 _=>ab (λ_=>bad) (λ_=>cy (fr _) λx4 _=>aq λx5 _=>ab (λ_=>bad) (λ_=>cy (fr _) λx6 _=>⟨fk _,fk _⟩))))))
theorem yV{a:Int}(ha:U a)(access:Int):(KV m a access).w (ej P):=by
 have jg:ko m=m:=rfl
 unfold KV
 exact cy (Ij h ha (.inr rfl)) λx0 _=>ab (λ_=>c7 (Gg h) (aq λx1 h1=>by rw[h1,jg];exact h)) (λ_=>ab (λ_=>cy (SK h ha (.inr rfl) (nu _ _)) λx hx=>hx) (λ_=>cy (SK h ha (.inr rfl) (nu _ _)) λx hx=>hx))
theorem Ny(hv:U va)(hs:size=1\/size=4)(access:Int):(K1 c m va size access).w (λr=>U r.1/\ej P r.2.1):=by
 have jg:ko m=m:=rfl
 have e:decide (wrap u32 size≠0)=true:=by rcases hs with rfl|rfl<;>decide
 have cl:∀(K:List Int->Int×List Int×Int),(∀x,x=m->U (K x).1/\ej P (K x).2.1)->(Tree.an (nH m) (.lv (ko m) λx=>.lf (K x))).w (λr=>U r.1/\ej P r.2.1):=λK hK=>c7 (Gg h) (aq λx hx=>hK x (hx.trans jg))
 have z:∀(k:Nat) (x:List Int),x=m->U (0:Int)/\ej P x:=λ_ x hx=>⟨gd,hx▸h⟩
 have v:∀x,x=m->U va/\ej P x:=λx hx=>⟨hv,hx▸h⟩
 have main:∀(x0:Int×Bool),(Tree.cn (decide (wrap u32 size≠0)) (.br (cZ va (wrap u32 size) !=0) (.an (nH m) (.lv (ko m) λx3=>.lf ((0:Int),x3,(3:Int)))) (.lv (Iu c) λx4=>.br (!x4) (.br (ba u32 c.C2.a0 4 !=0) (.an (Qkl m c.C2.a6 va access) (.lv (SS m c.C2.a6 va access) λx5=>.br (x5.G0 !=0) (.an (nH m) (.lv (ko m) λx6=>.lf (0,x6,x5.G0))) (.an (Qhq m x5.G1 access) (.lv (NK m x5.G1 access) λx7=>.lf (x5.Addr,x7,0))))) (.an (Jo m va size) (.lv (BN m va size) λx8=>.br (!x8.2) (.an (nH m) (.lv (ko m) λx9=>.lf (0,x9,x0.1))) (.an (nH m) (.lv (ko m) λkZ=>.lf (va,kZ,0)))))) (.an (Jo m va size) (.lv (BN m va size) λmz=>.br (!mz.2) (.an (nH m) (.lv (ko m) λpL=>.lf (0,pL,x0.1))) (.an (nH m) (.lv (ko m) λAq=>.lf (va,Aq,0)))))))).w (λr=>U r.1/\ej P r.2.1):=λx0=>
  ax e (ab (λ_=>cl _ (z 0)) (λ_=>aq λx4 _=>ab (λ_=>ab (λ_=>cy (qaw h hv access) λx5 hx=>ab (λ_=>cl _ (z 0)) (λ_=>cy (yV h hx.2 access) λx7 h7=>⟨hx.1,h7⟩)) (λ_=>cy (Ij h hv hs) λx8 _=>ab (λ_=>cl _ (z 0)) (λ_=>cl _ v))) (λ_=>cy (Ij h hv hs) λx8 _=>ab (λ_=>cl _ (z 0)) (λ_=>cl _ v))))
 unfold K1
 exact aq λx0 _=>ab (λ_=>cl _ (z 0)) (λ_=>ab (λ_=>ab (λ_=>cl _ (z 0)) (λ_=>main x0)) (λ_=>main x0))
theorem WI(hc:iI c):(QN c m).w (λr=>U r.1/\ej P r.2.1):=by
 unfold QN
 exact cy (Ny h hc.pc (.inr rfl) 1) λx0 h0=>ab (λ_=>⟨gd,h0.2⟩) (λ_=>cy (Ij h0.2 h0.1 (.inr rfl)) λx1 h1=>⟨h1.1,h0.2⟩)
end
theorem zaw{s a b:Int}:U (w6 s a b):=by
 refine Tree.post (UP s a b) (W:=U) ?_
 unfold UP
 exact ab (λ_=>fk _) (λ_=>fk _)
section
variable {c:bq} (h:iI c)
include h
theorem Im(k:Int)(hb:U b):iI (pU c k b):=by
 refine(Tree.post (NM c k b) (W:=iI) ?_)
 unfold NM
 refine aq λ_ _=>aq λ_ _=>⟨h.x,h.a1,?_⟩
 intro w hw
 simp only[A8.l,cQ,cR,or_false]at hw
 rcases hw with rfl|rfl|rfl|rfl|rfl|rfl|rfl|rfl
 ·exact fk _
 ·exact h.a1
 ·exact h.pc
 ·exact fk _
 ·exact hb
 ·exact h.a5
 ·exact h.a6
 ·exact h.a7
theorem zz:iI (KD c):=by
 refine(Tree.post (NO c) (W:=iI) ?_)
 unfold NO
 refine aq λx0 _=>aq λx1 h1=>⟨h.x,h.a2,?_⟩
 intro w hw
 simp only[A8.l,cQ,cR,or_false]at hw
 rcases hw with rfl|rfl|rfl|rfl|rfl|rfl|rfl|rfl
 ·rw[h1];exact zaw
 ·exact h.a1
 ·exact h.a2
 ·exact h.a3
 ·exact h.a4
 ·exact h.a5
 ·exact h.a6
 ·exact h.a7
theorem Dq{r:Int}(hr:0<=r/\r<16)(hv:U v):(Ek c r v).w iI:=by
 unfold Ek
 exact ab (λ_=>ax (rc hr) ⟨WM h.x hv _,h.pc,h.jj⟩) (λ_=>h)
theorem Zpg(k:Int)(hv:U v):(Ih c k v).w iI:=by
 have ok:∀i v,U v->iI {X:=c.X,Pc:=c.Pc,C2:=A8.of 0 (dB (A8.l c.C2) i v)}:=λi v hv=>⟨h.x,h.pc,Zi h.jj hv i⟩
 unfold Ih
 repeat'(first
  |exact h
  |exact ok _ _ (fk _)
  |exact ok _ _ hv
  |refine ab (λhk=>?_) (λ_=>?_)
  |refine ax (by rw[eq_of_beq (by assumption:(k==_)=true)];decide) ?_)
end
theorem Zl{a b:Int}(ha:U a)(hb:U b):(KZ a b).w (λr=>U r.1/\U r.2):=by
 have u1:U 4294967295:=⟨by omega,by omega⟩
 unfold KZ
 refine ab (λ_=>⟨u1,ha⟩) (λh=>?_)
 have h:¬b=0:=by simpa using h
 obtain⟨b1,b2⟩:=hb
 have hc:decide (wrap i32 b≠0)=true:=dY (by rw[wrap_i32];omega)
 exact ab (λ_=>ab (λ_=>⟨ha,gd⟩) (λ_=>ax hc (ax hc ⟨fk _,fk _⟩))) (λ_=>ax hc (ax hc ⟨fk _,fk _⟩))
theorem xaw(b:Bool):U (UQ b):=by cases b<;>exact⟨by decide,by decide⟩
theorem KF(op:Int){a b:Int}(ha:U a)(hb:U b):(QO op a b).w (λr=>U r.1):=by
 unfold QO
 repeat'(first
  |refine ab (λ_=>?_) (λ_=>?_)
  |exact cy (Zl ha hb) λx hx=>hx.1
  |exact cy (Zl ha hb) λx hx=>hx.2
  |exact aq λx hx=>(by rw[hx];exact xaw _)
  |refine bh ?_)
 all_goals(first
  |exact fk _
  |exact w7 ha _
  |exact gd)
theorem SJ(op:Int):Jp op=1\/Jp op=4:=by
 simp only[Jp,ZV,Tree.m]
 cases op==32<;>cases op==35<;>simp
section
variable {c:bq} (h:iI c) {i:gv} (hi:sj i)
include h hi
theorem Zr1:(El c i).w (λr=>iI r.1/\U r.2.Value):=by
 have k:∀{x:bq} {p:Int},iI x->U p->iI {X:=x.X,Pc:=p,C2:=x.C2}:=λhx hp=>⟨hx.x,hp,hx.jj⟩
 unfold El
 refine ax (rc hi.a) (ax (rc hi.b) ?_)
 repeat'(first
  |refine ab (λ_=>?_) (λ_=>?_)
  |exact cy (Dq h hi.a (fk _)) λx hx=>⟨k hx (fk _),gd⟩
  |exact aq λx _=>ab (λ_=>⟨k h (fk _),gd⟩) (λ_=>⟨k h (fk _),gd⟩)
  |exact aq λx hx=>⟨by rw[hx];exact Im h _ gd,gd⟩
  |exact aq λx hx=>⟨by rw[hx];exact zz h,gd⟩
  |exact ax (by have:=hi.jj (by simp_all);simp[bN];omega) (cy (Dq h hi.a (h.a _)) λx hx=>⟨k hx (fk _),gd⟩)
  |exact cy (Zpg h _ (h.r _)) λx hx=>⟨k hx (fk _),gd⟩
  |refine ax (rc hi.c) ?_
  |exact cy (KF _ (h.r _) (fk _)) λy hy=>cy (Dq h hi.a hy) λx hx=>⟨k hx (fk _),gd⟩
  |exact cy (KF _ (h.r _) (h.r _)) λy hy=>cy (Dq h hi.a hy) λx hx=>⟨k hx (fk _),gd⟩
  |refine bh ?_)
 all_goals(first
  |exact⟨k h (fk _),gd⟩
  |exact⟨k h (fk _),h.r _⟩)
theorem Z70(hm:ej P m):(Ii c m i).w (λr=>iI r.1/\ej P r.2):=by
 have w:=SJ i.Op
 unfold Ii
 refine ax (rc hi.b) (aq λx0 h0=>?_)
 rw[<-h0]at w
 refine cy (Ny hm (fk _) w 2) λx1 h1=>ab (λ_=>aq λy hy=>⟨by rw[hy];exact Im h _ (fk _),h1.2⟩) (λ_=>aq λx3 h3=>?_)
 rw[h0,<-h3]at w
 exact cy (Ij h1.2 h1.1 w) λx4 h4=>ab (λ_=>cy (WH h4.1 8) λy hy=>cy (Dq h hi.a hy) λx hx=>⟨⟨hx.x,fk _,hx.jj⟩,h1.2⟩) (λ_=>cy (Dq h hi.a h4.1) λx hx=>⟨⟨hx.x,fk _,hx.jj⟩,h1.2⟩)
theorem Z27(hm:ej P m):(Ik c m i).w (λr=>iI r.1/\ej P r.2):=by
 have w:=SJ i.Op
 unfold Ik
 refine ax (rc hi.b) (aq λx0 h0=>?_)
 rw[<-h0]at w
 refine cy (Ny hm (fk _) w 3) λx1 h1=>ab (λ_=>aq λy hy=>⟨by rw[hy];exact Im h _ (fk _),h1.2⟩) (λ_=>aq λx3 h3=>ax (rc hi.a) ?_)
 rw[h0,<-h3]at w
 exact cy (SK h1.2 h1.1 w (h.r _)) λx hx=>⟨⟨h.x,fk _,h.jj⟩,hx⟩
end
theorem qax(h:iI c)(hm:ej P m):(Em c m).w (λr=>iI r.1/\ej P r.2.1/\U r.2.2.Value):=by
 unfold Em
 refine cy (WI hm h) λx0 h0=>ab (λ_=>aq λy hy=>⟨by rw[hy];exact Im h _ h.pc,h0.2,gd⟩) (λ_=>cy (WJ _) λx2 h2=>ab (λ_=>aq λy hy=>⟨by rw[hy];exact Im h _ h0.1,h0.2,gd⟩) (λhb=>?_))
 have hi:=h2 (by simpa using hb)
 refine aq λx4 _=>?_
 repeat'(first
  |refine ab (λ_=>?_) (λ_=>?_)
  |exact cy (Z70 h hi h0.2) λx hx=>⟨hx.1,hx.2,gd⟩
  |exact cy (Z27 h hi h0.2) λx hx=>⟨hx.1,hx.2,gd⟩
  |exact cy (Zr1 h hi) λx hx=>⟨hx.1,h0.2,hx.2⟩
  |exact aq λy hy=>⟨by rw[hy];exact Im h _ h0.1,h0.2,gd⟩
  |refine aq λ_ _=>?_)
theorem UR{a:Int}(h:U a)(k:Nat)(hk:k<=32):0<=bb .u32 a k/\bb .u32 a k*2^k<=a:=by
 obtain⟨h1,h2⟩:=h
 unfold bb
 have e:min (k:Int).toNat u32.bits=k:=by show min (k:Int).toNat 32=k;omega
 have hp:(0:Int)<2^k:=dI (by decide)
 rw[e,dJ _ (dK hp)]
 exact⟨Int.ediv_nonneg h1 (dK hp),Int.ediv_mul_le a (Int.ne_of_gt hp)⟩
theorem Zqf(x:Int):0<=u8.wrap x/\u8.wrap x<256:=by rw[wrap_u8];omega
theorem zax(h:U x):(Dn x).w (λ_=>True):=by
 have AH:=UR h 16 (by omega)
 have s8:=UR h 8 (by omega)
 have ub:=UR (w7 h 16) 8 (by omega)
 obtain⟨h1,h2⟩:=h
 unfold Dn
 repeat'(first
  |refine ab (λ_=>?_) (λ_=>?_)
  |refine ax (dY ⟨?_,gS (b:=256) ?_ (gT (by kernel_rfl))⟩) ?_
  |exact trivial
  |refine bh ?_)
 all_goals(first
  |trivial
  |exact(Zqf _).1
  |exact(Zqf _).2
  |(simp only[decide_eq_true_eq,decide_eq_false_iff_not]at*;simp at AH s8 ub;omega))
theorem BH(a:Int):ba .u32 a 255<256:=by
 unfold ba
 rw[wrap_u32]
 have:(dR u32.bits a&&&dR u32.bits 255).toNat<=255:=by
  show(dR 32 a&&&dR 32 255).toNat<=255
  rw[dU]
  exact Nat.le_trans Nat.and_le_right (by decide)
 omega
theorem zaK(h:U x):(QP x).w (λ_=>True):=by
 have ub:=UR h 24 (by omega)
 obtain⟨h1,h2⟩:=h
 have i24:bb .u32 x 24<256:=by simp at ub;omega
 unfold QP
 repeat'(first
  |refine ax (dY ⟨?_,gS (b:=256) ?_ (gT (by kernel_rfl))⟩) ?_
  |exact trivial
  |refine bh ?_)
 all_goals(first
  |trivial
  |exact(fk _).1
  |exact ub.1
  |exact i24
  |exact BH _)
structure w5(P:Nat)(m:bd):Prop where
 nZ:iI m.B4
 mem:ej P m.Mem
 lZ:w4 m.B5
 u7:ua m.D2
 target:U m.A6.A2
 given:U m.A6.D0
theorem Zqk{b:gl}(h:U b.D0):(QQ b).w (λ_=>True):=by
 unfold QQ
 exact cy (zaK h) λ_ _=>trivial
theorem xaa{m:bd}(h:U m.A6.D0):(Jq m).w (λ_=>True):=by
 have b:∀x,(Ia m.A6 x).w (λ_=>True):=λx=>by
  unfold Ia
  exact cy (zax h) λ_ _=>trivial
 have d:(Gh m).w (λ_=>True):=by
  unfold Gh
  exact aq λ_ _=>aq λ_ _=>ab (λ_=>aq λ_ _=>ab (λ_=>aq λ_ _=>ab (λ_=>aq λ_ _=>ab (λ_=>cy (b _) λ_ _=>trivial) (λ_=>trivial)) (λ_=>trivial)) (λ_=>trivial)) (λ_=>trivial)
 unfold Jq
 repeat'(first
  |refine ab (λ_=>?_) (λ_=>?_)
  |exact cy d λ_ _=>trivial
  |refine aq λ_ _=>?_
  |exact trivial)
theorem vV{m:bd}(h:U m.A6.D0):(Lh m).w (λ_=>True):=by
 have p:(La m.A6).w (λ_=>True):=by
  unfold La
  exact cy (Zqk h) λ_ _=>trivial
 unfold Lh
 refine aq λx0 _=>aq λx1 _=>aq λx2 _=>aq λx3 _=>cy p λx4 _=>fj (inv:=λz=>0<=z.2/\z.2<=5) (μ:=Qk5 m) ⟨by omega,by omega⟩ (cN _) (λz hz=>?_)
 obtain⟨z1,z2⟩:=hz
 have ew:z.2<5->i64.wrap (z.2+1)=z.2+1:=λ_=>by rw[wrap_i64];omega
 refine ab (λhb=>?_) (λ_=>trivial)
 have hb:=oY hb
 have nx:(0<=i64.wrap (z.2+1)/\i64.wrap (z.2+1)<=5)/\(5-i64.wrap (z.2+1)).toNat<(5-z.2).toNat:=by rw[ew hb];omega
 refine ax (by simp;omega) (ab (λ_=>ax (dY z1) (ez nx)) (λ_=>ez nx))
theorem Zbh{m:bd}(h:U m.A6.D0):(Lj m).w U:=by
 unfold Lj
 exact cy (vV h) λ_ _=>KU _ _
theorem xax{m:bd}(h:U m.A6.D0):(Il m).w (λ_=>True):=by
 have i:(Ll m).w (λ_=>True):=by
  unfold Ll
  exact ab (λ_=>cy (Zbh h) λ_ _=>trivial) (λ_=>trivial)
 unfold Il
 exact cy (xaa h) λ_ _=>ab (λ_=>ab (λ_=>cy i λ_ _=>ab (λ_=>trivial) (λ_=>trivial)) (λ_=>trivial)) (λ_=>trivial)
theorem Dt(h:ej P m):wa m=P:=by
 obtain⟨h1,h2,h3,_⟩:=h
 simp only[wa,ZW,Tree.m]
 have e:(m.length:Int)=32*P:=by omega
 rw[e]
 have e1:(cZ (32*(P:Int)) 32 !=0)=false:=by simp[gQ]
 have e2:decide ((32*(P:Int))>1024)=false:=dN (by omega)
 rw[e1,e2]
 simp only[cond_false]
 rw[gR _ (by decide),wrap_i64];omega
theorem Tc(h:ej P m)(hf:U f):tn m f=decide (f<P):=by
 have:=Dt h
 obtain⟨h1,h2⟩:=hf
 have h3:=h.p2
 simp only[tn,NY,Tree.m,ee,this]
 congr 1
 rw[wrap_u64,wrap_u64,dH h1 (by omega),dH (by omega) (by omega)]
theorem xaK(h:ej P m):(Ln m).w (λr=>r=m):=by
 obtain⟨h1,h2,h3,_⟩:=h
 unfold Ln
 refine ax ?_ ?_
 ·simp[bN,D.plain];omega
 ·show _=_
  simp
theorem QR(h:ej P m){addr size v:Int}(ha:U addr)(hl:addr<4*m.length)(hv:U v):(KS m addr size v).w (ej P):=by
 obtain⟨h1,h2,h3,h4⟩:=h
 obtain⟨a1,a2⟩:=ha
 have e:wrap u32 (eF addr 4)=addr/4:=by rw[wrap_u32,eG a1];omega
 have hc:(bX 1 1&&bN 0 1&&decide (0<=wrap u32 (eF addr 4)/\wrap u32 (eF addr 4)<(m.length:Int)))=true:=by
  rw[e];simp[bN];omega
 have h0:∀x,decide (0<=wrap u32 x)=true:=λx=>dY (fk x).1
 have hs:∀i v,U v->ej P (m.set i v):=λi v hv=>⟨by simp[h1],h2,h3,Eg h4 hv i⟩
 unfold KS
 exact ab (λ_=>ax hc (hs _ _ hv)) (λ_=>ax hc (ax (h0 _) (ax (h0 _) (ax hc (hs _ _ (nu _ _))))))
section
variable {c:bq} (h:iI c)
include h
theorem Jr(k:Int)(hb:U b):iI (pD c k b):=by
 refine(Tree.post (NN c k b) (W:=iI) ?_)
 unfold NN
 refine aq λ_ _=>aq λ_ _=>⟨h.x,h.a1,?_⟩
 intro w hw
 simp only[A8.l,cQ,cR,or_false]at hw
 rcases hw with rfl|rfl|rfl|rfl|rfl|rfl|rfl|rfl
 ·exact nu _ _
 ·exact h.a1
 ·exact h.pc
 ·exact fk _
 ·exact hb
 ·exact h.a5
 ·exact h.a6
 ·exact h.a7
theorem qW:iI (SW c):=by
 refine(Tree.post (NP c) (W:=iI) ?_)
 unfold NP
 refine aq λ_ _=>aq λ_ _=>⟨h.x,h.a2,?_⟩
 intro w hw
 simp only[A8.l,cQ,cR,or_false]at hw
 rcases hw with rfl|rfl|rfl|rfl|rfl|rfl|rfl|rfl
 ·exact nu _ _
 ·exact h.a1
 ·exact h.a2
 ·exact h.a3
 ·exact h.a4
 ·exact h.a5
 ·exact h.a6
 ·exact h.a7
theorem Ed(r:Int)(hv:U v):(Iv c r v).w iI:=by
 unfold Iv
 refine ab (λh1=>ab (λh2=>ax ?_ ⟨WM h.x hv _,h.pc,h.jj⟩) (λ_=>h)) (λ_=>h)
 have h1:=oY h1
 have h2:=oY h2
 simp[bN];omega
theorem qay(k:Int)(hv:U v):(K4 c k v).w iI:=by
 have ok:∀i v,U v->iI {X:=c.X,Pc:=c.Pc,C2:=A8.of 0 (dB (A8.l c.C2) i v)}:=λi v hv=>⟨h.x,h.pc,Zi h.jj hv i⟩
 unfold K4
 repeat'(first
  |exact h
  |exact ok _ _ (fk _)
  |exact ok _ _ hv
  |refine ab (λhk=>?_) (λ_=>?_)
  |refine ax (by rw[eq_of_beq (by assumption:(k==_)=true)];decide) ?_)
end
section
variable {P:Nat} {m:List Int} (h:ej P m)
include h
theorem ZX(a:Int)(hs:size=1\/size=4):(Ir m a size).w (λb=>b=true->a<128*P):=by
 have hp:=Dt h
 have h2:=h.p2
 have e:decide (wrap u32 size≠0)=true:=by rcases hs with rfl|rfl<;>decide
 have l:∀x,x=wa m->decide (a<wrap u32 (wrap i64 (128*x)))=true->a<128*P:=λx hx hd=>by
  rw[hx,hp,wrap_u32,wrap_i64]at hd
  have:=oY hd
  omega
 unfold Ir
 refine ab (λ_=>ab (λ_=>λh=>by cases h) (λ_=>?_)) (λ_=>?_)<;>
 exact ax e (ab (λ_=>aq λx hx=>l x hx) (λ_=>λh=>by cases h))
theorem idx{a:Int}(ha:U a)(hl:a<128*P):(bX 1 1&&bN 0 1&&decide (0<=wrap u32 (eF a 4)/\wrap u32 (eF a 4)<(m.length:Int)))=true:=by
 obtain⟨a1,a2⟩:=ha
 have e:wrap u32 (eF a 4)=a/4:=by rw[wrap_u32,eG a1];omega
 have:=h.len
 rw[e];simp[bN];omega
theorem Zip{a:Int}(ha:U a)(hs:size=1\/size=4):(Dv m a size).w (λr=>U r.1):=by
 obtain⟨g1,g2⟩:=Tree.pp (ZX h a hs)
 unfold Dv
 refine c7 g1 (aq λx hx=>ab (λ_=>gd) (λhb=>?_))
 have hb:x=true:=by simpa using hb
 have hl:=g2 (hx.symm.trans hb)
 refine ax (idx h ha hl) (ab (λ_=>ax (dY (fk _).1) (fk _)) (λ_=>AJ h.u _))
theorem qaL{a:Int}(ha:U a)(access:Int):(KW m a access).w (ej P):=by
 obtain⟨g1,g2⟩:=Tree.pp (ZX h a (size:=4) (.inr rfl))
 have hs:∀{m:List Int} i v,ej P m->U v->ej P (m.set i v):=λi v h hv=>⟨by simp[h.len],h.p1,h.p2,Eg h.u hv i⟩
 unfold KW
 refine c7 g1 (aq λx hx=>ab (λ_=>h) (λhb=>?_))
 have hb:x=true:=by simpa using hb
 have hl:=g2 (hx.symm.trans hb)
 have i0:=idx h ha hl
 have h':=hs (Int.toNat (wrap u32 (eF a 4))) (iH u32 (m.getD (Int.toNat (wrap u32 (eF a 4))) 0) 8) h (nu _ _)
 have i1:=idx h' ha hl
 exact ax i0 (ax i0 (ab (λ_=>ax i1 (ax i1 (hs _ _ h' (nu _ _)))) (λ_=>h')))
theorem qab(hr:U root)(hv:U va)(access:Int):(Gr m root va access).w (λt=>U t.Addr/\U t.G1/\(t.G0=0->t.Addr<128*P)):=by
 have hp:=Dt h
 have h2:=h.p2
 have hlen:=h.len
 obtain⟨r1,r2⟩:=hr
 obtain⟨v1,v2⟩:=hv
 unfold Gr
 refine aq λx0 nG=>aq λx1 oQ=>aq λx2 _=>?_
 have hc:x0≠0:=by
  rw[nG]
  simp only[BO,K3,Tree.m]
  cases access==1<;>cases access==3<;>simp
 rw[hp]at oQ
 have bad:U (0:Int)/\U (0:Int)/\(x0=0->(0:Int)<128*P):=⟨gd,gd,λe=>absurd e hc⟩
 refine ab (λ_=>bad) (λ_=>ab (λ_=>bad) (λDx=>ab (λ_=>bad) (λDi=>?_)))
 have Dx:=oN Dx
 have Di:=oN Di
 have e1:wrap u32 x1=P:=by rw[oQ,wrap_u32];omega
 rw[e1]at Di
 have e2:wrap u32 (wrap u32 (root*128)+wrap u32 (4*wrap u32 (eF va 128)))=root*128+4*(va/128):=by
  rw[eG v1,wrap_u32,wrap_u32,wrap_u32,wrap_u32];omega
 have hU:U (wrap u32 (wrap u32 (root*128)+wrap u32 (4*wrap u32 (eF va 128)))):=fk _
 have ci:=idx h hU (by rw[e2];omega)
 have gh:∀w:Int,decide (ba u32 w 255>=wrap u32 x1)=false->(U (wrap u32 (wrap u32 (ba u32 w 255*128)+cZ va 128))/\U (wrap u32 (wrap u32 (root*128)+wrap u32 (4*wrap u32 (eF va 128))))/\((0:Int)=0->wrap u32 (wrap u32 (ba u32 w 255*128)+cZ va 128)<128*P)):=λw hw=>by
  have hw:=oN hw
  rw[e1]at hw
  have hn:=(KU w 255).1
  refine⟨fk _,fk _,λ_=>?_⟩
  rw[Int.tmod_eq_emod_of_nonneg v1,wrap_u32,wrap_u32]
  generalize ba u32 w 255=q at*
  omega
 refine ax ci ?_
 repeat'(first
  |exact bad
  |exact gh _ (by assumption)
  |refine ab (λ_=>?_) (λ_=>?_)
  |refine ax ci ?_)
theorem S0(hc:iI c)(hv:U va)(hs:size=1\/size=4)(access:Int):(Iw c m va size access).w (λr=>ej P r.2.2/\U r.1/\(r.2.1=0->r.1<128*P)):=by
 have e:decide (wrap u32 size≠0)=true:=by rcases hs with rfl|rfl<;>decide
 obtain⟨g1,g2⟩:=Tree.pp (ZX h va hs)
 obtain⟨k1,k2⟩:=Tree.pp (qab h hc.a6 hv access)
 have bad:∀k:Int,k≠0->ej P m/\U (0:Int)/\(k=0->(0:Int)<128*P):=λk hk=>⟨h,gd,λe=>absurd e hk⟩
 have hca:BO access≠0:=by
  simp only[BO,K3,Tree.m]
  cases access==1<;>cases access==3<;>simp
 unfold Iw
 refine aq λx0 _=>ab (λ_=>bad 5 (by decide)) (λ_=>ab (λh1=>ab (λh2=>?_) (λ_=>?_)) (λ_=>?_))
 ·exact bad 5 (by decide)
 all_goals(
  refine ax e (ab (λ_=>bad 3 (by decide)) (λ_=>aq λx1 _=>ab (λ_=>c7 g1 (aq λx2 Io=>ab (λ_=>aq λx3 hx3=>bad x3 (by rw[hx3];exact hca)) (λhb=>?_))) (λ_=>c7 k1 (aq λx4 hx4=>ab (λhb=>?_) (λhb=>?_)))))
  ·have hb:x2=true:=by simpa using hb
   exact⟨h,hv,λ_=>g2 (Io.symm.trans hb)⟩
  ·exact bad _ (by simpa using hb)
  ·obtain⟨t1,t2,t3⟩:=k2
   rw[show(Gr m c.C2.a6 va access).m=x4 from hx4.symm]at t1 t2 t3
   obtain⟨m1,m2⟩:=Tree.pp (qaL h t2 access)
   refine c7 m1 (aq λx5 hx5=>?_)
   exact⟨hx5▸m2,t1,λ_=>t3 (by simpa using hb)⟩)
end
theorem yz{r:Int}(h:KK r=true):0<=r/\r<16:=by
 simp only[KK,SP,Tree.m]at h
 cases h1:decide (r>=0)<;>rw[h1]at h
 ·cases h
 ·have h1:=oY h1
  have h:=oY h
  omega
theorem xW(hi:wrap .i64 i.bz=i.bz)(h:Ep i=true):sj i:=by
 have no:false=true->sj i:=λh=>by cases h
 refine(Tree.post (ND i) (W:=λb=>b=true->sj i) ?_) h
 unfold ND
 refine aq λx0 h0=>ab (λ_=>no) (λ_=>aq λx1 h1=>ab (λ_=>no) (λb1=>aq λx2 h2=>ab (λ_=>no) (λb2=>aq λx3 h3=>ab (λ_=>no) (λb3=>aq λx4 h4=>ab (λ_=>no) (λb4=>ab (λ_=>no) (λb5=>?_))))))
 have b1:x1=true:=by simpa using b1
 have b2:x2=true:=by simpa using b2
 have b3:x3=true:=by simpa using b3
 have b4:=oN b4
 have b5:=oN b5
 rw[hi]at b4 b5
 have ok:sj i:=⟨yz (h1.symm.trans b1),yz (h2.symm.trans b2),yz (h3.symm.trans b3),λe=>by
  rw[e]at h0
  have h0:x0=8:=h0
  subst h0
  have h4:x4=(0,7):=h4
  subst h4
  simp at b4 b5;omega⟩
 repeat'(first
  |exactλ_=>ok
  |exact no
  |refine ab (λ_=>?_) (λ_=>?_))
theorem Zop(w:Int):(KM w).w (λr=>r.2=true->sj r.1):=by
 have no:∀{p:Prop},false=true->p:=λh=>by cases h
 have e:∀x,wrap .i64 (wrap .i32 x)=wrap .i32 x:=λx=>by rw[wrap_i64,wrap_i32];omega
 have ok:∀i,wrap .i64 i.bz=i.bz->∀x,x=Ep i->(!x)=false->true=true->sj i:=λi hi x hx hb _=>xW hi (hx.symm.trans (by simpa using hb))
 unfold KM
 refine aq λx0 _=>?_
 have l:∀i,wrap .i64 i.bz=i.bz->(Tree.lv (Ep i) λx=>.br (!x) (.lf ((⟨0,0,0,0,0⟩:gv),false)) (.lf (i,true))).w (λr=>r.2=true->sj r.1):=λi hi=>aq λx hx=>ab (λ_=>no) (λhb=>ok i hi x hx hb)
 refine ab (λ_=>no) (λ_=>ab (λ_=>l _ rfl) (λ_=>ab (λ_=>l _ (e _)) (λ_=>ab (λ_=>l _ (e _)) (λ_=>l _ (e _)))))
theorem QS(b:Bool):U (BP b):=by cases b<;>exact⟨by decide,by decide⟩
theorem Zom{a b:Int}(ha:U a)(hb:U b):(K0 a b).w (λr=>U r.1/\U r.2):=by
 unfold K0
 refine ab (λ_=>⟨⟨by omega,by omega⟩,ha⟩) (λh=>?_)
 have h:¬b=0:=by simpa using h
 obtain⟨b1,b2⟩:=hb
 have hc:decide (wrap i64 (wrap i32 b)≠0)=true:=dY (by rw[wrap_i64,wrap_i32];omega)
 exact ax hc (ax hc ⟨fk _,fk _⟩)
theorem Hj(op:Int){a b:Int}(ha:U a)(hb:U b):(QT op a b).w (λr=>U r.1):=by
 unfold QT
 refine aq λx0 _=>?_
 repeat'(first
  |exact fk _
  |exact w7 ha _
  |exact gd
  |refine ab (λ_=>?_) (λ_=>?_)
  |exact cy (Zom ha hb) λx hx=>hx.1
  |exact cy (Zom ha hb) λx hx=>hx.2
  |exact aq λx hx=>(by rw[hx];exact QS _))
theorem vz(hx:U x):(QU x 8).w U:=by
 unfold QU
 have h0:decide (0<=wrap u64 8)=true:=by decide
 refine ab (λh=>absurd h (by decide)) λ_=>ab (λh=>absurd h (by decide)) λ_=>ax h0 (ax (by decide) (ab (λ_=>ax h0 (nu _ _)) (λ_=>KU _ _)))
section
variable {c:bq} (h:iI c) {i:gv} (hi:sj i)
include h hi
theorem zW:(QV c i).w (λr=>iI r.1/\U r.2.Value):=by
 unfold QV
 refine ab (λ_=>aq λx hx=>⟨hx▸Jr h _ gd,gd⟩) (λ_=>ab (λ_=>aq λx hx=>⟨hx▸qW h,gd⟩) (λ_=>ab (λe=>ax ?_ (cy (Ed h _ (h.a _)) λx hx=>⟨hx.Ap (fk _),gd⟩)) (λ_=>ab (λ_=>ax (rc hi.a) (cy (qay h _ (h.r _)) λx hx=>⟨hx.Ap (fk _),gd⟩)) (λ_=>?_))))
 ·have:=hi.jj (by simpa using e)
  simp[bN];omega
 ·have k:=h.Ap (fk (c.Pc+4))
  repeat'(first
   |exact⟨k,gd⟩
   |exact⟨k,h.r _⟩
   |refine ab (λ_=>?_) (λ_=>?_)
   |refine ax (rc hi.a) ?_)
theorem zaL:(QW c i).w iI:=by
 unfold QW
 exact ab (λ_=>cy (Ed h _ (fk _)) λx hx=>hx.Ap (fk _)) (λ_=>ab (λ_=>ax (rc hi.b) (cy (Ed h _ (fk _)) λx hx=>hx.Ap (fk _))) (λ_=>ax (rc hi.a) (ax (rc hi.b) (aq λx _=>ab (λ_=>h.Ap (fk _)) (λ_=>h.Ap (fk _))))))
theorem Zr6(hm:ej P m):(QX c m i).w (λr=>iI r.1/\ej P r.2):=by
  unfold QX
  refine ax (rc hi.b) ?_
  have e1:(1:Int)=1\/(1:Int)=4:= .inl rfl
  have e4:(4:Int)=1\/(4:Int)=4:= .inr rfl
  repeat'(first
    |refine ab (λ_=> ?_) (λ_=> ?_)
    | (refine cy (S0 hm h (fk _) e4 _) λx hx=> ?_
       obtain⟨m1,m2,m3⟩:=hx
       refine ab (λ_=>aq λy hy=>⟨hy▸Jr h _ (fk _),m1⟩) (λhb=> ?_)
       have m3:=m3 (by simpa using hb)
       have m4:x.1<4*x.2.2.length:=by rw[m1.len];omega
       clear hb)
    | (refine cy (S0 hm h (fk _) e1 _) λx hx=> ?_
       obtain⟨m1,m2,m3⟩:=hx
       refine ab (λ_=>aq λy hy=>⟨hy▸Jr h _ (fk _),m1⟩) (λhb=> ?_)
       have m3:=m3 (by simpa using hb)
       have m4:x.1<4*x.2.2.length:=by rw[m1.len];omega
       clear hb)
    |exact ax (rc hi.a) (cy (QR (by assumption) (by assumption) (by assumption) (h.r _)) λy hy=>⟨h.Ap (fk _),hy⟩)
    |(refine cy (Zip (by assumption) (by assumption) e4) λy hy=> ?_)
    |(refine cy (Zip (by assumption) (by assumption) e1) λy hy=> ?_)
    |exact cy (vz (by assumption)) λz hz=>cy (Ed h _ hz) λu hu=>⟨hu.Ap (fk _),by assumption⟩
    |exact cy (Ed h _ (by assumption)) λu hu=>⟨hu.Ap (fk _),by assumption⟩)
end
theorem M0(h:iI c)(hm:ej P m):(QY c m).w (λr=>iI r.1/\U r.2.1.Value/\ej P r.2.2):=by
 unfold QY
 refine cy (S0 hm h h.pc (.inr rfl) 1) λx0 hx=>?_
 obtain⟨m1,m2,m3⟩:=hx
 refine ab (λ_=>aq λy hy=>⟨hy▸Jr h _ h.pc,gd,m1⟩) (λhb=>?_)
 refine cy (Zip m1 m2 (.inr rfl)) λx2 h2=>Sx (Zop _) λx3 h3=>ab (λ_=>aq λy hy=>⟨hy▸Jr h _ h2,gd,m1⟩) (λb3=>?_)
 have hi:=h3 (by simpa using b3)
 refine aq λx5 _=>?_
 repeat'(first
  |refine ab (λ_=>?_) (λ_=>?_)
  |exact aq λy hy=>⟨hy▸Jr h _ h2,gd,m1⟩
  |exact cy (zW h hi) λy hy=>⟨hy.1,hy.2,m1⟩
  |exact cy (zaL h hi) λy hy=>⟨hy,gd,m1⟩
  |exact cy (Zr6 h hi m1) λy hy=>⟨hy.1,gd,hy.2⟩
  |exact cy (Ed h _ (fk _)) λy hy=>⟨hy.Ap (fk _),gd,m1⟩
  |refine ax (rc hi.c) ?_
  |refine ax (rc hi.b) ?_
  |exact cy (Hj _ (h.r _) (h.r _)) λy hy=>cy (Ed h _ hy) λz hz=>⟨hz.Ap (fk _),gd,m1⟩
  |exact cy (Hj _ (h.r _) (fk _)) λy hy=>cy (Ed h _ hy) λz hz=>⟨hz.Ap (fk _),gd,m1⟩)
theorem Et{q:Int}(h:U q):ba .u32 q 1=q%2:=by
 obtain⟨h1,h2⟩:=h
 unfold ba
 rw[wrap_u32]
 have e1:(dR 32 q).toNat=q.toNat:=by rw[BitVec.toNat_ofInt];omega
 have e2:(dR 32 1).toNat=1:=by decide
 have:(dR u32.bits q&&&dR u32.bits 1).toNat=q.toNat%2:=by
  show(dR 32 q&&&dR 32 1).toNat=_
  rw[dU,e1,e2,Nat.and_one_is_mod]
 rw[this];omega
theorem QZ(b:Bool)(n:Int):(Ra b n).w (λ_=>True):=by
 unfold Ra
 exact ab (λ_=>ax (dY (by rw[wrap_u64];omega)) trivial) (λ_=>trivial)
theorem zay(m:bd):(Rb m).w (λ_=>True):=by
 unfold Rb
 exact aq λ_ _=>cy (QZ _ _) λ_ _=>aq λ_ _=>cy (QZ _ _) λ_ _=>aq λ_ _=>cy (QZ _ _) λ_ _=>aq λ_ _=>cy (QZ _ _) λ_ _=>aq λ_ _=>cy (QZ _ _) λ_ _=>trivial
theorem Zie(m:bd):(Lk m).w U:=by
 unfold Lk
 exact cy (zay m) λ_ _=>KU _ _
theorem zab(m:bd):(Lm m).w (λ_=>True):=by
 unfold Lm
 exact ab (λ_=>cy (Zie m) λ_ _=>trivial) (λ_=>trivial)
theorem xay(m:bd):(IB m).w (λ_=>True):=by
 unfold IB
 exact aq λ_ _=>ab (λ_=>trivial) (λ_=>ab (λ_=>trivial) (λ_=>cy (zab m) λ_ _=>ab (λ_=>trivial) (λ_=>trivial)))
theorem Qwo{m:bd}(h:iI m.B4):(Q5 m).w iI:=by
 unfold Q5
 refine cy (Zie m) λx0 hx=>ab (λ_=>h) (λ_=>ab (λ_=>h) (λhb=>?_))
 have hb:x0≠0:=by simpa using hb
 have sh:∀z:Int,0<=z->z<=31->bb .u32 x0 (wrap .u64 z)=x0/2^z.toNat:=λz h1 h2=>by
  unfold bb
  have e:min (wrap .u64 z).toNat u32.bits=z.toNat:=by
   show min (wrap .u64 z).toNat 32=z.toNat
   rw[wrap_u64];omega
  rw[e,dJ _ (dK (dI (by decide)))]
 refine fj (inv:=λz=>0<=z/\z<=31/\x0/2^z.toNat≠0) (μ:=Qep m) ⟨by omega,by omega,by simpa using hb⟩ (cN _) (λz hz=>?_)
 obtain⟨z1,z2,z3⟩:=hz
 refine ax (dY (by rw[wrap_u64];omega)) (ab (λe=>ez ?_) (λ_=>aq λy hy=>hy▸Jr h _ gd))
 have e:=eq_of_beq e
 have hq:=w7 hx (wrap .u64 z)
 rw[Et hq,sh z z1 z2]at e
 rw[sh z z1 z2]at hq
 have bg:x0/2^z.toNat/2≠0:=by omega
 have z4:z<=30:=by
  rcases Int.lt_or_le z 31 with h|h
  ·omega
  ·have:z=31:=by omega
   subst this
   have:=hx.2
   have:=hx.1
   simp at z3 e bg
   omega
 show(0<=i64.wrap (z+1)/\i64.wrap (z+1)<=31/\x0/2^(i64.wrap (z+1)).toNat≠0)/\(32-i64.wrap (z+1)).toNat<(32-z).toNat
 have ew:i64.wrap (z+1)=z+1:=by rw[wrap_i64];omega
 rw[ew]
 refine⟨⟨by omega,by omega,?_⟩,by omega⟩
 have et:(z+1).toNat=z.toNat+1:=by omega
 rw[et,Int.pow_succ,<-Int.ediv_ediv_of_nonneg (dK (dI (by decide)))]
 exact bg
theorem qaz{m:bd}(h:iI m.B4)(hm:ej P m.Mem):(Rc m).w (λ_=>True):=by
 unfold Rc
 refine cy (Qwo h) λx0 hx=>ab (λ_=>trivial) (λ_=>cy (Zip hm hx.pc (.inr rfl)) λx1 _=>aq λx2 _=>?_)
 exact ab (λ_=>ab (λ_=>ab (λ_=>trivial) (λ_=>trivial)) (λ_=>trivial)) (λ_=>trivial)
theorem Nk(l:List Int):(bytesOf l).length=l.length:=by simp[bytesOf]
theorem SR(l:List UInt8):(oR l).length=l.length:=by simp[oR]
theorem Rd(x:Int):(L7 x 4).w (λr=>r.length=4):=by
 unfold L7
 refine fj (inv:=λz=>0<=z.1/\z.1<=4/\(z.2.length:Int)=z.1) (μ:=US x 4) ⟨by omega,by omega,rfl⟩ (cN _) (λz hz=>?_)
 obtain⟨z1,z2,z3⟩:=hz
 refine ab (λh=>ax (dY (by rw[wrap_u64];omega)) (ax (dY (by omega)) (ez ?_))) (λh=>?_)
 ·have h:=oY h
  show(0<=i64.wrap (z.1+1)/\i64.wrap (z.1+1)<=4/\((z.2++[_]).length:Int)=i64.wrap (z.1+1))/\(4-i64.wrap (z.1+1)).toNat<(4-z.1).toNat
  have ew:i64.wrap (z.1+1)=z.1+1:=by rw[wrap_i64];omega
  rw[ew]
  refine⟨⟨by omega,by omega,by simp;omega⟩,by omega⟩
 ·have h:=oN h
  show(bytesOf z.2).length=4
  rw[Nk];omega
theorem xab(hm:ej P m)(frame:Int):(Gq m frame).w (λr=>0<=frame->frame<P->r.1.length=128):=by
 have hp:=Dt hm
 have hl:=hm.len
 have h2:=hm.p2
 unfold Gq
 refine ab (λh=>λh0 _=>by have:=oY h;omega) (λh=>aq λx0 hx=>ab (λh1=>λ_ h2=>by have:=oY h1;rw[hx,hp]at this;omega) (λh1=>?_))
 have h:=oN h
 have h1:=oN h1
 rw[hx,hp]at h1
 refine fj (inv:=λz=>0<=z.1/\z.1<=32/\(z.2.length:Int)=4*z.1) (μ:=WY m frame) ⟨by omega,by omega,rfl⟩ (cN _) (λz hz=>?_)
 obtain⟨z1,z2,z3⟩:=hz
 refine ab (λhb=>?_) (λhb=>?_)
 ·have hb:=oY hb
  have e:wrap i64 (wrap i64 (frame*32)+z.1)=frame*32+z.1:=by rw[wrap_i64,wrap_i64];omega
  refine ax (by rw[e];simp[bN];omega) (c7 (show(4:Int)<=1000000000000 by decide) (Sx (Rd _) λx1 h4=>ax (dY (by rw[SR,h4];omega)) (ez ?_)))
  show(0<=i64.wrap (z.1+1)/\i64.wrap (z.1+1)<=32/\((z.2++oR x1).length:Int)=4*i64.wrap (z.1+1))/\(32-i64.wrap (z.1+1)).toNat<(32-z.1).toNat
  have ew:i64.wrap (z.1+1)=z.1+1:=by rw[wrap_i64];omega
  rw[ew,lA,SR,h4]
  exact⟨⟨by omega,by omega,by omega⟩,by omega⟩
 ·have hb:=oN hb
  intro _ _
  show(bytesOf z.2).length=128
  rw[Nk];omega
theorem qA(hm:ej P m)(hd:w4 d)(port:Int)(hv:U v)(gg:Int):(K8 d m port v gg).w (λr=>w4 r.1/\r.2.length<=1):=by
 have k:∀st,w4 {ae:=d.ae,C9:=d.C9,Frame:=d.Frame,C8:=st,F6:=d.F6,C5:=d.C5,C6:=d.C6,C7:=d.C7}:=λst=>⟨hd.block,hd.frame,hd.j9,hd.ka⟩
 have k2:∀c o,w4 {ae:=d.ae,C9:=d.C9,Frame:=d.Frame,C8:=1,F6:=c,C5:=d.C9,C6:=d.Frame,C7:=o}:=λc o=>⟨hd.block,hd.frame,hd.block,hd.frame⟩
 have k3:w4 {ae:=d.ae,C9:=v,Frame:=d.Frame,C8:=d.C8,F6:=d.F6,C5:=d.C5,C6:=d.C6,C7:=d.C7}:=⟨hv,hd.frame,hd.j9,hd.ka⟩
 have k4:w4 {ae:=d.ae,C9:=d.C9,Frame:=v,C8:=d.C8,F6:=d.F6,C5:=d.C5,C6:=d.C6,C7:=d.C7}:=⟨hd.block,hv,hd.j9,hd.ka⟩
 unfold K8
 repeat'(first
  |refine ab (λ_=>?_) (λ_=>?_)
  |exact cy (xab hm _) λ_ _=>aq λ_ _=>⟨k2 _ _,aX _⟩
  |refine aq (λ_ _=>?_)
  |refine bh ?_)
 all_goals(first
  |exact⟨hd,bC _⟩
  |exact⟨k _,bC _⟩
  |exact⟨k2 _ _,aX _⟩
  |exact⟨k3,bC _⟩
  |exact⟨k4,bC _⟩)
theorem yW(hm:ej P m)(hn:ua n)(port:Int)(hv:U v)(gg:Int):(K9 n m port v gg).w (λr=>ua r.1/\r.2.length<=1):=by
 have k1:ua {Frame:=v,F7:=n.F7,D1:=n.D1,D4:=n.D4,C4:=n.C4,F9:=n.F9}:=⟨hv,hn.len,hn.buffer,hn.Gj⟩
 have k2:ua {Frame:=n.Frame,F7:=v,D1:=n.D1,D4:=n.D4,C4:=n.C4,F9:=n.F9}:=⟨hn.frame,hv,hn.buffer,hn.Gj⟩
 have k3:ua {Frame:=n.Frame,F7:=n.F7,D1:=n.D1,D4:=n.D4,C4:=false,F9:=0}:=⟨hn.frame,hn.len,hn.buffer,gd⟩
 have k4:∀p r,ua {Frame:=n.Frame,F7:=n.F7,D1:=p,D4:=n.Frame,C4:=r,F9:=n.F9}:=λp r=>⟨hn.frame,hn.len,hn.frame,hn.Gj⟩
 have send:∀K:List UInt8×Bool->Tree (gw×List ik),tn m n.Frame=true->(∀x:List UInt8×Bool,x.1.length=128->(K x).w (λr=>ua r.1/\r.2.length<=1))->(Tree.an (ZY m (wrap .i64 n.Frame)) (.lv (KN m (wrap .i64 n.Frame)) K)).w (λr=>ua r.1/\r.2.length<=1):=λK hp hK=>by
  rw[Tc hm hn.frame]at hp
  have hp:=oY hp
  obtain⟨f1,f2⟩:=hn.frame
  have ew:i64.wrap n.Frame=n.Frame:=by rw[wrap_i64];omega
  exact cy (xab hm _) λx hx=>hK x (hx (by rw[ew];exact f1) (by rw[ew];exact hp))
 unfold K9
 repeat'(first
  |refine ab (λ_=>?_) (λ_=>?_)
  |refine send _ (by simp_all) (λx hx=>ax (by simp_all;exact hn.len.1) ?_)
  |refine aq (λ_ _=>?_)
  |refine bh ?_)
 all_goals(first
  |exact⟨hn,bC _⟩
  |exact⟨hn,aX _⟩
  |exact⟨k1,bC _⟩
  |exact⟨k2,bC _⟩
  |exact⟨k3,bC _⟩
  |exact⟨k4 _ _,bC _⟩)
def okB(b:gl):Prop:=U b.A2/\U b.D0
theorem xaL(hm:ej P m){b:gl}(hb:okB b)(port:Int)(hv:U v):(AL b m port v).w (λr=>okB r.1/\ej P r.2):=by
 have Dk:decide (0<=v)=true:=dY hv.1
 have h2:=hm.p2
 have rest:(Tree.br (port==11) (.br (decide (v<32)) (.cn (decide (0<=v)) (.lf (({A2:=b.A2,D0:=oD .u32 b.D0 (ep .u32 1 v)}:gl),m))) (.lf (b,m))) (.lf (b,m))).w (λr=>okB r.1/\ej P r.2):=
  ab (λ_=>ab (λ_=>ax Dk ⟨⟨hb.1,fk _⟩,hm⟩) (λ_=>⟨hb,hm⟩)) (λ_=>⟨hb,hm⟩)
 unfold AL
 refine ab (λ_=>aq λx0 hx=>ab (λhp=>ax Dk (ab (λ_=>ax Dk ?_) (λ_=>rest))) (λ_=>rest)) (λ_=>rest)
 have hp:tn m v=true:=hx.symm.trans hp
 rw[Tc hm hv]at hp
 have hp:=oY hp
 obtain⟨v1,v2⟩:=hv
 refine fj (inv:=λz=>0<=z.1/\z.1<=32/\ej P z.2) (μ:=Xv b m port v) ⟨by omega,by omega,hm⟩ (cN _) (λz hz=>?_)
 obtain⟨z1,z2,z3⟩:=hz
 have hl:=z3.len
 refine ab (λh=>?_) (λ_=>⟨⟨hb.1,fk _⟩,z3⟩)
 have h:=oY h
 have e:wrap i64 (wrap i64 (wrap i64 v*32)+z.1)=v*32+z.1:=by rw[wrap_i64,wrap_i64,wrap_i64];omega
 refine ax (by rw[e];simp[bN];omega) (ez ?_)
 show(0<=i64.wrap (z.1+1)/\i64.wrap (z.1+1)<=32/\ej P (dB _ _ _))/\(32-i64.wrap (z.1+1)).toNat<(32-z.1).toNat
 have ew:i64.wrap (z.1+1)=z.1+1:=by rw[wrap_i64];omega
 rw[ew]
 exact⟨⟨by omega,by omega,⟨by simp[hl],z3.p1,z3.p2,Eg z3.u gd _⟩⟩,by omega⟩
structure ry(P:Nat)(m:bd):Prop where
 nZ:iI m.B4
 mem:ej P m.Mem
 lZ:w4 m.B5
 u7:ua m.D2
 target:okB m.A6
 th:0<=m.B7
theorem Zm8(c:iK)(port:Int):U (K7 c port).2:=by
 refine Tree.post (Gu c port) (W:=λr=>U r.2) ?_
 have u1:U 4294967295:=⟨by omega,by omega⟩
 unfold Gu
 refine ab (λ_=>ab (λ_=>u1) (λh=>ab (λ_=>ax ?_ (ax ?_ (fk _))) (λ_=>ab (λ_=>fk _) (λ_=>gd)))) (λh1=>ab (λh=>(by rw[h1]at h;cases h)) (λ_=>ab (λ_=>fk _) (λ_=>gd)))
 ·have h:¬(c.D9.length:Int)=0:=by simpa using h
  exact dY ⟨by omega,by omega,by omega⟩
 ·have h:¬(c.D9.length:Int)=0:=by simpa using h
  simp[bN];omega
theorem zaz(h:ua n)(port:Int):U (S3 n port):=by
 refine Tree.post (NX n port) (W:=U) ?_
 have u1:U 1:=⟨by omega,by omega⟩
 unfold NX
 exact ab (λ_=>h.frame) (λ_=>ab (λ_=>h.Gj) (λ_=>ab (λ_=>ab (λ_=>ab (λ_=>fk _) (λ_=>u1)) (λ_=>ab (λ_=>fk _) (λ_=>gd))) (λ_=>gd)))
theorem vW(h:w4 d)(port:Int):U (XF d port):=by
 refine Tree.post (UT d port) (W:=U) ?_
 unfold UT
 exact ab (λ_=>h.block) (λ_=>ab (λ_=>h.frame) (λ_=>ab (λ_=>fk _) (λ_=>gd)))
theorem xA(t:iT):U (XG t):=by
 refine Tree.post (UU t) (W:=U) ?_
 unfold UU
 exact ab (λ_=>⟨by omega,by omega⟩) (λ_=>gd)
theorem Zlm{b:gl}(h:U b.A2)(port:Int):U (Lb b port):=by
 refine Tree.post (Lc b port) (W:=U) ?_
 unfold Lc
 exact ab (λ_=>h) (λ_=>ab (λ_=>aq λ_ _=>fk _) (λ_=>gd))
theorem w0(x:Int):0<=u64.wrap x:=by rw[wrap_u64];omega
section
end
section

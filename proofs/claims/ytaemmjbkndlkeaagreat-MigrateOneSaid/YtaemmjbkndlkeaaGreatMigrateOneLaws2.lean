import Derived.Test.YtaemmjbkndlkeaaGreatMigrateOneZt
open List renaming set->dB,mem_cons->cQ,not_mem_nil->cR
open Nat renaming blt->bN,beq->bX,lt_succ_self->cN,le_refl->aX,zero_le->bC
open Int renaming pow_pos->dI,le_of_lt->dK,fdiv_eq_ediv_of_nonneg->dJ,tmod->cZ,mul_tmod_right->gQ,mul_tdiv_cancel_left->gR,tdiv->eF,tdiv_eq_ediv_of_nonneg->eG,emod_eq_of_lt->dH,lt_of_lt_of_le->gS,le_of_eq->gT
open BitVec renaming ofInt->dR,toNat_and->dU
set_option maxRecDepth 100000
set_option linter.all false
namespace Go.Proofs.YtaemmjbkndlkeaaGreat
open Go Go.GD
open Go.IntKind(wrap i64 u32 u64 u8 i32 wrap_i64 wrap_u32 wrap_u64 wrap_u8 wrap_i32)
def U(x:Int):Prop:=0<=x/\x<4294967296
theorem fj(x:Int):U (u32.wrap x):=by rw[wrap_u32];unfold U;omega
theorem KU(x y:Int):U (bb .u32 x y):=fj _
theorem ny(x y:Int):U (iG .u32 x y):=fj _
theorem gh:U 0:=⟨by omega,by omega⟩
theorem Eh{m:List Int}(h:∀w∈m,U w){v:Int}(hv:U v)(i:Nat):∀w∈m.set i v,U w:=by
 intro w hw
 rcases List.mem_or_eq_of_mem_set hw with h1|h1
 ·exact h w h1
 ·rw[h1];exact hv
structure ep(P:Nat)(m:List Int):Prop where
 len:m.length=32*P
 p1:0<=P
 p2:P<=32
 u:∀w∈m,U w
structure w5(d:fu):Prop where
 block:U d.C8
 frame:U d.Frame
 j9:U d.C5
 ka:U d.C6
structure tY(n:gw):Prop where
 frame:U n.Frame
 len:U n.F7
 buffer:U n.D4
 Gk:U n.F9
theorem AJ{l:List Int}(h:∀w∈l,U w)(i:Nat):U (l.getD i 0):=by
 by_cases hi:i<l.length
 ·have:l.getD i 0=l[i]:=by simp[List.getD,hi]
  rw[this];exact h _ (List.getElem_mem hi)
 ·have:l.getD i 0=0:=by simp[List.getD,List.getElem?_eq_none (by omega:l.length<=i)]
  rw[this];exact gh
structure iI(c:bn):Prop where
 x:∀w∈iv.l c.X,U w
 pc:U c.Pc
 jj:∀w∈A8.l c.C3,U w
theorem Wy{X:iv Int}(h:∀w∈iv.l X,U w){v:Int}(hv:U v)(i:Nat):∀w∈iv.l (iv.of 0 (dB (iv.l X) i v)),U w:=by
 have hs:=Eh h hv i
 intro w hw
 simp only[iv.l,iv.of,cQ,cR,or_false]at hw
 repeat(first|(rcases hw with rfl|hw;· exact AJ hs _)|(subst hw;exact AJ hs _))
theorem Zgk{X:A8 Int}(h:∀w∈A8.l X,U w){v:Int}(hv:U v)(i:Nat):∀w∈A8.l (A8.of 0 (dB (A8.l X) i v)),U w:=by
 have hs:=Eh h hv i
 intro w hw
 simp only[A8.l,A8.of,cQ,cR,or_false]at hw
 repeat(first|(rcases hw with rfl|hw;· exact AJ hs _)|(subst hw;exact AJ hs _))
section
variable {c:bn} (h:iI c)
include h
theorem iI.a(i:Nat):U ((A8.l c.C3).getD i 0):=AJ h.jj i
theorem iI.r(i:Nat):U ((iv.l c.X).getD i 0):=AJ h.x i
theorem iI.a0:U c.C3.a0:=h.a 0
theorem iI.a1:U c.C3.a1:=h.a 1
theorem iI.a2:U c.C3.a2:=h.a 2
theorem iI.a3:U c.C3.a3:=h.a 3
theorem iI.a4:U c.C3.a4:=h.a 4
theorem iI.a5:U c.C3.a5:=h.a 5
theorem iI.a6:U c.C3.a6:=h.a 6
theorem iI.a7:U c.C3.a7:=h.a 7
theorem iI.Aq{p:Int}(hp:U p):iI {X:=c.X,Pc:=p,C3:=c.C3}:=⟨h.x,hp,h.jj⟩
end
section
variable {α β:Type} {W:β->Prop} {t:Tree α} {Q:α->Prop} {k:α->Tree β}
theorem c6(hq:t.w Q)(g:∀x,Q x->(k x).w W):(Tree.an t.p (Tree.lv t.m k)).w W:=⟨(Tree.pp hq).1,λy hy=>g y (by rw[hy];exact(Tree.pp hq).2)⟩
theorem Zp(hq:t.w Q)(g:∀x,Q x->(k x).w W):(Tree.lv t.m k).w W:=λy hy=>g y (by rw[hy];exact t.post hq)
end
theorem rc{r:Int}(h:0<=r/\r<16):(bN 0 1&&decide (0<=r/\r<((16:Nat):Int)))=true:=by simp[bN];omega
theorem w9{a:Int}(h:U a)(b:Int):U (bc .u32 a b):=by
 unfold bc U
 obtain⟨h1,h2⟩:=h
 have hp:(0:Int)<2^(min b.toNat u32.bits):=dI (by decide)
 have:=Int.fdiv_nonneg h1 (dK hp)
 refine⟨this,?_⟩
 rw[dJ _ (dK hp)]
 have h3:=Int.ediv_le_self (2^(min b.toNat u32.bits)) h1
 omega
structure sj(i:gr):Prop where
 a:0<=i.A/\i.A<16
 b:0<=i.B/\i.B<16
 c:0<=i.C/\i.C<16
 jj:i.Op=58->0<=i.bw/\i.bw<8
theorem WM{P:Nat}{m:List Int}(h:ep P m):jK m=P:=by
 obtain⟨h1,h2,h3,_⟩:=h
 simp only[jK,Gg,Tree.m]
 have e:(m.length:Int)=32*P:=by omega
 rw[e]
 have e1:(cZ (32*(P:Int)) 32 !=0)=false:=by simp[gQ]
 have e2:decide ((32*(P:Int))>1024)=false:=dN (by omega)
 rw[e1,e2]
 simp only[cond_false]
 rw[gR _ (by decide),wrap_i64];omega
theorem qaa(n:Int):(QF n).w (λ_=>True):=by
 unfold QF
 exact ae (λ_=>trivial) (λ_=>ax (dY (by rw[wrap_u64];omega)) trivial)
theorem L4(w low n:Int):(QG w low n).w U:=by
 unfold QG
 exact ae (λ_=>gh) (λ_=>ae (λ_=>gh) (λ_=>ae (λ_=>gh) (λ_=>ax (dY (by rw[wrap_u64];omega)) (c6 (qaa n) λ_ _=>KU _ _))))
theorem Zre{w:Int}(hw:U w)(low n v:Int):(QH w low n v).w U:=by
 have h0:decide (0<=wrap u64 low)=true:=dY (by rw[wrap_u64];omega)
 unfold QH
 exact ae (λ_=>hw) (λ_=>ae (λ_=>hw) (λ_=>ae (λ_=>hw) (λ_=>c6 (qaa n) λ_ _=>ax h0 (ax h0 (ny _ _)))))
theorem Wt{x:Int}(hx:U x)(n:Int):(Q8 x n).w U:=by
 have h0:∀y,decide (0<=wrap u64 y)=true:=λy=>dY (by rw[wrap_u64];omega)
 unfold Q8
 exact ae (λ_=>gh) (λ_=>ae (λ_=>hx) (λ_=>ax (h0 _) (ax (h0 _) (fj _))))
section
variable {P:Nat} {m:List Int} (h:ep P m)
include h
theorem Gh:nI m:=by
 have:=h.len
 have:=h.p2
 show m.length<=35184372088832
 omega
theorem Zko{a:Int}(ha:U a){size:Int}(hs:size=1\/size=4):(Iq m a size).w (λb=>b=true->a+size<=128*P):=by
 have hp:=WM h
 have h2:=h.p2
 obtain⟨a1,a2⟩:=ha
 have e:decide (wrap u32 size≠0)=true:=by rcases hs with rfl|rfl<;>decide
 have l:∀x,x=jK m->decide (wrap u64 (wrap u64 a+wrap u64 size)<=wrap u64 (wrap u64 x*128))=true->a+size<=128*P:=λx hx hd=>by
  rw[hx,hp]at hd
  have:=oY hd
  simp only[wrap_u64]at this
  omega
 unfold Iq
 refine ae (λ_=>ae (λ_=>λh=>by cases h) (λ_=>?_)) (λ_=>?_)<;>
 exact ax e (ae (λ_=>λh=>by cases h) (λ_=>aq λx hx=>l x hx))
theorem Fm{a:Int}(ha:U a)(hl:a<128*P):(bX 1 1&&bN 0 1&&decide (0<=wrap u32 (eF a 4)/\wrap u32 (eF a 4)<(m.length:Int)))=true:=by
 obtain⟨a1,a2⟩:=ha
 have e:wrap u32 (eF a 4)=a/4:=by rw[wrap_u32,eG a1];omega
 have:=h.len
 rw[e];simp[bN];omega
theorem Ih{a:Int}(ha:U a){size:Int}(hs:size=1\/size=4):(KP m a size).w (λr=>U r.1/\(r.2=true->a<128*P)):=by
 unfold KP
 refine c6 (Zko h ha hs) λx hx=>ae (λ_=>⟨gh,λh=>by cases h⟩) (λhb=>?_)
 have hl:=hx (by simpa using hb)
 have hl:a<128*P:=by omega
 exact ax (Fm h ha hl) (ae (λ_=>c6 (L4 _ _ _) λy hy=>⟨hy,λ_=>hl⟩) (λ_=>⟨AJ h.u _,λ_=>hl⟩))
theorem SF{a:Int}(ha:U a){size:Int}(hs:size=1\/size=4){v:Int}(hv:U v):(KR m a size v).w (λr=>ep P r.1):=by
 have st:∀i v,U v->ep P (m.set i v):=λi v hv=>⟨by simp[h.len],h.p1,h.p2,Eh h.u hv i⟩
 have jf:ko m=m:=rfl
 unfold KR
 refine c9 (Gh h) (aq λx0 nH=>?_)
 rw[jf]at nH;subst nH
 refine c6 (Zko h ha hs) λx hx=>ae (λ_=>h) (λhb=>?_)
 have hl:=hx (by simpa using hb)
 have hl:a<128*P:=by omega
 exact ae (λ_=>ax (Fm h ha hl) (c6 (Zre (AJ h.u _) _ _ _) λy hy=>ax (Fm h ha hl) (st _ _ hy))) (λ_=>ax (Fm h ha hl) (st _ _ hv))
end
theorem ZG{r:Int}{used:Bool}(h:KJ r used=true):0<=r/\r<16:=by
 simp only[KJ,SJ,Tree.m]at h
 cases used
 ·have h:(r==0)=true:=h
  have:=eq_of_beq h;omega
 ·cases h1:decide (r>=0)<;>rw[h1]at h
  ·cases h
  ·have h1:=oY h1
   have h:=oY h
   omega
theorem xz{i:gr}(h:Io i=true):sj i:=by
 have no:false=true->sj i:=λh=>by cases h
 refine(Tree.post (NC i) (W:=λb=>b=true->sj i) ?_) h
 unfold NC
 refine aq λx0 h0=>ae (λ_=>aq λx1 h1=>ae (λb1=>aq λx2 h2=>ae (λb2=>aq λx3 h3=>ae (λb3=>ae (λb4=>λb5=>?_) (λ_=>no)) (λ_=>no)) (λ_=>no)) (λ_=>no)) (λ_=>no)
 have b4:=oY b4
 have b5:=oY b5
 refine⟨ZG (h1.symm.trans b1),ZG (h2.symm.trans b2),ZG (h3.symm.trans b3),λe=>?_⟩
 rw[e]at h0
 have h0:x0=({a:=true,b:=false,c:=false,low:=0,F4:=7},true):=h0
 subst h0
 simp at b4 b5;omega
theorem Wv(w:Int):(KL w).w (λr=>r.2=true->sj r.1):=by
 have no:∀{p:Prop},false=true->p:=λh=>by cases h
 have l:∀i,(Tree.lv (Io i) λx=>.br (!x) (.lf ((⟨0,0,0,0,0⟩:gr),false)) (.lf (i,true))).w (λr=>r.2=true->sj r.1):=λi=>aq λx hx=>ae (λ_=>no) (λhb=>λ_=>xz (hx.symm.trans (by simpa using hb)))
 unfold KL
 exact c6 (L4 _ _ _) λx0 _=>c6 (L4 _ _ _) λx1 _=>c6 (L4 _ _ _) λx2 _=>aq λx3 _=>ae (λ_=>no) (λ_=>c6 (L4 _ _ _) λx4 h4=>ae (λ_=>l _) (λ_=>ae (λ_=>c6 (Wt h4 _) λx6 _=>l _) (λ_=>l _)))
section
variable {P:Nat} {m:List Int} (h:ep P m)
include h
theorem zV{f:Int}(hf:U f):NI m f=decide (f<P):=by
 have:=WM h
 obtain⟨h1,h2⟩:=hf
 have h3:=h.p2
 simp only[NI,ZH,Tree.m,eh,this]
 congr 1
 rw[wrap_u64,wrap_u64,dH h1 (by omega),dH (by omega) (by omega)]
theorem qav{root va:Int}(hv:U va)(access:Int):(KT m root va access).w (λt=>U t.Addr/\U t.G1):=by
 have bad:U (0:Int)/\U (0:Int):=⟨gh,gh⟩
 have fr:∀x,(QI x).w U:=λx=>by
  unfold QI
  exact c6 (L4 _ _ _) λy hy=>hy
 unfold KT
 exact aq λx0 _=>ae (λ_=>bad) (λ_=>ae (λ_=>bad) (λ_=>aq λx1 _=>ae (λ_=>bad) (λ_=>c6 (Ih h (fj _) (.inr rfl)) λx2 _=>ae (λ_=>bad) (λ_=>aq λx3 _=>ae (λ_=>bad) (λ_=>c6 (fr _) λx4 _=>aq λx5 _=>ae (λ_=>bad) (λ_=>c6 (fr _) λx6 _=>⟨fj _,fj _⟩))))))
theorem yV{a:Int}(ha:U a)(access:Int):(Q9 m a access).w (ep P):=by
 have jf:ko m=m:=rfl
 unfold Q9
 exact c6 (Ih h ha (.inr rfl)) λx0 _=>ae (λ_=>c9 (Gh h) (aq λx1 h1=>by rw[h1,jf];exact h)) (λ_=>ae (λ_=>c6 (SF h ha (.inr rfl) (ny _ _)) λx hx=>hx) (λ_=>c6 (SF h ha (.inr rfl) (ny _ _)) λx hx=>hx))
theorem Ny{c:bn}{va:Int}(hv:U va){size:Int}(hs:size=1\/size=4)(access:Int):(K0 c m va size access).w (λr=>U r.1/\ep P r.2.1):=by
 have jf:ko m=m:=rfl
 have e:decide (wrap u32 size≠0)=true:=by rcases hs with rfl|rfl<;>decide
 have cl:∀(K:List Int->Int×List Int×Int),(∀x,x=m->U (K x).1/\ep P (K x).2.1)->(Tree.an (nI m) (.lv (ko m) λx=>.lf (K x))).w (λr=>U r.1/\ep P r.2.1):=λK hK=>c9 (Gh h) (aq λx hx=>hK x (hx.trans jf))
 have z:∀(k:Nat) (x:List Int),x=m->U (0:Int)/\ep P x:=λ_ x hx=>⟨gh,hx▸h⟩
 have v:∀x,x=m->U va/\ep P x:=λx hx=>⟨hv,hx▸h⟩
 have main:∀(x0:Int×Bool),(Tree.cn (decide (wrap u32 size≠0)) (.br (cZ va (wrap u32 size) !=0) (.an (nI m) (.lv (ko m) λx3=>.lf ((0:Int),x3,(3:Int)))) (.lv (Is c) λx4=>.br (!x4) (.br (bb u32 c.C3.a0 4 !=0) (.an (Qje m c.C3.a6 va access) (.lv (SN m c.C3.a6 va access) λx5=>.br (x5.G0 !=0) (.an (nI m) (.lv (ko m) λx6=>.lf (0,x6,x5.G0))) (.an (Qhd m x5.G1 access) (.lv (NK m x5.G1 access) λx7=>.lf (x5.Addr,x7,0))))) (.an (Jn m va size) (.lv (BO m va size) λx8=>.br (!x8.2) (.an (nI m) (.lv (ko m) λx9=>.lf (0,x9,x0.1))) (.an (nI m) (.lv (ko m) λmi=>.lf (va,mi,0)))))) (.an (Jn m va size) (.lv (BO m va size) λna=>.br (!na.2) (.an (nI m) (.lv (ko m) λpL=>.lf (0,pL,x0.1))) (.an (nI m) (.lv (ko m) λAr=>.lf (va,Ar,0)))))))).w (λr=>U r.1/\ep P r.2.1):=λx0=>
  ax e (ae (λ_=>cl _ (z 0)) (λ_=>aq λx4 _=>ae (λ_=>ae (λ_=>c6 (qav h hv access) λx5 hx=>ae (λ_=>cl _ (z 0)) (λ_=>c6 (yV h hx.2 access) λx7 h7=>⟨hx.1,h7⟩)) (λ_=>c6 (Ih h hv hs) λx8 _=>ae (λ_=>cl _ (z 0)) (λ_=>cl _ v))) (λ_=>c6 (Ih h hv hs) λx8 _=>ae (λ_=>cl _ (z 0)) (λ_=>cl _ v))))
 unfold K0
 exact aq λx0 _=>ae (λ_=>cl _ (z 0)) (λ_=>ae (λ_=>ae (λ_=>cl _ (z 0)) (λ_=>main x0)) (λ_=>main x0))
theorem Wu{c:bn}(hc:iI c):(QJ c m).w (λr=>U r.1/\ep P r.2.1):=by
 unfold QJ
 exact c6 (Ny h hc.pc (.inr rfl) 1) λx0 h0=>ae (λ_=>⟨gh,h0.2⟩) (λ_=>c6 (Ih h0.2 h0.1 (.inr rfl)) λx1 h1=>⟨h1.1,h0.2⟩)
end
theorem zav{s a b:Int}:U (w7 s a b):=by
 refine Tree.post (UG s a b) (W:=U) ?_
 unfold UG
 exact ae (λ_=>fj _) (λ_=>fj _)
section
variable {c:bn} (h:iI c)
include h
theorem Ik(k:Int){b:Int}(hb:U b):iI (pT c k b):=by
 refine(Tree.post (NM c k b) (W:=iI) ?_)
 unfold NM
 refine aq λ_ _=>aq λ_ _=>⟨h.x,h.a1,?_⟩
 intro w hw
 simp only[A8.l,cQ,cR,or_false]at hw
 rcases hw with rfl|rfl|rfl|rfl|rfl|rfl|rfl|rfl
 ·exact fj _
 ·exact h.a1
 ·exact h.pc
 ·exact fj _
 ·exact hb
 ·exact h.a5
 ·exact h.a6
 ·exact h.a7
theorem zz:iI (KD c):=by
 refine(Tree.post (NO c) (W:=iI) ?_)
 unfold NO
 refine aq λx0 _=>aq λx1 h1=>⟨h.x,h.a2,?_⟩
 intro w hw
 simp only[A8.l,cQ,cR,or_false]at hw
 rcases hw with rfl|rfl|rfl|rfl|rfl|rfl|rfl|rfl
 ·rw[h1];exact zav
 ·exact h.a1
 ·exact h.a2
 ·exact h.a3
 ·exact h.a4
 ·exact h.a5
 ·exact h.a6
 ·exact h.a7
theorem Dq{r:Int}(hr:0<=r/\r<16){v:Int}(hv:U v):(El c r v).w iI:=by
 unfold El
 exact ae (λ_=>ax (rc hr) ⟨Wy h.x hv _,h.pc,h.jj⟩) (λ_=>h)
theorem Zpk(k:Int){v:Int}(hv:U v):(Ie c k v).w iI:=by
 have ok:∀i v,U v->iI {X:=c.X,Pc:=c.Pc,C3:=A8.of 0 (dB (A8.l c.C3) i v)}:=λi v hv=>⟨h.x,h.pc,Zgk h.jj hv i⟩
 unfold Ie
 repeat'(first
  |exact h
  |exact ok _ _ (fj _)
  |exact ok _ _ hv
  |refine ae (λhk=>?_) (λ_=>?_)
  |refine ax (by rw[eq_of_beq (by assumption:(k==_)=true)];decide) ?_)
end
theorem Zkv{a b:Int}(ha:U a)(hb:U b):(KY a b).w (λr=>U r.1/\U r.2):=by
 have u1:U 4294967295:=⟨by omega,by omega⟩
 unfold KY
 refine ae (λ_=>⟨u1,ha⟩) (λh=>?_)
 have h:¬b=0:=by simpa using h
 obtain⟨b1,b2⟩:=hb
 have hc:decide (wrap i32 b≠0)=true:=dY (by rw[wrap_i32];omega)
 exact ae (λ_=>ae (λ_=>⟨ha,gh⟩) (λ_=>ax hc (ax hc ⟨fj _,fj _⟩))) (λ_=>ax hc (ax hc ⟨fj _,fj _⟩))
theorem xav(b:Bool):U (UH b):=by cases b<;>exact⟨by decide,by decide⟩
theorem KF(op:Int){a b:Int}(ha:U a)(hb:U b):(QK op a b).w (λr=>U r.1):=by
 unfold QK
 repeat'(first
  |refine ae (λ_=>?_) (λ_=>?_)
  |exact c6 (Zkv ha hb) λx hx=>hx.1
  |exact c6 (Zkv ha hb) λx hx=>hx.2
  |exact aq λx hx=>(by rw[hx];exact xav _)
  |refine bh ?_)
 all_goals(first
  |exact fj _
  |exact w9 ha _
  |exact gh)
theorem SE(op:Int):Jo op=1\/Jo op=4:=by
 simp only[Jo,ZI,Tree.m]
 cases op==32<;>cases op==35<;>simp
section
variable {c:bn} (h:iI c) {i:gr} (hi:sj i)
include h hi
theorem Zru:(Em c i).w (λr=>iI r.1/\U r.2.Value):=by
 have k:∀{x:bn} {p:Int},iI x->U p->iI {X:=x.X,Pc:=p,C3:=x.C3}:=λhx hp=>⟨hx.x,hp,hx.jj⟩
 unfold Em
 refine ax (rc hi.a) (ax (rc hi.b) ?_)
 repeat'(first
  |refine ae (λ_=>?_) (λ_=>?_)
  |exact c6 (Dq h hi.a (fj _)) λx hx=>⟨k hx (fj _),gh⟩
  |exact aq λx _=>ae (λ_=>⟨k h (fj _),gh⟩) (λ_=>⟨k h (fj _),gh⟩)
  |exact aq λx hx=>⟨by rw[hx];exact Ik h _ gh,gh⟩
  |exact aq λx hx=>⟨by rw[hx];exact zz h,gh⟩
  |exact ax (by have:=hi.jj (by simp_all);simp[bN];omega) (c6 (Dq h hi.a (h.a _)) λx hx=>⟨k hx (fj _),gh⟩)
  |exact c6 (Zpk h _ (h.r _)) λx hx=>⟨k hx (fj _),gh⟩
  |refine ax (rc hi.c) ?_
  |exact c6 (KF _ (h.r _) (fj _)) λy hy=>c6 (Dq h hi.a hy) λx hx=>⟨k hx (fj _),gh⟩
  |exact c6 (KF _ (h.r _) (h.r _)) λy hy=>c6 (Dq h hi.a hy) λx hx=>⟨k hx (fj _),gh⟩
  |refine bh ?_)
 all_goals(first
  |exact⟨k h (fj _),gh⟩
  |exact⟨k h (fj _),h.r _⟩)
theorem Z4b{P:Nat}{m:List Int}(hm:ep P m):(Ig c m i).w (λr=>iI r.1/\ep P r.2):=by
 have w:=SE i.Op
 unfold Ig
 refine ax (rc hi.b) (aq λx0 h0=>?_)
 rw[<-h0]at w
 refine c6 (Ny hm (fj _) w 2) λx1 h1=>ae (λ_=>aq λy hy=>⟨by rw[hy];exact Ik h _ (fj _),h1.2⟩) (λ_=>aq λx3 h3=>?_)
 rw[h0,<-h3]at w
 exact c6 (Ih h1.2 h1.1 w) λx4 h4=>ae (λ_=>c6 (Wt h4.1 8) λy hy=>c6 (Dq h hi.a hy) λx hx=>⟨⟨hx.x,fj _,hx.jj⟩,h1.2⟩) (λ_=>c6 (Dq h hi.a h4.1) λx hx=>⟨⟨hx.x,fj _,hx.jj⟩,h1.2⟩)
theorem Z11{P:Nat}{m:List Int}(hm:ep P m):(Ii c m i).w (λr=>iI r.1/\ep P r.2):=by
 have w:=SE i.Op
 unfold Ii
 refine ax (rc hi.b) (aq λx0 h0=>?_)
 rw[<-h0]at w
 refine c6 (Ny hm (fj _) w 3) λx1 h1=>ae (λ_=>aq λy hy=>⟨by rw[hy];exact Ik h _ (fj _),h1.2⟩) (λ_=>aq λx3 h3=>ax (rc hi.a) ?_)
 rw[h0,<-h3]at w
 exact c6 (SF h1.2 h1.1 w (h.r _)) λx hx=>⟨⟨h.x,fj _,h.jj⟩,hx⟩
end
theorem qaw{c:bn}(h:iI c){P:Nat}{m:List Int}(hm:ep P m):(En c m).w (λr=>iI r.1/\ep P r.2.1/\U r.2.2.Value):=by
 unfold En
 refine c6 (Wu hm h) λx0 h0=>ae (λ_=>aq λy hy=>⟨by rw[hy];exact Ik h _ h.pc,h0.2,gh⟩) (λ_=>c6 (Wv _) λx2 h2=>ae (λ_=>aq λy hy=>⟨by rw[hy];exact Ik h _ h0.1,h0.2,gh⟩) (λhb=>?_))
 have hi:=h2 (by simpa using hb)
 refine aq λx4 _=>?_
 repeat'(first
  |refine ae (λ_=>?_) (λ_=>?_)
  |exact c6 (Z4b h hi h0.2) λx hx=>⟨hx.1,hx.2,gh⟩
  |exact c6 (Z11 h hi h0.2) λx hx=>⟨hx.1,hx.2,gh⟩
  |exact c6 (Zru h hi) λx hx=>⟨hx.1,h0.2,hx.2⟩
  |exact aq λy hy=>⟨by rw[hy];exact Ik h _ h0.1,h0.2,gh⟩
  |refine aq λ_ _=>?_)
theorem UI{a:Int}(h:U a)(k:Nat)(hk:k<=32):0<=bc .u32 a k/\bc .u32 a k*2^k<=a:=by
 obtain⟨h1,h2⟩:=h
 unfold bc
 have e:min (k:Int).toNat u32.bits=k:=by show min (k:Int).toNat 32=k;omega
 have hp:(0:Int)<2^k:=dI (by decide)
 rw[e,dJ _ (dK hp)]
 exact⟨Int.ediv_nonneg h1 (dK hp),Int.ediv_mul_le a (Int.ne_of_gt hp)⟩
theorem Zp2(x:Int):0<=u8.wrap x/\u8.wrap x<256:=by rw[wrap_u8];omega
theorem zaw{x:Int}(h:U x):(Dn x).w (λ_=>True):=by
 have AH:=UI h 16 (by omega)
 have s8:=UI h 8 (by omega)
 have tZ:=UI (w9 h 16) 8 (by omega)
 obtain⟨h1,h2⟩:=h
 unfold Dn
 repeat'(first
  |refine ae (λ_=>?_) (λ_=>?_)
  |refine ax (dY ⟨?_,gS (b:=256) ?_ (gT (by kernel_rfl))⟩) ?_
  |exact trivial
  |refine bh ?_)
 all_goals(first
  |trivial
  |exact(Zp2 _).1
  |exact(Zp2 _).2
  |(simp only[decide_eq_true_eq,decide_eq_false_iff_not]at*;simp at AH s8 tZ;omega))
theorem BI(a:Int):bb .u32 a 255<256:=by
 unfold bb
 rw[wrap_u32]
 have:(dR u32.bits a&&&dR u32.bits 255).toNat<=255:=by
  show(dR 32 a&&&dR 32 255).toNat<=255
  rw[dU]
  exact Nat.le_trans Nat.and_le_right (by decide)
 omega
theorem zaJ{x:Int}(h:U x):(QL x).w (λ_=>True):=by
 have tZ:=UI h 24 (by omega)
 obtain⟨h1,h2⟩:=h
 have i24:bc .u32 x 24<256:=by simp at tZ;omega
 unfold QL
 repeat'(first
  |refine ax (dY ⟨?_,gS (b:=256) ?_ (gT (by kernel_rfl))⟩) ?_
  |exact trivial
  |refine bh ?_)
 all_goals(first
  |trivial
  |exact(fj _).1
  |exact tZ.1
  |exact i24
  |exact BI _)
structure w6(P:Nat)(m:bd):Prop where
 nZ:iI m.B4
 mem:ep P m.Mem
 lX:w5 m.B7
 u5:tY m.D2
 target:U m.A6.A2
 given:U m.A6.D0
theorem Zpd{b:gb}(h:U b.D0):(QM b).w (λ_=>True):=by
 unfold QM
 exact c6 (zaJ h) λ_ _=>trivial
theorem zaa{m:bd}(h:U m.A6.D0):(Jp m).w (λ_=>True):=by
 have b:∀x,(H8 m.A6 x).w (λ_=>True):=λx=>by
  unfold H8
  exact c6 (zaw h) λ_ _=>trivial
 have d:(Gi m).w (λ_=>True):=by
  unfold Gi
  exact aq λ_ _=>aq λ_ _=>ae (λ_=>aq λ_ _=>ae (λ_=>aq λ_ _=>ae (λ_=>aq λ_ _=>ae (λ_=>c6 (b _) λ_ _=>trivial) (λ_=>trivial)) (λ_=>trivial)) (λ_=>trivial)) (λ_=>trivial)
 unfold Jp
 repeat'(first
  |refine ae (λ_=>?_) (λ_=>?_)
  |exact c6 d λ_ _=>trivial
  |refine aq λ_ _=>?_
  |exact trivial)
theorem vV{m:bd}(h:U m.A6.D0):(Lg m).w (λ_=>True):=by
 have p:(K9 m.A6).w (λ_=>True):=by
  unfold K9
  exact c6 (Zpd h) λ_ _=>trivial
 unfold Lg
 refine aq λx0 _=>aq λx1 _=>aq λx2 _=>aq λx3 _=>c6 p λx4 _=>fp (inv:=λz=>0<=z.2/\z.2<=5) (μ:=Qj4 m) ⟨by omega,by omega⟩ (cN _) (λz hz=>?_)
 obtain⟨z1,z2⟩:=hz
 have ew:z.2<5->i64.wrap (z.2+1)=z.2+1:=λ_=>by rw[wrap_i64];omega
 refine ae (λhb=>?_) (λ_=>trivial)
 have hb:=oY hb
 have nx:(0<=i64.wrap (z.2+1)/\i64.wrap (z.2+1)<=5)/\(5-i64.wrap (z.2+1)).toNat<(5-z.2).toNat:=by rw[ew hb];omega
 refine ax (by simp;omega) (ae (λ_=>ax (dY z1) (e6 nx)) (λ_=>e6 nx))
theorem Zc1{m:bd}(h:U m.A6.D0):(Li m).w U:=by
 unfold Li
 exact c6 (vV h) λ_ _=>KU _ _
theorem xaw{m:bd}(h:U m.A6.D0):(Ij m).w (λ_=>True):=by
 have i:(Lk m).w (λ_=>True):=by
  unfold Lk
  exact ae (λ_=>c6 (Zc1 h) λ_ _=>trivial) (λ_=>trivial)
 unfold Ij
 exact c6 (zaa h) λ_ _=>ae (λ_=>ae (λ_=>c6 i λ_ _=>ae (λ_=>trivial) (λ_=>trivial)) (λ_=>trivial)) (λ_=>trivial)
theorem Dt{P:Nat}{m:List Int}(h:ep P m):u7 m=P:=by
 obtain⟨h1,h2,h3,_⟩:=h
 simp only[u7,ZJ,Tree.m]
 have e:(m.length:Int)=32*P:=by omega
 rw[e]
 have e1:(cZ (32*(P:Int)) 32 !=0)=false:=by simp[gQ]
 have e2:decide ((32*(P:Int))>1024)=false:=dN (by omega)
 rw[e1,e2]
 simp only[cond_false]
 rw[gR _ (by decide),wrap_i64];omega
theorem S6{P:Nat}{m:List Int}(h:ep P m){f:Int}(hf:U f):tk m f=decide (f<P):=by
 have:=Dt h
 obtain⟨h1,h2⟩:=hf
 have h3:=h.p2
 simp only[tk,NZ,Tree.m,eh,this]
 congr 1
 rw[wrap_u64,wrap_u64,dH h1 (by omega),dH (by omega) (by omega)]
theorem xaJ{P:Nat}{m:List Int}(h:ep P m):(Ln m).w (λr=>r=m):=by
 obtain⟨h1,h2,h3,_⟩:=h
 unfold Ln
 refine ax ?_ ?_
 ·simp[bN,D.plain];omega
 ·show _=_
  simp
theorem QN{P:Nat}{m:List Int}(h:ep P m){addr size v:Int}(ha:U addr)(hl:addr<4*m.length)(hv:U v):(KS m addr size v).w (ep P):=by
 obtain⟨h1,h2,h3,h4⟩:=h
 obtain⟨a1,a2⟩:=ha
 have e:wrap u32 (eF addr 4)=addr/4:=by rw[wrap_u32,eG a1];omega
 have hc:(bX 1 1&&bN 0 1&&decide (0<=wrap u32 (eF addr 4)/\wrap u32 (eF addr 4)<(m.length:Int)))=true:=by
  rw[e];simp[bN];omega
 have h0:∀x,decide (0<=wrap u32 x)=true:=λx=>dY (fj x).1
 have hs:∀i v,U v->ep P (m.set i v):=λi v hv=>⟨by simp[h1],h2,h3,Eh h4 hv i⟩
 unfold KS
 exact ae (λ_=>ax hc (hs _ _ hv)) (λ_=>ax hc (ax (h0 _) (ax (h0 _) (ax hc (hs _ _ (ny _ _))))))
section
variable {c:bn} (h:iI c)
include h
theorem Jq(k:Int){b:Int}(hb:U b):iI (pD c k b):=by
 refine(Tree.post (NN c k b) (W:=iI) ?_)
 unfold NN
 refine aq λ_ _=>aq λ_ _=>⟨h.x,h.a1,?_⟩
 intro w hw
 simp only[A8.l,cQ,cR,or_false]at hw
 rcases hw with rfl|rfl|rfl|rfl|rfl|rfl|rfl|rfl
 ·exact ny _ _
 ·exact h.a1
 ·exact h.pc
 ·exact fj _
 ·exact hb
 ·exact h.a5
 ·exact h.a6
 ·exact h.a7
theorem qW:iI (SQ c):=by
 refine(Tree.post (NP c) (W:=iI) ?_)
 unfold NP
 refine aq λ_ _=>aq λ_ _=>⟨h.x,h.a2,?_⟩
 intro w hw
 simp only[A8.l,cQ,cR,or_false]at hw
 rcases hw with rfl|rfl|rfl|rfl|rfl|rfl|rfl|rfl
 ·exact ny _ _
 ·exact h.a1
 ·exact h.a2
 ·exact h.a3
 ·exact h.a4
 ·exact h.a5
 ·exact h.a6
 ·exact h.a7
theorem Ee(r:Int){v:Int}(hv:U v):(It c r v).w iI:=by
 unfold It
 refine ae (λh1=>ae (λh2=>ax ?_ ⟨Wy h.x hv _,h.pc,h.jj⟩) (λ_=>h)) (λ_=>h)
 have h1:=oY h1
 have h2:=oY h2
 simp[bN];omega
theorem qax(k:Int){v:Int}(hv:U v):(K3 c k v).w iI:=by
 have ok:∀i v,U v->iI {X:=c.X,Pc:=c.Pc,C3:=A8.of 0 (dB (A8.l c.C3) i v)}:=λi v hv=>⟨h.x,h.pc,Zgk h.jj hv i⟩
 unfold K3
 repeat'(first
  |exact h
  |exact ok _ _ (fj _)
  |exact ok _ _ hv
  |refine ae (λhk=>?_) (λ_=>?_)
  |refine ax (by rw[eq_of_beq (by assumption:(k==_)=true)];decide) ?_)
end
section
variable {P:Nat} {m:List Int} (h:ep P m)
include h
theorem ZK(a:Int){size:Int}(hs:size=1\/size=4):(Ip m a size).w (λb=>b=true->a<128*P):=by
 have hp:=Dt h
 have h2:=h.p2
 have e:decide (wrap u32 size≠0)=true:=by rcases hs with rfl|rfl<;>decide
 have l:∀x,x=u7 m->decide (a<wrap u32 (wrap i64 (128*x)))=true->a<128*P:=λx hx hd=>by
  rw[hx,hp,wrap_u32,wrap_i64]at hd
  have:=oY hd
  omega
 unfold Ip
 refine ae (λ_=>ae (λ_=>λh=>by cases h) (λ_=>?_)) (λ_=>?_)<;>
 exact ax e (ae (λ_=>aq λx hx=>l x hx) (λ_=>λh=>by cases h))
theorem idx{a:Int}(ha:U a)(hl:a<128*P):(bX 1 1&&bN 0 1&&decide (0<=wrap u32 (eF a 4)/\wrap u32 (eF a 4)<(m.length:Int)))=true:=by
 obtain⟨a1,a2⟩:=ha
 have e:wrap u32 (eF a 4)=a/4:=by rw[wrap_u32,eG a1];omega
 have:=h.len
 rw[e];simp[bN];omega
theorem NX{a:Int}(ha:U a){size:Int}(hs:size=1\/size=4):(Dv m a size).w (λr=>U r.1):=by
 obtain⟨g1,g2⟩:=Tree.pp (ZK h a hs)
 unfold Dv
 refine c9 g1 (aq λx hx=>ae (λ_=>gh) (λhb=>?_))
 have hb:x=true:=by simpa using hb
 have hl:=g2 (hx.symm.trans hb)
 refine ax (idx h ha hl) (ae (λ_=>ax (dY (fj _).1) (fj _)) (λ_=>AJ h.u _))
theorem qaK{a:Int}(ha:U a)(access:Int):(KV m a access).w (ep P):=by
 obtain⟨g1,g2⟩:=Tree.pp (ZK h a (size:=4) (.inr rfl))
 have hs:∀{m:List Int} i v,ep P m->U v->ep P (m.set i v):=λi v h hv=>⟨by simp[h.len],h.p1,h.p2,Eh h.u hv i⟩
 unfold KV
 refine c9 g1 (aq λx hx=>ae (λ_=>h) (λhb=>?_))
 have hb:x=true:=by simpa using hb
 have hl:=g2 (hx.symm.trans hb)
 have i0:=idx h ha hl
 have h':=hs (Int.toNat (wrap u32 (eF a 4))) (iG u32 (m.getD (Int.toNat (wrap u32 (eF a 4))) 0) 8) h (ny _ _)
 have i1:=idx h' ha hl
 exact ax i0 (ax i0 (ae (λ_=>ax i1 (ax i1 (hs _ _ h' (ny _ _)))) (λ_=>h')))
theorem xaa{root va:Int}(hr:U root)(hv:U va)(access:Int):(Gs m root va access).w (λt=>U t.Addr/\U t.G1/\(t.G0=0->t.Addr<128*P)):=by
 have hp:=Dt h
 have h2:=h.p2
 have hlen:=h.len
 obtain⟨r1,r2⟩:=hr
 obtain⟨v1,v2⟩:=hv
 unfold Gs
 refine aq λx0 nH=>aq λx1 oR=>aq λx2 _=>?_
 have hc:x0≠0:=by
  rw[nH]
  simp only[BP,K1,Tree.m]
  cases access==1<;>cases access==3<;>simp
 rw[hp]at oR
 have bad:U (0:Int)/\U (0:Int)/\(x0=0->(0:Int)<128*P):=⟨gh,gh,λe=>absurd e hc⟩
 refine ae (λ_=>bad) (λ_=>ae (λ_=>bad) (λDx=>ae (λ_=>bad) (λDi=>?_)))
 have Dx:=oN Dx
 have Di:=oN Di
 have e1:wrap u32 x1=P:=by rw[oR,wrap_u32];omega
 rw[e1]at Di
 have e2:wrap u32 (wrap u32 (root*128)+wrap u32 (4*wrap u32 (eF va 128)))=root*128+4*(va/128):=by
  rw[eG v1,wrap_u32,wrap_u32,wrap_u32,wrap_u32];omega
 have hU:U (wrap u32 (wrap u32 (root*128)+wrap u32 (4*wrap u32 (eF va 128)))):=fj _
 have ci:=idx h hU (by rw[e2];omega)
 have gz:∀w:Int,decide (bb u32 w 255>=wrap u32 x1)=false->(U (wrap u32 (wrap u32 (bb u32 w 255*128)+cZ va 128))/\U (wrap u32 (wrap u32 (root*128)+wrap u32 (4*wrap u32 (eF va 128))))/\((0:Int)=0->wrap u32 (wrap u32 (bb u32 w 255*128)+cZ va 128)<128*P)):=λw hw=>by
  have hw:=oN hw
  rw[e1]at hw
  have hn:=(KU w 255).1
  refine⟨fj _,fj _,λ_=>?_⟩
  rw[Int.tmod_eq_emod_of_nonneg v1,wrap_u32,wrap_u32]
  generalize bb u32 w 255=q at*
  omega
 refine ax ci ?_
 repeat'(first
  |exact bad
  |exact gz _ (by assumption)
  |refine ae (λ_=>?_) (λ_=>?_)
  |refine ax ci ?_)
theorem SV{c:bn}(hc:iI c){va:Int}(hv:U va){size:Int}(hs:size=1\/size=4)(access:Int):(Iu c m va size access).w (λr=>ep P r.2.2/\U r.1/\(r.2.1=0->r.1<128*P)):=by
 have e:decide (wrap u32 size≠0)=true:=by rcases hs with rfl|rfl<;>decide
 obtain⟨g1,g2⟩:=Tree.pp (ZK h va hs)
 obtain⟨k1,k2⟩:=Tree.pp (xaa h hc.a6 hv access)
 have bad:∀k:Int,k≠0->ep P m/\U (0:Int)/\(k=0->(0:Int)<128*P):=λk hk=>⟨h,gh,λe=>absurd e hk⟩
 have hca:BP access≠0:=by
  simp only[BP,K1,Tree.m]
  cases access==1<;>cases access==3<;>simp
 unfold Iu
 refine aq λx0 _=>ae (λ_=>bad 5 (by decide)) (λ_=>ae (λh1=>ae (λh2=>?_) (λ_=>?_)) (λ_=>?_))
 ·exact bad 5 (by decide)
 all_goals(
  refine ax e (ae (λ_=>bad 3 (by decide)) (λ_=>aq λx1 _=>ae (λ_=>c9 g1 (aq λx2 Il=>ae (λ_=>aq λx3 hx3=>bad x3 (by rw[hx3];exact hca)) (λhb=>?_))) (λ_=>c9 k1 (aq λx4 hx4=>ae (λhb=>?_) (λhb=>?_)))))
  ·have hb:x2=true:=by simpa using hb
   exact⟨h,hv,λ_=>g2 (Il.symm.trans hb)⟩
  ·exact bad _ (by simpa using hb)
  ·obtain⟨t1,t2,t3⟩:=k2
   rw[show(Gs m c.C3.a6 va access).m=x4 from hx4.symm]at t1 t2 t3
   obtain⟨m1,m2⟩:=Tree.pp (qaK h t2 access)
   refine c9 m1 (aq λx5 hx5=>?_)
   exact⟨hx5▸m2,t1,λ_=>t3 (by simpa using hb)⟩)
end
theorem yz{r:Int}(h:KK r=true):0<=r/\r<16:=by
 simp only[KK,SK,Tree.m]at h
 cases h1:decide (r>=0)<;>rw[h1]at h
 ·cases h
 ·have h1:=oY h1
  have h:=oY h
  omega
theorem xW{i:gr}(hi:wrap .i64 i.bw=i.bw)(h:Er i=true):sj i:=by
 have no:false=true->sj i:=λh=>by cases h
 refine(Tree.post (ND i) (W:=λb=>b=true->sj i) ?_) h
 unfold ND
 refine aq λx0 h0=>ae (λ_=>no) (λ_=>aq λx1 h1=>ae (λ_=>no) (λb1=>aq λx2 h2=>ae (λ_=>no) (λb2=>aq λx3 h3=>ae (λ_=>no) (λb3=>aq λx4 h4=>ae (λ_=>no) (λb4=>ae (λ_=>no) (λb5=>?_))))))
 have b1:x1=true:=by simpa using b1
 have b2:x2=true:=by simpa using b2
 have b3:x3=true:=by simpa using b3
 have b4:=oN b4
 have b5:=oN b5
 rw[hi]at b4 b5
 have ok:sj i:=⟨yz (h1.symm.trans b1),yz (h2.symm.trans b2),yz (h3.symm.trans b3),λe=>by
  rw[e]at h0
  have h0:x0=8:=h0
  subst h0
  have h4:x4=(0,7):=h4
  subst h4
  simp at b4 b5;omega⟩
 repeat'(first
  |exactλ_=>ok
  |exact no
  |refine ae (λ_=>?_) (λ_=>?_))
theorem Zpc(w:Int):(KM w).w (λr=>r.2=true->sj r.1):=by
 have no:∀{p:Prop},false=true->p:=λh=>by cases h
 have e:∀x,wrap .i64 (wrap .i32 x)=wrap .i32 x:=λx=>by rw[wrap_i64,wrap_i32];omega
 have ok:∀i,wrap .i64 i.bw=i.bw->∀x,x=Er i->(!x)=false->true=true->sj i:=λi hi x hx hb _=>xW hi (hx.symm.trans (by simpa using hb))
 unfold KM
 refine aq λx0 _=>?_
 have l:∀i,wrap .i64 i.bw=i.bw->(Tree.lv (Er i) λx=>.br (!x) (.lf ((⟨0,0,0,0,0⟩:gr),false)) (.lf (i,true))).w (λr=>r.2=true->sj r.1):=λi hi=>aq λx hx=>ae (λ_=>no) (λhb=>ok i hi x hx hb)
 refine ae (λ_=>no) (λ_=>ae (λ_=>l _ rfl) (λ_=>ae (λ_=>l _ (e _)) (λ_=>ae (λ_=>l _ (e _)) (λ_=>l _ (e _)))))
theorem QO(b:Bool):U (BQ b):=by cases b<;>exact⟨by decide,by decide⟩
theorem Zp1{a b:Int}(ha:U a)(hb:U b):(KZ a b).w (λr=>U r.1/\U r.2):=by
 unfold KZ
 refine ae (λ_=>⟨⟨by omega,by omega⟩,ha⟩) (λh=>?_)
 have h:¬b=0:=by simpa using h
 obtain⟨b1,b2⟩:=hb
 have hc:decide (wrap i64 (wrap i32 b)≠0)=true:=dY (by rw[wrap_i64,wrap_i32];omega)
 exact ax hc (ax hc ⟨fj _,fj _⟩)
theorem Hi(op:Int){a b:Int}(ha:U a)(hb:U b):(QP op a b).w (λr=>U r.1):=by
 unfold QP
 refine aq λx0 _=>?_
 repeat'(first
  |exact fj _
  |exact w9 ha _
  |exact gh
  |refine ae (λ_=>?_) (λ_=>?_)
  |exact c6 (Zp1 ha hb) λx hx=>hx.1
  |exact c6 (Zp1 ha hb) λx hx=>hx.2
  |exact aq λx hx=>(by rw[hx];exact QO _))
theorem vz{x:Int}(hx:U x):(QQ x 8).w U:=by
 unfold QQ
 have h0:decide (0<=wrap u64 8)=true:=by decide
 refine ae (λh=>absurd h (by decide)) λ_=>ae (λh=>absurd h (by decide)) λ_=>ax h0 (ax (by decide) (ae (λ_=>ax h0 (ny _ _)) (λ_=>KU _ _)))
section
variable {c:bn} (h:iI c) {i:gr} (hi:sj i)
include h hi
theorem zW:(QR c i).w (λr=>iI r.1/\U r.2.Value):=by
 unfold QR
 refine ae (λ_=>aq λx hx=>⟨hx▸Jq h _ gh,gh⟩) (λ_=>ae (λ_=>aq λx hx=>⟨hx▸qW h,gh⟩) (λ_=>ae (λe=>ax ?_ (c6 (Ee h _ (h.a _)) λx hx=>⟨hx.Aq (fj _),gh⟩)) (λ_=>ae (λ_=>ax (rc hi.a) (c6 (qax h _ (h.r _)) λx hx=>⟨hx.Aq (fj _),gh⟩)) (λ_=>?_))))
 ·have:=hi.jj (by simpa using e)
  simp[bN];omega
 ·have k:=h.Aq (fj (c.Pc+4))
  repeat'(first
   |exact⟨k,gh⟩
   |exact⟨k,h.r _⟩
   |refine ae (λ_=>?_) (λ_=>?_)
   |refine ax (rc hi.a) ?_)
theorem zaK:(Qk c i).w iI:=by
 unfold Qk
 exact ae (λ_=>c6 (Ee h _ (fj _)) λx hx=>hx.Aq (fj _)) (λ_=>ae (λ_=>ax (rc hi.b) (c6 (Ee h _ (fj _)) λx hx=>hx.Aq (fj _))) (λ_=>ax (rc hi.a) (ax (rc hi.b) (aq λx _=>ae (λ_=>h.Aq (fj _)) (λ_=>h.Aq (fj _))))))
theorem Zr4{P:Nat}{m:List Int}(hm:ep P m):(Qa c m i).w (λr=>iI r.1/\ep P r.2):=by
  unfold Qa
  refine ax (rc hi.b) ?_
  have e1:(1:Int)=1\/(1:Int)=4:= .inl rfl
  have e4:(4:Int)=1\/(4:Int)=4:= .inr rfl
  repeat'(first
    |refine ae (λ_=> ?_) (λ_=> ?_)
    | (refine c6 (SV hm h (fj _) e4 _) λx hx=> ?_
       obtain⟨m1,m2,m3⟩:=hx
       refine ae (λ_=>aq λy hy=>⟨hy▸Jq h _ (fj _),m1⟩) (λhb=> ?_)
       have m3:=m3 (by simpa using hb)
       have m4:x.1<4*x.2.2.length:=by rw[m1.len];omega
       clear hb)
    | (refine c6 (SV hm h (fj _) e1 _) λx hx=> ?_
       obtain⟨m1,m2,m3⟩:=hx
       refine ae (λ_=>aq λy hy=>⟨hy▸Jq h _ (fj _),m1⟩) (λhb=> ?_)
       have m3:=m3 (by simpa using hb)
       have m4:x.1<4*x.2.2.length:=by rw[m1.len];omega
       clear hb)
    |exact ax (rc hi.a) (c6 (QN (by assumption) (by assumption) (by assumption) (h.r _)) λy hy=>⟨h.Aq (fj _),hy⟩)
    |(refine c6 (NX (by assumption) (by assumption) e4) λy hy=> ?_)
    |(refine c6 (NX (by assumption) (by assumption) e1) λy hy=> ?_)
    |exact c6 (vz (by assumption)) λz hz=>c6 (Ee h _ hz) λu hu=>⟨hu.Aq (fj _),by assumption⟩
    |exact c6 (Ee h _ (by assumption)) λu hu=>⟨hu.Aq (fj _),by assumption⟩)
end
theorem MY{c:bn}(h:iI c){P:Nat}{m:List Int}(hm:ep P m):(QS c m).w (λr=>iI r.1/\U r.2.1.Value/\ep P r.2.2):=by
 unfold QS
 refine c6 (SV hm h h.pc (.inr rfl) 1) λx0 hx=>?_
 obtain⟨m1,m2,m3⟩:=hx
 refine ae (λ_=>aq λy hy=>⟨hy▸Jq h _ h.pc,gh,m1⟩) (λhb=>?_)
 refine c6 (NX m1 m2 (.inr rfl)) λx2 h2=>Zp (Zpc _) λx3 h3=>ae (λ_=>aq λy hy=>⟨hy▸Jq h _ h2,gh,m1⟩) (λb3=>?_)
 have hi:=h3 (by simpa using b3)
 refine aq λx5 _=>?_
 repeat'(first
  |refine ae (λ_=>?_) (λ_=>?_)
  |exact aq λy hy=>⟨hy▸Jq h _ h2,gh,m1⟩
  |exact c6 (zW h hi) λy hy=>⟨hy.1,hy.2,m1⟩
  |exact c6 (zaK h hi) λy hy=>⟨hy,gh,m1⟩
  |exact c6 (Zr4 h hi m1) λy hy=>⟨hy.1,gh,hy.2⟩
  |exact c6 (Ee h _ (fj _)) λy hy=>⟨hy.Aq (fj _),gh,m1⟩
  |refine ax (rc hi.c) ?_
  |refine ax (rc hi.b) ?_
  |exact c6 (Hi _ (h.r _) (h.r _)) λy hy=>c6 (Ee h _ hy) λz hz=>⟨hz.Aq (fj _),gh,m1⟩
  |exact c6 (Hi _ (h.r _) (fj _)) λy hy=>c6 (Ee h _ hy) λz hz=>⟨hz.Aq (fj _),gh,m1⟩)
theorem Eu{q:Int}(h:U q):bb .u32 q 1=q%2:=by
 obtain⟨h1,h2⟩:=h
 unfold bb
 rw[wrap_u32]
 have e1:(dR 32 q).toNat=q.toNat:=by rw[BitVec.toNat_ofInt];omega
 have e2:(dR 32 1).toNat=1:=by decide
 have:(dR u32.bits q&&&dR u32.bits 1).toNat=q.toNat%2:=by
  show(dR 32 q&&&dR 32 1).toNat=_
  rw[dU,e1,e2,Nat.and_one_is_mod]
 rw[this];omega
theorem QT(b:Bool)(n:Int):(QU b n).w (λ_=>True):=by
 unfold QU
 exact ae (λ_=>ax (dY (by rw[wrap_u64];omega)) trivial) (λ_=>trivial)
theorem zax(m:bd):(QV m).w (λ_=>True):=by
 unfold QV
 exact aq λ_ _=>c6 (QT _ _) λ_ _=>aq λ_ _=>c6 (QT _ _) λ_ _=>aq λ_ _=>c6 (QT _ _) λ_ _=>aq λ_ _=>c6 (QT _ _) λ_ _=>aq λ_ _=>c6 (QT _ _) λ_ _=>trivial
theorem Zkr(m:bd):(Lj m).w U:=by
 unfold Lj
 exact c6 (zax m) λ_ _=>KU _ _
theorem xaK(m:bd):(Ll m).w (λ_=>True):=by
 unfold Ll
 exact ae (λ_=>c6 (Zkr m) λ_ _=>trivial) (λ_=>trivial)
theorem Qxa{m:bd}(h:iI m.B4):(Lm m).w iI:=by
 unfold Lm
 refine c6 (Zkr m) λx0 hx=>ae (λ_=>h) (λ_=>ae (λ_=>h) (λhb=>?_))
 have hb:x0≠0:=by simpa using hb
 have sh:∀z:Int,0<=z->z<=31->bc .u32 x0 (wrap .u64 z)=x0/2^z.toNat:=λz h1 h2=>by
  unfold bc
  have e:min (wrap .u64 z).toNat u32.bits=z.toNat:=by
   show min (wrap .u64 z).toNat 32=z.toNat
   rw[wrap_u64];omega
  rw[e,dJ _ (dK (dI (by decide)))]
 refine fp (inv:=λz=>0<=z/\z<=31/\x0/2^z.toNat≠0) (μ:=Qei m) ⟨by omega,by omega,by simpa using hb⟩ (cN _) (λz hz=>?_)
 obtain⟨z1,z2,z3⟩:=hz
 refine ax (dY (by rw[wrap_u64];omega)) (ae (λe=>e6 ?_) (λ_=>aq λy hy=>hy▸Jq h _ gh))
 have e:=eq_of_beq e
 have hq:=w9 hx (wrap .u64 z)
 rw[Eu hq,sh z z1 z2]at e
 rw[sh z z1 z2]at hq
 have bg:x0/2^z.toNat/2≠0:=by omega
 have z4:z<=30:=by
  rcases Int.lt_or_le z 31 with h|h
  ·omega
  ·have:z=31:=by omega
   subst this
   have:=hx.2
   have:=hx.1
   simp at z3 e bg
   omega
 show(0<=i64.wrap (z+1)/\i64.wrap (z+1)<=31/\x0/2^(i64.wrap (z+1)).toNat≠0)/\(32-i64.wrap (z+1)).toNat<(32-z).toNat
 have ew:i64.wrap (z+1)=z+1:=by rw[wrap_i64];omega
 rw[ew]
 refine⟨⟨by omega,by omega,?_⟩,by omega⟩
 have et:(z+1).toNat=z.toNat+1:=by omega
 rw[et,Int.pow_succ,<-Int.ediv_ediv_of_nonneg (dK (dI (by decide)))]
 exact bg
theorem xax{P:Nat}{m:bd}(h:iI m.B4)(hm:ep P m.Mem):(QW m).w (λ_=>True):=by
 unfold QW
 refine c6 (Qxa h) λx0 hx=>ae (λ_=>trivial) (λ_=>c6 (NX hm hx.pc (.inr rfl)) λx1 _=>aq λx2 _=>?_)
 exact ae (λ_=>ae (λ_=>ae (λ_=>trivial) (λ_=>trivial)) (λ_=>trivial)) (λ_=>trivial)
theorem Nj(l:List Int):(bytesOf l).length=l.length:=by simp[bytesOf]
theorem SM(l:List UInt8):(oU l).length=l.length:=by simp[oU]
theorem QX(x:Int):(L5 x 4).w (λr=>r.length=4):=by
 unfold L5
 refine fp (inv:=λz=>0<=z.1/\z.1<=4/\(z.2.length:Int)=z.1) (μ:=UJ x 4) ⟨by omega,by omega,rfl⟩ (cN _) (λz hz=>?_)
 obtain⟨z1,z2,z3⟩:=hz
 refine ae (λh=>ax (dY (by rw[wrap_u64];omega)) (ax (dY (by omega)) (e6 ?_))) (λh=>?_)
 ·have h:=oY h
  show(0<=i64.wrap (z.1+1)/\i64.wrap (z.1+1)<=4/\((z.2++[_]).length:Int)=i64.wrap (z.1+1))/\(4-i64.wrap (z.1+1)).toNat<(4-z.1).toNat
  have ew:i64.wrap (z.1+1)=z.1+1:=by rw[wrap_i64];omega
  rw[ew]
  refine⟨⟨by omega,by omega,by simp;omega⟩,by omega⟩
 ·have h:=oN h
  show(bytesOf z.2).length=4
  rw[Nj];omega
theorem qab{P:Nat}{m:List Int}(hm:ep P m)(frame:Int):(Gr m frame).w (λr=>0<=frame->frame<P->r.1.length=128):=by
 have hp:=Dt hm
 have hl:=hm.len
 have h2:=hm.p2
 unfold Gr
 refine ae (λh=>λh0 _=>by have:=oY h;omega) (λh=>aq λx0 hx=>ae (λh1=>λ_ h2=>by have:=oY h1;rw[hx,hp]at this;omega) (λh1=>?_))
 have h:=oN h
 have h1:=oN h1
 rw[hx,hp]at h1
 refine fp (inv:=λz=>0<=z.1/\z.1<=32/\(z.2.length:Int)=4*z.1) (μ:=WK m frame) ⟨by omega,by omega,rfl⟩ (cN _) (λz hz=>?_)
 obtain⟨z1,z2,z3⟩:=hz
 refine ae (λhb=>?_) (λhb=>?_)
 ·have hb:=oY hb
  have e:wrap i64 (wrap i64 (frame*32)+z.1)=frame*32+z.1:=by rw[wrap_i64,wrap_i64];omega
  refine ax (by rw[e];simp[bN];omega) (c9 (show(4:Int)<=1000000000000 by decide) (Zp (QX _) λx1 h4=>ax (dY (by rw[SM,h4];omega)) (e6 ?_)))
  show(0<=i64.wrap (z.1+1)/\i64.wrap (z.1+1)<=32/\((z.2++oU x1).length:Int)=4*i64.wrap (z.1+1))/\(32-i64.wrap (z.1+1)).toNat<(32-z.1).toNat
  have ew:i64.wrap (z.1+1)=z.1+1:=by rw[wrap_i64];omega
  rw[ew,lA,SM,h4]
  exact⟨⟨by omega,by omega,by omega⟩,by omega⟩
 ·have hb:=oN hb
  intro _ _
  show(bytesOf z.2).length=128
  rw[Nj];omega
theorem qA{P:Nat}{m:List Int}(hm:ep P m){d:fu}(hd:w5 d)(port:Int){v:Int}(hv:U v)(gj:Int):(K7 d m port v gj).w (λr=>w5 r.1/\r.2.length<=1):=by
 have k:∀st,w5 {ab:=d.ab,C8:=d.C8,Frame:=d.Frame,C7:=st,F6:=d.F6,C5:=d.C5,C6:=d.C6,C9:=d.C9}:=λst=>⟨hd.block,hd.frame,hd.j9,hd.ka⟩
 have k2:∀c o,w5 {ab:=d.ab,C8:=d.C8,Frame:=d.Frame,C7:=1,F6:=c,C5:=d.C8,C6:=d.Frame,C9:=o}:=λc o=>⟨hd.block,hd.frame,hd.block,hd.frame⟩
 have k3:w5 {ab:=d.ab,C8:=v,Frame:=d.Frame,C7:=d.C7,F6:=d.F6,C5:=d.C5,C6:=d.C6,C9:=d.C9}:=⟨hv,hd.frame,hd.j9,hd.ka⟩
 have k4:w5 {ab:=d.ab,C8:=d.C8,Frame:=v,C7:=d.C7,F6:=d.F6,C5:=d.C5,C6:=d.C6,C9:=d.C9}:=⟨hd.block,hv,hd.j9,hd.ka⟩
 unfold K7
 repeat'(first
  |refine ae (λ_=>?_) (λ_=>?_)
  |exact c6 (qab hm _) λ_ _=>aq λ_ _=>⟨k2 _ _,aX _⟩
  |refine aq (λ_ _=>?_)
  |refine bh ?_)
 all_goals(first
  |exact⟨hd,bC _⟩
  |exact⟨k _,bC _⟩
  |exact⟨k2 _ _,aX _⟩
  |exact⟨k3,bC _⟩
  |exact⟨k4,bC _⟩)
theorem yW{P:Nat}{m:List Int}(hm:ep P m){n:gw}(hn:tY n)(port:Int){v:Int}(hv:U v)(gj:Int):(K8 n m port v gj).w (λr=>tY r.1/\r.2.length<=1):=by
 have k1:tY {Frame:=v,F7:=n.F7,D1:=n.D1,D4:=n.D4,C4:=n.C4,F9:=n.F9}:=⟨hv,hn.len,hn.buffer,hn.Gk⟩
 have k2:tY {Frame:=n.Frame,F7:=v,D1:=n.D1,D4:=n.D4,C4:=n.C4,F9:=n.F9}:=⟨hn.frame,hv,hn.buffer,hn.Gk⟩
 have k3:tY {Frame:=n.Frame,F7:=n.F7,D1:=n.D1,D4:=n.D4,C4:=false,F9:=0}:=⟨hn.frame,hn.len,hn.buffer,gh⟩
 have k4:∀p r,tY {Frame:=n.Frame,F7:=n.F7,D1:=p,D4:=n.Frame,C4:=r,F9:=n.F9}:=λp r=>⟨hn.frame,hn.len,hn.frame,hn.Gk⟩
 have send:∀K:List UInt8×Bool->Tree (gw×List il),tk m n.Frame=true->(∀x:List UInt8×Bool,x.1.length=128->(K x).w (λr=>tY r.1/\r.2.length<=1))->(Tree.an (ZL m (wrap .i64 n.Frame)) (.lv (KN m (wrap .i64 n.Frame)) K)).w (λr=>tY r.1/\r.2.length<=1):=λK hp hK=>by
  rw[S6 hm hn.frame]at hp
  have hp:=oY hp
  obtain⟨f1,f2⟩:=hn.frame
  have ew:i64.wrap n.Frame=n.Frame:=by rw[wrap_i64];omega
  exact c6 (qab hm _) λx hx=>hK x (hx (by rw[ew];exact f1) (by rw[ew];exact hp))
 unfold K8
 repeat'(first
  |refine ae (λ_=>?_) (λ_=>?_)
  |refine send _ (by simp_all) (λx hx=>ax (by simp_all;exact hn.len.1) ?_)
  |refine aq (λ_ _=>?_)
  |refine bh ?_)
 all_goals(first
  |exact⟨hn,bC _⟩
  |exact⟨hn,aX _⟩
  |exact⟨k1,bC _⟩
  |exact⟨k2,bC _⟩
  |exact⟨k3,bC _⟩
  |exact⟨k4 _ _,bC _⟩)
def okB(b:gb):Prop:=U b.A2/\U b.D0
theorem qaL{P:Nat}{m:List Int}(hm:ep P m){b:gb}(hb:okB b)(port:Int){v:Int}(hv:U v):(AL b m port v).w (λr=>okB r.1/\ep P r.2):=by
 have Dk:decide (0<=v)=true:=dY hv.1
 have h2:=hm.p2
 have rest:(Tree.br (port==11) (.br (decide (v<32)) (.cn (decide (0<=v)) (.lf (({A2:=b.A2,D0:=oD .u32 b.D0 (eu .u32 1 v)}:gb),m))) (.lf (b,m))) (.lf (b,m))).w (λr=>okB r.1/\ep P r.2):=
  ae (λ_=>ae (λ_=>ax Dk ⟨⟨hb.1,fj _⟩,hm⟩) (λ_=>⟨hb,hm⟩)) (λ_=>⟨hb,hm⟩)
 unfold AL
 refine ae (λ_=>aq λx0 hx=>ae (λhp=>ax Dk (ae (λ_=>ax Dk ?_) (λ_=>rest))) (λ_=>rest)) (λ_=>rest)
 have hp:tk m v=true:=hx.symm.trans hp
 rw[S6 hm hv]at hp
 have hp:=oY hp
 obtain⟨v1,v2⟩:=hv
 refine fp (inv:=λz=>0<=z.1/\z.1<=32/\ep P z.2) (μ:=Xi b m port v) ⟨by omega,by omega,hm⟩ (cN _) (λz hz=>?_)
 obtain⟨z1,z2,z3⟩:=hz
 have hl:=z3.len
 refine ae (λh=>?_) (λ_=>⟨⟨hb.1,fj _⟩,z3⟩)
 have h:=oY h
 have e:wrap i64 (wrap i64 (wrap i64 v*32)+z.1)=v*32+z.1:=by rw[wrap_i64,wrap_i64,wrap_i64];omega
 refine ax (by rw[e];simp[bN];omega) (e6 ?_)
 show(0<=i64.wrap (z.1+1)/\i64.wrap (z.1+1)<=32/\ep P (dB _ _ _))/\(32-i64.wrap (z.1+1)).toNat<(32-z.1).toNat
 have ew:i64.wrap (z.1+1)=z.1+1:=by rw[wrap_i64];omega
 rw[ew]
 exact⟨⟨by omega,by omega,⟨by simp[hl],z3.p1,z3.p2,Eh z3.u gh _⟩⟩,by omega⟩
structure ry(P:Nat)(m:bd):Prop where
 nZ:iI m.B4
 mem:ep P m.Mem
 lX:w5 m.B7
 u5:tY m.D2
 target:okB m.A6
 te:0<=m.B6
theorem Zmx(c:iK)(port:Int):U (K6 c port).2:=by
 refine Tree.post (Gv c port) (W:=λr=>U r.2) ?_
 have u1:U 4294967295:=⟨by omega,by omega⟩
 unfold Gv
 refine ae (λ_=>ae (λ_=>u1) (λh=>ae (λ_=>ax ?_ (ax ?_ (fj _))) (λ_=>ae (λ_=>fj _) (λ_=>gh)))) (λh1=>ae (λh=>(by rw[h1]at h;cases h)) (λ_=>ae (λ_=>fj _) (λ_=>gh)))
 ·have h:¬(c.D9.length:Int)=0:=by simpa using h
  exact dY ⟨by omega,by omega,by omega⟩
 ·have h:¬(c.D9.length:Int)=0:=by simpa using h
  simp[bN];omega
theorem qay{n:gw}(h:tY n)(port:Int):U (SY n port):=by
 refine Tree.post (NY n port) (W:=U) ?_
 have u1:U 1:=⟨by omega,by omega⟩
 unfold NY
 exact ae (λ_=>h.frame) (λ_=>ae (λ_=>h.Gk) (λ_=>ae (λ_=>ae (λ_=>ae (λ_=>fj _) (λ_=>u1)) (λ_=>ae (λ_=>fj _) (λ_=>gh))) (λ_=>gh)))
theorem vW{d:fu}(h:w5 d)(port:Int):U (Xs d port):=by
 refine Tree.post (UK d port) (W:=U) ?_
 unfold UK
 exact ae (λ_=>h.block) (λ_=>ae (λ_=>h.frame) (λ_=>ae (λ_=>fj _) (λ_=>gh)))
theorem xA(t:iS):U (Xt t):=by
 refine Tree.post (UL t) (W:=U) ?_
 unfold UL
 exact ae (λ_=>⟨by omega,by omega⟩) (λ_=>gh)
theorem Zmy{b:gb}(h:U b.A2)(port:Int):U (La b port):=by
 refine Tree.post (Lb b port) (W:=U) ?_
 unfold Lb
 exact ae (λ_=>h) (λ_=>ae (λ_=>aq λ_ _=>fj _) (λ_=>gh))
theorem w0(x:Int):0<=u64.wrap x:=by rw[wrap_u64];omega
section
end
section

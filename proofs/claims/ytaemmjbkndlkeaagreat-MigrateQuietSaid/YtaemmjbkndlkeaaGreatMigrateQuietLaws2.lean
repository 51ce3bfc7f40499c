import Derived.Test.YtaemmjbkndlkeaaGreatMigrateQuietZt
open List renaming set->dB,mem_cons->cQ,not_mem_nil->cR
open Nat renaming blt->bN,beq->bX,lt_succ_self->cN,le_refl->aX,zero_le->bC
open Int renaming pow_pos->dI,le_of_lt->dK,fdiv_eq_ediv_of_nonneg->dJ,tmod->cZ,mul_tmod_right->gQ,mul_tdiv_cancel_left->gR,tdiv->eF,tdiv_eq_ediv_of_nonneg->eG,emod_eq_of_lt->dH,lt_of_lt_of_le->gS,le_of_eq->gT
open BitVec renaming ofInt->dR,toNat_and->dU
set_option maxRecDepth 100000
set_option linter.all false
namespace Go.Proofs.YtaemmjbkndlkeaaGreat
open Go Go.GD
open Go.IntKind(wrap i64 u32 u64 u8 i32 wrap_i64 wrap_u32 wrap_u64 wrap_u8 wrap_i32)
variable {P:Nat}{b f root size v va x:Int}{c:bq}{d:fw}{i:ia}{m:List Int}{n:gw}
def U(x:Int):Prop:=0<=x/\x<4294967296
theorem fq(x:Int):U (u32.wrap x):=by rw[wrap_u32];unfold U;omega
theorem K5(x y:Int):U (bc .u32 x y):=fq _
theorem nE(x y:Int):U (iN .u32 x y):=fq _
theorem gj:U 0:=⟨by omega,by omega⟩
theorem Es(h:∀w∈m,U w)(hv:U v)(i:Nat):∀w∈m.set i v,U w:=by
 intro w hw
 rcases List.mem_or_eq_of_mem_set hw with h1|h1
 ·exact h w h1
 ·rw[h1];exact hv
structure ep(P:Nat)(m:List Int):Prop where
 len:m.length=32*P
 p1:0<=P
 p2:P<=32
 u:∀w∈m,U w
structure Ah(d:fw):Prop where
 block:U d.C9
 frame:U d.Frame
 kf:U d.C5
 kg:U d.C6
structure uh(n:gw):Prop where
 frame:U n.Frame
 len:U n.F7
 buffer:U n.D4
 Gs:U n.F8
theorem AU{l:List Int}(h:∀w∈l,U w)(i:Nat):U (l.getD i 0):=by
 by_cases hi:i<l.length
 ·have:l.getD i 0=l[i]:=by simp[List.getD,hi]
  rw[this];exact h _ (List.getElem_mem hi)
 ·have:l.getD i 0=0:=by simp[List.getD,List.getElem?_eq_none (by omega:l.length<=i)]
  rw[this];exact gj
structure iR(c:bq):Prop where
 x:∀w∈iu.l c.X,U w
 pc:U c.Pc
 jr:∀w∈A8.l c.C2,U w
theorem WS{X:iu Int}(h:∀w∈iu.l X,U w)(hv:U v)(i:Nat):∀w∈iu.l (iu.of 0 (dB (iu.l X) i v)),U w:=by
 have hs:=Es h hv i
 intro w hw
 simp only[iu.l,iu.of,cQ,cR,or_false]at hw
 repeat(first|(rcases hw with rfl|hw;· exact AU hs _)|(subst hw;exact AU hs _))
theorem Zh0{X:A8 Int}(h:∀w∈A8.l X,U w)(hv:U v)(i:Nat):∀w∈A8.l (A8.of 0 (dB (A8.l X) i v)),U w:=by
 have hs:=Es h hv i
 intro w hw
 simp only[A8.l,A8.of,cQ,cR,or_false]at hw
 repeat(first|(rcases hw with rfl|hw;· exact AU hs _)|(subst hw;exact AU hs _))
section
variable {c:bq} (h:iR c)
include h
theorem iR.a(i:Nat):U ((A8.l c.C2).getD i 0):=AU h.jr i
theorem iR.r(i:Nat):U ((iu.l c.X).getD i 0):=AU h.x i
theorem iR.a0:U c.C2.a0:=h.a 0
theorem iR.a1:U c.C2.a1:=h.a 1
theorem iR.a2:U c.C2.a2:=h.a 2
theorem iR.a3:U c.C2.a3:=h.a 3
theorem iR.a4:U c.C2.a4:=h.a 4
theorem iR.a5:U c.C2.a5:=h.a 5
theorem iR.a6:U c.C2.a6:=h.a 6
theorem iR.a7:U c.C2.a7:=h.a 7
theorem iR.AE{p:Int}(hp:U p):iR {X:=c.X,Pc:=p,C2:=c.C2}:=⟨h.x,hp,h.jr⟩
end
section
variable {α β:Type} {W:β->Prop} {t:Tree α} {Q:α->Prop} {k:α->Tree β}
theorem cv(hq:t.w Q)(g:∀x,Q x->(k x).w W):(Tree.an t.p (Tree.lv t.m k)).w W:=⟨(Tree.pp hq).1,λy hy=>g y (by rw[hy];exact(Tree.pp hq).2)⟩
theorem SJ(hq:t.w Q)(g:∀x,Q x->(k x).w W):(Tree.lv t.m k).w W:=λy hy=>g y (by rw[hy];exact t.post hq)
end
theorem rc{r:Int}(h:0<=r/\r<16):(bN 0 1&&decide (0<=r/\r<((16:Nat):Int)))=true:=by simp[bN];omega
theorem Ak{a:Int}(h:U a)(b:Int):U (bm .u32 a b):=by
 unfold bm U
 obtain⟨h1,h2⟩:=h
 have hp:(0:Int)<2^(min b.toNat u32.bits):=dI (by decide)
 have:=Int.fdiv_nonneg h1 (dK hp)
 refine⟨this,?_⟩
 rw[dJ _ (dK hp)]
 have h3:=Int.ediv_le_self (2^(min b.toNat u32.bits)) h1
 omega
structure su(i:ia):Prop where
 a:0<=i.A/\i.A<16
 b:0<=i.B/\i.B<16
 c:0<=i.C/\i.C<16
 jr:i.Op=58->0<=i.cf/\i.cf<8
theorem W7(h:ep P m):jQ m=P:=by
 obtain⟨h1,h2,h3,_⟩:=h
 simp only[jQ,Gn,Tree.m]
 have e:(m.length:Int)=32*P:=by omega
 rw[e]
 have e1:(cZ (32*(P:Int)) 32 !=0)=false:=by simp[gQ]
 have e2:decide ((32*(P:Int))>1024)=false:=dN (by omega)
 rw[e1,e2]
 simp only[cond_false]
 rw[gR _ (by decide),wrap_i64];omega
theorem y8(n:Int):(QS n).w (λ_=>True):=by
 unfold QS
 exact ae (λ_=>trivial) (λ_=>ax (dY (by rw[wrap_u64];omega)) trivial)
theorem Mi(w low n:Int):(QT w low n).w U:=by
 unfold QT
 exact ae (λ_=>gj) (λ_=>ae (λ_=>gj) (λ_=>ae (λ_=>gj) (λ_=>ax (dY (by rw[wrap_u64];omega)) (cv (y8 n) λ_ _=>K5 _ _))))
theorem Zsl{w:Int}(hw:U w)(low n v:Int):(QU w low n v).w U:=by
 have h0:decide (0<=wrap u64 low)=true:=dY (by rw[wrap_u64];omega)
 unfold QU
 exact ae (λ_=>hw) (λ_=>ae (λ_=>hw) (λ_=>ae (λ_=>hw) (λ_=>cv (y8 n) λ_ _=>ax h0 (ax h0 (nE _ _)))))
theorem WM(hx:U x)(n:Int):(QV x n).w U:=by
 have h0:∀y,decide (0<=wrap u64 y)=true:=λy=>dY (by rw[wrap_u64];omega)
 unfold QV
 exact ae (λ_=>gj) (λ_=>ae (λ_=>hx) (λ_=>ax (h0 _) (ax (h0 _) (fq _))))
section
variable {P:Nat} {m:List Int} (h:ep P m)
include h
theorem Gp:nP m:=by
 have:=h.len
 have:=h.p2
 show m.length<=35184372088832
 omega
theorem Zkp{a:Int}(ha:U a)(hs:size=1\/size=4):(IE m a size).w (λb=>b=true->a+size<=128*P):=by
 have hp:=W7 h
 have h2:=h.p2
 obtain⟨a1,a2⟩:=ha
 have e:decide (wrap u32 size≠0)=true:=by rcases hs with rfl|rfl<;>decide
 have l:∀x,x=jQ m->decide (wrap u64 (wrap u64 a+wrap u64 size)<=wrap u64 (wrap u64 x*128))=true->a+size<=128*P:=λx hx hd=>by
  rw[hx,hp]at hd
  have:=oY hd
  simp only[wrap_u64]at this
  omega
 unfold IE
 refine ae (λ_=>ae (λ_=>λh=>by cases h) (λ_=>?_)) (λ_=>?_)<;>
 exact ax e (ae (λ_=>λh=>by cases h) (λ_=>aq λx hx=>l x hx))
theorem Fx{a:Int}(ha:U a)(hl:a<128*P):(bX 1 1&&bN 0 1&&decide (0<=wrap u32 (eF a 4)/\wrap u32 (eF a 4)<(m.length:Int)))=true:=by
 obtain⟨a1,a2⟩:=ha
 have e:wrap u32 (eF a 4)=a/4:=by rw[wrap_u32,eG a1];omega
 have:=h.len
 rw[e];simp[bN];omega
theorem Iw{a:Int}(ha:U a)(hs:size=1\/size=4):(KZ m a size).w (λr=>U r.1/\(r.2=true->a<128*P)):=by
 unfold KZ
 refine cv (Zkp h ha hs) λx hx=>ae (λ_=>⟨gj,λh=>by cases h⟩) (λhb=>?_)
 have hl:=hx (by simpa using hb)
 have hl:a<128*P:=by omega
 exact ax (Fx h ha hl) (ae (λ_=>cv (Mi _ _ _) λy hy=>⟨hy,λ_=>hl⟩) (λ_=>⟨AU h.u _,λ_=>hl⟩))
theorem SW{a:Int}(ha:U a)(hs:size=1\/size=4)(hv:U v):(K1 m a size v).w (λr=>ep P r.1):=by
 have st:∀i v,U v->ep P (m.set i v):=λi v hv=>⟨by simp[h.len],h.p1,h.p2,Es h.u hv i⟩
 have jn:kB m=m:=rfl
 unfold K1
 refine c7 (Gp h) (aq λx0 nO=>?_)
 rw[jn]at nO;subst nO
 refine cv (Zkp h ha hs) λx hx=>ae (λ_=>h) (λhb=>?_)
 have hl:=hx (by simpa using hb)
 have hl:a<128*P:=by omega
 exact ae (λ_=>ax (Fx h ha hl) (cv (Zsl (AU h.u _) _ _ _) λy hy=>ax (Fx h ha hl) (st _ _ hy))) (λ_=>ax (Fx h ha hl) (st _ _ hv))
end
theorem Zm1{r:Int}{used:Bool}(h:KU r used=true):0<=r/\r<16:=by
 simp only[KU,S0,Tree.m]at h
 cases used
 ·have h:(r==0)=true:=h
  have:=eq_of_beq h;omega
 ·cases h1:decide (r>=0)<;>rw[h1]at h
  ·cases h
  ·have h1:=oY h1
   have h:=oY h
   omega
theorem yy(h:IC i=true):su i:=by
 have no:false=true->su i:=λh=>by cases h
 refine(Tree.post (NP i) (W:=λb=>b=true->su i) ?_) h
 unfold NP
 refine aq λx0 h0=>ae (λ_=>aq λx1 h1=>ae (λb1=>aq λx2 h2=>ae (λb2=>aq λx3 h3=>ae (λb3=>ae (λb4=>λb5=>?_) (λ_=>no)) (λ_=>no)) (λ_=>no)) (λ_=>no)) (λ_=>no)
 have b4:=oY b4
 have b5:=oY b5
 refine⟨Zm1 (h1.symm.trans b1),Zm1 (h2.symm.trans b2),Zm1 (h3.symm.trans b3),λe=>?_⟩
 rw[e]at h0
 have h0:x0=({a:=true,b:=false,c:=false,low:=0,F4:=7},true):=h0
 subst h0
 simp at b4 b5;omega
theorem WO(w:Int):(Qd w).w (λr=>r.2=true->su r.1):=by
 have no:∀{p:Prop},false=true->p:=λh=>by cases h
 have l:∀i,(Tree.lv (IC i) λx=>.br (!x) (.lf ((⟨0,0,0,0,0⟩:ia),false)) (.lf (i,true))).w (λr=>r.2=true->su r.1):=λi=>aq λx hx=>ae (λ_=>no) (λhb=>λ_=>yy (hx.symm.trans (by simpa using hb)))
 unfold Qd
 exact cv (Mi _ _ _) λx0 _=>cv (Mi _ _ _) λx1 _=>cv (Mi _ _ _) λx2 _=>aq λx3 _=>ae (λ_=>no) (λ_=>cv (Mi _ _ _) λx4 h4=>ae (λ_=>l _) (λ_=>ae (λ_=>cv (WM h4 _) λx6 _=>l _) (λ_=>l _)))
section
variable {P:Nat} {m:List Int} (h:ep P m)
include h
theorem zU(hf:U f):NU m f=decide (f<P):=by
 have:=W7 h
 obtain⟨h1,h2⟩:=hf
 have h3:=h.p2
 simp only[NU,Qjf,Tree.m,ee,this]
 congr 1
 rw[wrap_u64,wrap_u64,dH h1 (by omega),dH (by omega) (by omega)]
theorem xat(hv:U va)(access:Int):(K4 m root va access).w (λt=>U t.Addr/\U t.G1):=by
 have bad:U (0:Int)/\U (0:Int):=⟨gj,gj⟩
 have fr:∀x,(QW x).w U:=λx=>by
  unfold QW
  exact cv (Mi _ _ _) λy hy=>hy
 unfold K4
 exact aq λx0 _=>ae (λ_=>bad) (λ_=>ae (λ_=>bad) (λ_=>aq λx1 _=>ae (λ_=>bad) (λ_=>cv (Iw h (fq _) (.inr rfl)) λx2 _=>ae (λ_=>bad) (λ_=>aq λx3 _=>ae (λ_=>bad) (λ_=>cv (fr _) λx4 _=>aq λx5 _=>ae (λ_=>bad) (λ_=>cv (fr _) λx6 _=>⟨fq _,fq _⟩))))))
theorem yU{a:Int}(ha:U a)(access:Int):(K6 m a access).w (ep P):=by
 have jn:kB m=m:=rfl
 unfold K6
 exact cv (Iw h ha (.inr rfl)) λx0 _=>ae (λ_=>c7 (Gp h) (aq λx1 h1=>by rw[h1,jn];exact h)) (λ_=>ae (λ_=>cv (SW h ha (.inr rfl) (nE _ _)) λx hx=>hx) (λ_=>cv (SW h ha (.inr rfl) (nE _ _)) λx hx=>hx))
theorem NL(hv:U va)(hs:size=1\/size=4)(access:Int):(Lc c m va size access).w (λr=>U r.1/\ep P r.2.1):=by
 have jn:kB m=m:=rfl
 have e:decide (wrap u32 size≠0)=true:=by rcases hs with rfl|rfl<;>decide
 have cl:∀(K:List Int->Int×List Int×Int),(∀x,x=m->U (K x).1/\ep P (K x).2.1)->(Tree.an (nP m) (.lv (kB m) λx=>.lf (K x))).w (λr=>U r.1/\ep P r.2.1):=λK hK=>c7 (Gp h) (aq λx hx=>hK x (hx.trans jn))
 have z:∀(k:Nat) (x:List Int),x=m->U (0:Int)/\ep P x:=λ_ x hx=>⟨gj,hx▸h⟩
 have v:∀x,x=m->U va/\ep P x:=λx hx=>⟨hv,hx▸h⟩
 have main:∀(x0:Int×Bool),(Tree.cn (decide (wrap u32 size≠0)) (.br (cZ va (wrap u32 size) !=0) (.an (nP m) (.lv (kB m) λx3=>.lf ((0:Int),x3,(3:Int)))) (.lv (IG c) λx4=>.br (!x4) (.br (bc u32 c.C2.a0 4 !=0) (.an (Qkv m c.C2.a6 va access) (.lv (S4 m c.C2.a6 va access) λx5=>.br (x5.G0 !=0) (.an (nP m) (.lv (kB m) λx6=>.lf (0,x6,x5.G0))) (.an (Qhf m x5.G1 access) (.lv (NW m x5.G1 access) λx7=>.lf (x5.Addr,x7,0))))) (.an (JA m va size) (.lv (BZ m va size) λx8=>.br (!x8.2) (.an (nP m) (.lv (kB m) λx9=>.lf (0,x9,x0.1))) (.an (nP m) (.lv (kB m) λkR=>.lf (va,kR,0)))))) (.an (JA m va size) (.lv (BZ m va size) λlW=>.br (!lW.2) (.an (nP m) (.lv (kB m) λoj=>.lf (0,oj,x0.1))) (.an (nP m) (.lv (kB m) λuO=>.lf (va,uO,0)))))))).w (λr=>U r.1/\ep P r.2.1):=λx0=>
  ax e (ae (λ_=>cl _ (z 0)) (λ_=>aq λx4 _=>ae (λ_=>ae (λ_=>cv (xat h hv access) λx5 hx=>ae (λ_=>cl _ (z 0)) (λ_=>cv (yU h hx.2 access) λx7 h7=>⟨hx.1,h7⟩)) (λ_=>cv (Iw h hv hs) λx8 _=>ae (λ_=>cl _ (z 0)) (λ_=>cl _ v))) (λ_=>cv (Iw h hv hs) λx8 _=>ae (λ_=>cl _ (z 0)) (λ_=>cl _ v))))
 unfold Lc
 exact aq λx0 _=>ae (λ_=>cl _ (z 0)) (λ_=>ae (λ_=>ae (λ_=>cl _ (z 0)) (λ_=>main x0)) (λ_=>main x0))
theorem WN(hc:iR c):(QX c m).w (λr=>U r.1/\ep P r.2.1):=by
 unfold QX
 exact cv (NL h hc.pc (.inr rfl) 1) λx0 h0=>ae (λ_=>⟨gj,h0.2⟩) (λ_=>cv (Iw h0.2 h0.1 (.inr rfl)) λx1 h1=>⟨h1.1,h0.2⟩)
end
theorem qau{s a b:Int}:U (Aj s a b):=by
 refine Tree.post (US s a b) (W:=U) ?_
 unfold US
 exact ae (λ_=>fq _) (λ_=>fq _)
section
variable {c:bq} (h:iR c)
include h
theorem Iz(k:Int)(hb:U b):iR (ra c k b):=by
 refine(Tree.post (NY c k b) (W:=iR) ?_)
 unfold NY
 refine aq λ_ _=>aq λ_ _=>⟨h.x,h.a1,?_⟩
 intro w hw
 simp only[A8.l,cQ,cR,or_false]at hw
 rcases hw with rfl|rfl|rfl|rfl|rfl|rfl|rfl|rfl
 ·exact fq _
 ·exact h.a1
 ·exact h.pc
 ·exact fq _
 ·exact hb
 ·exact h.a5
 ·exact h.a6
 ·exact h.a7
theorem qz:iR (KO c):=by
 refine(Tree.post (N0 c) (W:=iR) ?_)
 unfold N0
 refine aq λx0 _=>aq λx1 h1=>⟨h.x,h.a2,?_⟩
 intro w hw
 simp only[A8.l,cQ,cR,or_false]at hw
 rcases hw with rfl|rfl|rfl|rfl|rfl|rfl|rfl|rfl
 ·rw[h1];exact qau
 ·exact h.a1
 ·exact h.a2
 ·exact h.a3
 ·exact h.a4
 ·exact h.a5
 ·exact h.a6
 ·exact h.a7
theorem DE{r:Int}(hr:0<=r/\r<16)(hv:U v):(Ew c r v).w iR:=by
 unfold Ew
 exact ae (λ_=>ax (rc hr) ⟨WS h.x hv _,h.pc,h.jr⟩) (λ_=>h)
theorem Zpn(k:Int)(hv:U v):(Iu c k v).w iR:=by
 have ok:∀i v,U v->iR {X:=c.X,Pc:=c.Pc,C2:=A8.of 0 (dB (A8.l c.C2) i v)}:=λi v hv=>⟨h.x,h.pc,Zh0 h.jr hv i⟩
 unfold Iu
 repeat'(first
  |exact h
  |exact ok _ _ (fq _)
  |exact ok _ _ hv
  |refine ae (λhk=>?_) (λ_=>?_)
  |refine ax (by rw[eq_of_beq (by assumption:(k==_)=true)];decide) ?_)
end
theorem Zkd{a b:Int}(ha:U a)(hb:U b):(La a b).w (λr=>U r.1/\U r.2):=by
 have u1:U 4294967295:=⟨by omega,by omega⟩
 unfold La
 refine ae (λ_=>⟨u1,ha⟩) (λh=>?_)
 have h:¬b=0:=by simpa using h
 obtain⟨b1,b2⟩:=hb
 have hc:decide (wrap i32 b≠0)=true:=dY (by rw[wrap_i32];omega)
 exact ae (λ_=>ae (λ_=>⟨ha,gj⟩) (λ_=>ax hc (ax hc ⟨fq _,fq _⟩))) (λ_=>ax hc (ax hc ⟨fq _,fq _⟩))
theorem zau(b:Bool):U (UT b):=by cases b<;>exact⟨by decide,by decide⟩
theorem KQ(op:Int){a b:Int}(ha:U a)(hb:U b):(QY op a b).w (λr=>U r.1):=by
 unfold QY
 repeat'(first
  |refine ae (λ_=>?_) (λ_=>?_)
  |exact cv (Zkd ha hb) λx hx=>hx.1
  |exact cv (Zkd ha hb) λx hx=>hx.2
  |exact aq λx hx=>(by rw[hx];exact zau _)
  |refine bg ?_)
 all_goals(first
  |exact fq _
  |exact Ak ha _
  |exact gj)
theorem SV(op:Int):JB op=1\/JB op=4:=by
 simp only[JB,Qv4,Tree.m]
 cases op==32<;>cases op==35<;>simp
section
variable {c:bq} (h:iR c) {i:ia} (hi:su i)
include h hi
theorem Zrd:(Ey c i).w (λr=>iR r.1/\U r.2.Value):=by
 have k:∀{x:bq} {p:Int},iR x->U p->iR {X:=x.X,Pc:=p,C2:=x.C2}:=λhx hp=>⟨hx.x,hp,hx.jr⟩
 unfold Ey
 refine ax (rc hi.a) (ax (rc hi.b) ?_)
 repeat'(first
  |refine ae (λ_=>?_) (λ_=>?_)
  |exact cv (DE h hi.a (fq _)) λx hx=>⟨k hx (fq _),gj⟩
  |exact aq λx _=>ae (λ_=>⟨k h (fq _),gj⟩) (λ_=>⟨k h (fq _),gj⟩)
  |exact aq λx hx=>⟨by rw[hx];exact Iz h _ gj,gj⟩
  |exact aq λx hx=>⟨by rw[hx];exact qz h,gj⟩
  |exact ax (by have:=hi.jr (by simp_all);simp[bN];omega) (cv (DE h hi.a (h.a _)) λx hx=>⟨k hx (fq _),gj⟩)
  |exact cv (Zpn h _ (h.r _)) λx hx=>⟨k hx (fq _),gj⟩
  |refine ax (rc hi.c) ?_
  |exact cv (KQ _ (h.r _) (fq _)) λy hy=>cv (DE h hi.a hy) λx hx=>⟨k hx (fq _),gj⟩
  |exact cv (KQ _ (h.r _) (h.r _)) λy hy=>cv (DE h hi.a hy) λx hx=>⟨k hx (fq _),gj⟩
  |refine bg ?_)
 all_goals(first
  |exact⟨k h (fq _),gj⟩
  |exact⟨k h (fq _),h.r _⟩)
theorem Z5y(hm:ep P m):(Iv c m i).w (λr=>iR r.1/\ep P r.2):=by
 have w:=SV i.Op
 unfold Iv
 refine ax (rc hi.b) (aq λx0 h0=>?_)
 rw[<-h0]at w
 refine cv (NL hm (fq _) w 2) λx1 h1=>ae (λ_=>aq λy hy=>⟨by rw[hy];exact Iz h _ (fq _),h1.2⟩) (λ_=>aq λx3 h3=>?_)
 rw[h0,<-h3]at w
 exact cv (Iw h1.2 h1.1 w) λx4 h4=>ae (λ_=>cv (WM h4.1 8) λy hy=>cv (DE h hi.a hy) λx hx=>⟨⟨hx.x,fq _,hx.jr⟩,h1.2⟩) (λ_=>cv (DE h hi.a h4.1) λx hx=>⟨⟨hx.x,fq _,hx.jr⟩,h1.2⟩)
theorem Z1x(hm:ep P m):(Ix c m i).w (λr=>iR r.1/\ep P r.2):=by
 have w:=SV i.Op
 unfold Ix
 refine ax (rc hi.b) (aq λx0 h0=>?_)
 rw[<-h0]at w
 refine cv (NL hm (fq _) w 3) λx1 h1=>ae (λ_=>aq λy hy=>⟨by rw[hy];exact Iz h _ (fq _),h1.2⟩) (λ_=>aq λx3 h3=>ax (rc hi.a) ?_)
 rw[h0,<-h3]at w
 exact cv (SW h1.2 h1.1 w (h.r _)) λx hx=>⟨⟨h.x,fq _,h.jr⟩,hx⟩
end
theorem xau(h:iR c)(hm:ep P m):(Ez c m).w (λr=>iR r.1/\ep P r.2.1/\U r.2.2.Value):=by
 unfold Ez
 refine cv (WN hm h) λx0 h0=>ae (λ_=>aq λy hy=>⟨by rw[hy];exact Iz h _ h.pc,h0.2,gj⟩) (λ_=>cv (WO _) λx2 h2=>ae (λ_=>aq λy hy=>⟨by rw[hy];exact Iz h _ h0.1,h0.2,gj⟩) (λhb=>?_))
 have hi:=h2 (by simpa using hb)
 refine aq λx4 _=>?_
 repeat'(first
  |refine ae (λ_=>?_) (λ_=>?_)
  |exact cv (Z5y h hi h0.2) λx hx=>⟨hx.1,hx.2,gj⟩
  |exact cv (Z1x h hi h0.2) λx hx=>⟨hx.1,hx.2,gj⟩
  |exact cv (Zrd h hi) λx hx=>⟨hx.1,h0.2,hx.2⟩
  |exact aq λy hy=>⟨by rw[hy];exact Iz h _ h0.1,h0.2,gj⟩
  |refine aq λ_ _=>?_)
theorem UU{a:Int}(h:U a)(k:Nat)(hk:k<=32):0<=bm .u32 a k/\bm .u32 a k*2^k<=a:=by
 obtain⟨h1,h2⟩:=h
 unfold bm
 have e:min (k:Int).toNat u32.bits=k:=by show min (k:Int).toNat 32=k;omega
 have hp:(0:Int)<2^k:=dI (by decide)
 rw[e,dJ _ (dK hp)]
 exact⟨Int.ediv_nonneg h1 (dK hp),Int.ediv_mul_le a (Int.ne_of_gt hp)⟩
theorem Zpp(x:Int):0<=u8.wrap x/\u8.wrap x<256:=by rw[wrap_u8];omega
theorem qav(h:U x):(DC x).w (λ_=>True):=by
 have AS:=UU h 16 (by omega)
 have s8:=UU h 8 (by omega)
 have ui:=UU (Ak h 16) 8 (by omega)
 obtain⟨h1,h2⟩:=h
 unfold DC
 repeat'(first
  |refine ae (λ_=>?_) (λ_=>?_)
  |refine ax (dY ⟨?_,gS (b:=256) ?_ (gT (by kernel_rfl))⟩) ?_
  |exact trivial
  |refine bg ?_)
 all_goals(first
  |trivial
  |exact(Zpp _).1
  |exact(Zpp _).2
  |(simp only[decide_eq_true_eq,decide_eq_false_iff_not]at*;simp at AS s8 ui;omega))
theorem BT(a:Int):bc .u32 a 255<256:=by
 unfold bc
 rw[wrap_u32]
 have:(dR u32.bits a&&&dR u32.bits 255).toNat<=255:=by
  show(dR 32 a&&&dR 32 255).toNat<=255
  rw[dU]
  exact Nat.le_trans Nat.and_le_right (by decide)
 omega
theorem xaH(h:U x):(QZ x).w (λ_=>True):=by
 have ui:=UU h 24 (by omega)
 obtain⟨h1,h2⟩:=h
 have i24:bm .u32 x 24<256:=by simp at ui;omega
 unfold QZ
 repeat'(first
  |refine ax (dY ⟨?_,gS (b:=256) ?_ (gT (by kernel_rfl))⟩) ?_
  |exact trivial
  |refine bg ?_)
 all_goals(first
  |trivial
  |exact(fq _).1
  |exact ui.1
  |exact i24
  |exact BT _)
structure Ai(P:Nat)(m:bb):Prop where
 oh:iR m.B2
 mem:ep P m.Mem
 mi:Ah m.B5
 wo:uh m.D1
 target:U m.A6.A2
 given:U m.A6.D0
theorem Zpd{b:gm}(h:U b.D0):(Ra b).w (λ_=>True):=by
 unfold Ra
 exact cv (xaH h) λ_ _=>trivial
theorem v8{m:bb}(h:U m.A6.D0):(JC m).w (λ_=>True):=by
 have b:∀x,(Ip m.A6 x).w (λ_=>True):=λx=>by
  unfold Ip
  exact cv (qav h) λ_ _=>trivial
 have d:(Gq m).w (λ_=>True):=by
  unfold Gq
  exact aq λ_ _=>aq λ_ _=>ae (λ_=>aq λ_ _=>ae (λ_=>aq λ_ _=>ae (λ_=>aq λ_ _=>ae (λ_=>cv (b _) λ_ _=>trivial) (λ_=>trivial)) (λ_=>trivial)) (λ_=>trivial)) (λ_=>trivial)
 unfold JC
 repeat'(first
  |refine ae (λ_=>?_) (λ_=>?_)
  |exact cv d λ_ _=>trivial
  |refine aq λ_ _=>?_
  |exact trivial)
theorem vU{m:bb}(h:U m.A6.D0):(Lr m).w (λ_=>True):=by
 have p:(Ll m.A6).w (λ_=>True):=by
  unfold Ll
  exact cv (Zpd h) λ_ _=>trivial
 unfold Lr
 refine aq λx0 _=>aq λx1 _=>aq λx2 _=>aq λx3 _=>cv p λx4 _=>fk (inv:=λz=>0<=z.2/\z.2<=5) (μ:=Qj7 m) ⟨by omega,by omega⟩ (cN _) (λz hz=>?_)
 obtain⟨z1,z2⟩:=hz
 have ew:z.2<5->i64.wrap (z.2+1)=z.2+1:=λ_=>by rw[wrap_i64];omega
 refine ae (λhb=>?_) (λ_=>trivial)
 have hb:=oY hb
 have nx:(0<=i64.wrap (z.2+1)/\i64.wrap (z.2+1)<=5)/\(5-i64.wrap (z.2+1)).toNat<(5-z.2).toNat:=by rw[ew hb];omega
 refine ax (by simp;omega) (ae (λ_=>ax (dY z1) (ez nx)) (λ_=>ez nx))
theorem Zd3{m:bb}(h:U m.A6.D0):(Lt m).w U:=by
 unfold Lt
 exact cv (vU h) λ_ _=>K5 _ _
theorem zav{m:bb}(h:U m.A6.D0):(Iy m).w (λ_=>True):=by
 have i:(Lu m).w (λ_=>True):=by
  unfold Lu
  exact ae (λ_=>cv (Zd3 h) λ_ _=>trivial) (λ_=>trivial)
 unfold Iy
 exact cv (v8 h) λ_ _=>ae (λ_=>ae (λ_=>cv i λ_ _=>ae (λ_=>trivial) (λ_=>trivial)) (λ_=>trivial)) (λ_=>trivial)
theorem DG(h:ep P m):wu m=P:=by
 obtain⟨h1,h2,h3,_⟩:=h
 simp only[wu,Qrq,Tree.m]
 have e:(m.length:Int)=32*P:=by omega
 rw[e]
 have e1:(cZ (32*(P:Int)) 32 !=0)=false:=by simp[gQ]
 have e2:decide ((32*(P:Int))>1024)=false:=dN (by omega)
 rw[e1,e2]
 simp only[cond_false]
 rw[gR _ (by decide),wrap_i64];omega
theorem Tm(h:ep P m)(hf:U f):tC m f=decide (f<P):=by
 have:=DG h
 obtain⟨h1,h2⟩:=hf
 have h3:=h.p2
 simp only[tC,Ob,Tree.m,ee,this]
 congr 1
 rw[wrap_u64,wrap_u64,dH h1 (by omega),dH (by omega) (by omega)]
theorem qaI(h:ep P m):(Lx m).w (λr=>r=m):=by
 obtain⟨h1,h2,h3,_⟩:=h
 unfold Lx
 refine ax ?_ ?_
 ·simp[bN,D.plain];omega
 ·show _=_
  simp
theorem Rb(h:ep P m){addr size v:Int}(ha:U addr)(hl:addr<4*m.length)(hv:U v):(K3 m addr size v).w (ep P):=by
 obtain⟨h1,h2,h3,h4⟩:=h
 obtain⟨a1,a2⟩:=ha
 have e:wrap u32 (eF addr 4)=addr/4:=by rw[wrap_u32,eG a1];omega
 have hc:(bX 1 1&&bN 0 1&&decide (0<=wrap u32 (eF addr 4)/\wrap u32 (eF addr 4)<(m.length:Int)))=true:=by
  rw[e];simp[bN];omega
 have h0:∀x,decide (0<=wrap u32 x)=true:=λx=>dY (fq x).1
 have hs:∀i v,U v->ep P (m.set i v):=λi v hv=>⟨by simp[h1],h2,h3,Es h4 hv i⟩
 unfold K3
 exact ae (λ_=>ax hc (hs _ _ hv)) (λ_=>ax hc (ax (h0 _) (ax (h0 _) (ax hc (hs _ _ (nE _ _))))))
section
variable {c:bq} (h:iR c)
include h
theorem JD(k:Int)(hb:U b):iR (pL c k b):=by
 refine(Tree.post (NZ c k b) (W:=iR) ?_)
 unfold NZ
 refine aq λ_ _=>aq λ_ _=>⟨h.x,h.a1,?_⟩
 intro w hw
 simp only[A8.l,cQ,cR,or_false]at hw
 rcases hw with rfl|rfl|rfl|rfl|rfl|rfl|rfl|rfl
 ·exact nE _ _
 ·exact h.a1
 ·exact h.pc
 ·exact fq _
 ·exact hb
 ·exact h.a5
 ·exact h.a6
 ·exact h.a7
theorem xV:iR (S7 c):=by
 refine(Tree.post (N1 c) (W:=iR) ?_)
 unfold N1
 refine aq λ_ _=>aq λ_ _=>⟨h.x,h.a2,?_⟩
 intro w hw
 simp only[A8.l,cQ,cR,or_false]at hw
 rcases hw with rfl|rfl|rfl|rfl|rfl|rfl|rfl|rfl
 ·exact nE _ _
 ·exact h.a1
 ·exact h.a2
 ·exact h.a3
 ·exact h.a4
 ·exact h.a5
 ·exact h.a6
 ·exact h.a7
theorem Eo(r:Int)(hv:U v):(IH c r v).w iR:=by
 unfold IH
 refine ae (λh1=>ae (λh2=>ax ?_ ⟨WS h.x hv _,h.pc,h.jr⟩) (λ_=>h)) (λ_=>h)
 have h1:=oY h1
 have h2:=oY h2
 simp[bN];omega
theorem xav(k:Int)(hv:U v):(Lf c k v).w iR:=by
 have ok:∀i v,U v->iR {X:=c.X,Pc:=c.Pc,C2:=A8.of 0 (dB (A8.l c.C2) i v)}:=λi v hv=>⟨h.x,h.pc,Zh0 h.jr hv i⟩
 unfold Lf
 repeat'(first
  |exact h
  |exact ok _ _ (fq _)
  |exact ok _ _ hv
  |refine ae (λhk=>?_) (λ_=>?_)
  |refine ax (by rw[eq_of_beq (by assumption:(k==_)=true)];decide) ?_)
end
section
variable {P:Nat} {m:List Int} (h:ep P m)
include h
theorem Zfc(a:Int)(hs:size=1\/size=4):(ID m a size).w (λb=>b=true->a<128*P):=by
 have hp:=DG h
 have h2:=h.p2
 have e:decide (wrap u32 size≠0)=true:=by rcases hs with rfl|rfl<;>decide
 have l:∀x,x=wu m->decide (a<wrap u32 (wrap i64 (128*x)))=true->a<128*P:=λx hx hd=>by
  rw[hx,hp,wrap_u32,wrap_i64]at hd
  have:=oY hd
  omega
 unfold ID
 refine ae (λ_=>ae (λ_=>λh=>by cases h) (λ_=>?_)) (λ_=>?_)<;>
 exact ax e (ae (λ_=>aq λx hx=>l x hx) (λ_=>λh=>by cases h))
theorem idx{a:Int}(ha:U a)(hl:a<128*P):(bX 1 1&&bN 0 1&&decide (0<=wrap u32 (eF a 4)/\wrap u32 (eF a 4)<(m.length:Int)))=true:=by
 obtain⟨a1,a2⟩:=ha
 have e:wrap u32 (eF a 4)=a/4:=by rw[wrap_u32,eG a1];omega
 have:=h.len
 rw[e];simp[bN];omega
theorem N9{a:Int}(ha:U a)(hs:size=1\/size=4):(DI m a size).w (λr=>U r.1):=by
 obtain⟨g1,g2⟩:=Tree.pp (Zfc h a hs)
 unfold DI
 refine c7 g1 (aq λx hx=>ae (λ_=>gj) (λhb=>?_))
 have hb:x=true:=by simpa using hb
 have hl:=g2 (hx.symm.trans hb)
 refine ax (idx h ha hl) (ae (λ_=>ax (dY (fq _).1) (fq _)) (λ_=>AU h.u _))
theorem zaI{a:Int}(ha:U a)(access:Int):(K7 m a access).w (ep P):=by
 obtain⟨g1,g2⟩:=Tree.pp (Zfc h a (size:=4) (.inr rfl))
 have hs:∀{m:List Int} i v,ep P m->U v->ep P (m.set i v):=λi v h hv=>⟨by simp[h.len],h.p1,h.p2,Es h.u hv i⟩
 unfold K7
 refine c7 g1 (aq λx hx=>ae (λ_=>h) (λhb=>?_))
 have hb:x=true:=by simpa using hb
 have hl:=g2 (hx.symm.trans hb)
 have i0:=idx h ha hl
 have h':=hs (Int.toNat (wrap u32 (eF a 4))) (iN u32 (m.getD (Int.toNat (wrap u32 (eF a 4))) 0) 8) h (nE _ _)
 have i1:=idx h' ha hl
 exact ax i0 (ax i0 (ae (λ_=>ax i1 (ax i1 (hs _ _ h' (nE _ _)))) (λ_=>h')))
theorem y9(hr:U root)(hv:U va)(access:Int):(Gz m root va access).w (λt=>U t.Addr/\U t.G1/\(t.G0=0->t.Addr<128*P)):=by
 have hp:=DG h
 have h2:=h.p2
 have hlen:=h.len
 obtain⟨r1,r2⟩:=hr
 obtain⟨v1,v2⟩:=hv
 unfold Gz
 refine aq λx0 nO=>aq λx1 o4=>aq λx2 _=>?_
 have hc:x0≠0:=by
  rw[nO]
  simp only[Ca,Ld,Tree.m]
  cases access==1<;>cases access==3<;>simp
 rw[hp]at o4
 have bad:U (0:Int)/\U (0:Int)/\(x0=0->(0:Int)<128*P):=⟨gj,gj,λe=>absurd e hc⟩
 refine ae (λ_=>bad) (λ_=>ae (λ_=>bad) (λDK=>ae (λ_=>bad) (λDx=>?_)))
 have DK:=oN DK
 have Dx:=oN Dx
 have e1:wrap u32 x1=P:=by rw[o4,wrap_u32];omega
 rw[e1]at Dx
 have e2:wrap u32 (wrap u32 (root*128)+wrap u32 (4*wrap u32 (eF va 128)))=root*128+4*(va/128):=by
  rw[eG v1,wrap_u32,wrap_u32,wrap_u32,wrap_u32];omega
 have hU:U (wrap u32 (wrap u32 (root*128)+wrap u32 (4*wrap u32 (eF va 128)))):=fq _
 have ci:=idx h hU (by rw[e2];omega)
 have gu:∀w:Int,decide (bc u32 w 255>=wrap u32 x1)=false->(U (wrap u32 (wrap u32 (bc u32 w 255*128)+cZ va 128))/\U (wrap u32 (wrap u32 (root*128)+wrap u32 (4*wrap u32 (eF va 128))))/\((0:Int)=0->wrap u32 (wrap u32 (bc u32 w 255*128)+cZ va 128)<128*P)):=λw hw=>by
  have hw:=oN hw
  rw[e1]at hw
  have hn:=(K5 w 255).1
  refine⟨fq _,fq _,λ_=>?_⟩
  rw[Int.tmod_eq_emod_of_nonneg v1,wrap_u32,wrap_u32]
  generalize bc u32 w 255=q at*
  omega
 refine ax ci ?_
 repeat'(first
  |exact bad
  |exact gu _ (by assumption)
  |refine ae (λ_=>?_) (λ_=>?_)
  |refine ax ci ?_)
theorem Tb(hc:iR c)(hv:U va)(hs:size=1\/size=4)(access:Int):(II c m va size access).w (λr=>ep P r.2.2/\U r.1/\(r.2.1=0->r.1<128*P)):=by
 have e:decide (wrap u32 size≠0)=true:=by rcases hs with rfl|rfl<;>decide
 obtain⟨g1,g2⟩:=Tree.pp (Zfc h va hs)
 obtain⟨k1,k2⟩:=Tree.pp (y9 h hc.a6 hv access)
 have bad:∀k:Int,k≠0->ep P m/\U (0:Int)/\(k=0->(0:Int)<128*P):=λk hk=>⟨h,gj,λe=>absurd e hk⟩
 have hca:Ca access≠0:=by
  simp only[Ca,Ld,Tree.m]
  cases access==1<;>cases access==3<;>simp
 unfold II
 refine aq λx0 _=>ae (λ_=>bad 5 (by decide)) (λ_=>ae (λh1=>ae (λh2=>?_) (λ_=>?_)) (λ_=>?_))
 ·exact bad 5 (by decide)
 all_goals(
  refine ax e (ae (λ_=>bad 3 (by decide)) (λ_=>aq λx1 _=>ae (λ_=>c7 g1 (aq λx2 IA=>ae (λ_=>aq λx3 hx3=>bad x3 (by rw[hx3];exact hca)) (λhb=>?_))) (λ_=>c7 k1 (aq λx4 hx4=>ae (λhb=>?_) (λhb=>?_)))))
  ·have hb:x2=true:=by simpa using hb
   exact⟨h,hv,λ_=>g2 (IA.symm.trans hb)⟩
  ·exact bad _ (by simpa using hb)
  ·obtain⟨t1,t2,t3⟩:=k2
   rw[show(Gz m c.C2.a6 va access).m=x4 from hx4.symm]at t1 t2 t3
   obtain⟨m1,m2⟩:=Tree.pp (zaI h t2 access)
   refine c7 m1 (aq λx5 hx5=>?_)
   exact⟨hx5▸m2,t1,λ_=>t3 (by simpa using hb)⟩)
end
theorem xz{r:Int}(h:KV r=true):0<=r/\r<16:=by
 simp only[KV,S1,Tree.m]at h
 cases h1:decide (r>=0)<;>rw[h1]at h
 ·cases h
 ·have h1:=oY h1
  have h:=oY h
  omega
theorem zV(hi:wrap .i64 i.cf=i.cf)(h:EC i=true):su i:=by
 have no:false=true->su i:=λh=>by cases h
 refine(Tree.post (NQ i) (W:=λb=>b=true->su i) ?_) h
 unfold NQ
 refine aq λx0 h0=>ae (λ_=>no) (λ_=>aq λx1 h1=>ae (λ_=>no) (λb1=>aq λx2 h2=>ae (λ_=>no) (λb2=>aq λx3 h3=>ae (λ_=>no) (λb3=>aq λx4 h4=>ae (λ_=>no) (λb4=>ae (λ_=>no) (λb5=>?_))))))
 have b1:x1=true:=by simpa using b1
 have b2:x2=true:=by simpa using b2
 have b3:x3=true:=by simpa using b3
 have b4:=oN b4
 have b5:=oN b5
 rw[hi]at b4 b5
 have ok:su i:=⟨xz (h1.symm.trans b1),xz (h2.symm.trans b2),xz (h3.symm.trans b3),λe=>by
  rw[e]at h0
  have h0:x0=8:=h0
  subst h0
  have h4:x4=(0,7):=h4
  subst h4
  simp at b4 b5;omega⟩
 repeat'(first
  |exactλ_=>ok
  |exact no
  |refine ae (λ_=>?_) (λ_=>?_))
theorem Zqf(w:Int):(KW w).w (λr=>r.2=true->su r.1):=by
 have no:∀{p:Prop},false=true->p:=λh=>by cases h
 have e:∀x,wrap .i64 (wrap .i32 x)=wrap .i32 x:=λx=>by rw[wrap_i64,wrap_i32];omega
 have ok:∀i,wrap .i64 i.cf=i.cf->∀x,x=EC i->(!x)=false->true=true->su i:=λi hi x hx hb _=>zV hi (hx.symm.trans (by simpa using hb))
 unfold KW
 refine aq λx0 _=>?_
 have l:∀i,wrap .i64 i.cf=i.cf->(Tree.lv (EC i) λx=>.br (!x) (.lf ((⟨0,0,0,0,0⟩:ia),false)) (.lf (i,true))).w (λr=>r.2=true->su r.1):=λi hi=>aq λx hx=>ae (λ_=>no) (λhb=>ok i hi x hx hb)
 refine ae (λ_=>no) (λ_=>ae (λ_=>l _ rfl) (λ_=>ae (λ_=>l _ (e _)) (λ_=>ae (λ_=>l _ (e _)) (λ_=>l _ (e _)))))
theorem Rc(b:Bool):U (Cb b):=by cases b<;>exact⟨by decide,by decide⟩
theorem Zoh{a b:Int}(ha:U a)(hb:U b):(Lb a b).w (λr=>U r.1/\U r.2):=by
 unfold Lb
 refine ae (λ_=>⟨⟨by omega,by omega⟩,ha⟩) (λh=>?_)
 have h:¬b=0:=by simpa using h
 obtain⟨b1,b2⟩:=hb
 have hc:decide (wrap i64 (wrap i32 b)≠0)=true:=dY (by rw[wrap_i64,wrap_i32];omega)
 exact ax hc (ax hc ⟨fq _,fq _⟩)
theorem Ht(op:Int){a b:Int}(ha:U a)(hb:U b):(Rd op a b).w (λr=>U r.1):=by
 unfold Rd
 refine aq λx0 _=>?_
 repeat'(first
  |exact fq _
  |exact Ak ha _
  |exact gj
  |refine ae (λ_=>?_) (λ_=>?_)
  |exact cv (Zoh ha hb) λx hx=>hx.1
  |exact cv (Zoh ha hb) λx hx=>hx.2
  |exact aq λx hx=>(by rw[hx];exact Rc _))
theorem zz(hx:U x):(Re x 8).w U:=by
 unfold Re
 have h0:decide (0<=wrap u64 8)=true:=by decide
 refine ae (λh=>absurd h (by decide)) λ_=>ae (λh=>absurd h (by decide)) λ_=>ax h0 (ax (by decide) (ae (λ_=>ax h0 (nE _ _)) (λ_=>K5 _ _)))
section
variable {c:bq} (h:iR c) {i:ia} (hi:su i)
include h hi
theorem yV:(Rf c i).w (λr=>iR r.1/\U r.2.Value):=by
 unfold Rf
 refine ae (λ_=>aq λx hx=>⟨hx▸JD h _ gj,gj⟩) (λ_=>ae (λ_=>aq λx hx=>⟨hx▸xV h,gj⟩) (λ_=>ae (λe=>ax ?_ (cv (Eo h _ (h.a _)) λx hx=>⟨hx.AE (fq _),gj⟩)) (λ_=>ae (λ_=>ax (rc hi.a) (cv (xav h _ (h.r _)) λx hx=>⟨hx.AE (fq _),gj⟩)) (λ_=>?_))))
 ·have:=hi.jr (by simpa using e)
  simp[bN];omega
 ·have k:=h.AE (fq (c.Pc+4))
  repeat'(first
   |exact⟨k,gj⟩
   |exact⟨k,h.r _⟩
   |refine ae (λ_=>?_) (λ_=>?_)
   |refine ax (rc hi.a) ?_)
theorem xaI:(Rg c i).w iR:=by
 unfold Rg
 exact ae (λ_=>cv (Eo h _ (fq _)) λx hx=>hx.AE (fq _)) (λ_=>ae (λ_=>ax (rc hi.b) (cv (Eo h _ (fq _)) λx hx=>hx.AE (fq _))) (λ_=>ax (rc hi.a) (ax (rc hi.b) (aq λx _=>ae (λ_=>h.AE (fq _)) (λ_=>h.AE (fq _))))))
theorem Zs5(hm:ep P m):(Rh c m i).w (λr=>iR r.1/\ep P r.2):=by
  unfold Rh
  refine ax (rc hi.b) ?_
  have e1:(1:Int)=1\/(1:Int)=4:= .inl rfl
  have e4:(4:Int)=1\/(4:Int)=4:= .inr rfl
  repeat'(first
    |refine ae (λ_=> ?_) (λ_=> ?_)
    | (refine cv (Tb hm h (fq _) e4 _) λx hx=> ?_
       obtain⟨m1,m2,m3⟩:=hx
       refine ae (λ_=>aq λy hy=>⟨hy▸JD h _ (fq _),m1⟩) (λhb=> ?_)
       have m3:=m3 (by simpa using hb)
       have m4:x.1<4*x.2.2.length:=by rw[m1.len];omega
       clear hb)
    | (refine cv (Tb hm h (fq _) e1 _) λx hx=> ?_
       obtain⟨m1,m2,m3⟩:=hx
       refine ae (λ_=>aq λy hy=>⟨hy▸JD h _ (fq _),m1⟩) (λhb=> ?_)
       have m3:=m3 (by simpa using hb)
       have m4:x.1<4*x.2.2.length:=by rw[m1.len];omega
       clear hb)
    |exact ax (rc hi.a) (cv (Rb (by assumption) (by assumption) (by assumption) (h.r _)) λy hy=>⟨h.AE (fq _),hy⟩)
    |(refine cv (N9 (by assumption) (by assumption) e4) λy hy=> ?_)
    |(refine cv (N9 (by assumption) (by assumption) e1) λy hy=> ?_)
    |exact cv (zz (by assumption)) λz hz=>cv (Eo h _ hz) λu hu=>⟨hu.AE (fq _),by assumption⟩
    |exact cv (Eo h _ (by assumption)) λu hu=>⟨hu.AE (fq _),by assumption⟩)
end
theorem Nd(h:iR c)(hm:ep P m):(Ri c m).w (λr=>iR r.1/\U r.2.1.Value/\ep P r.2.2):=by
 unfold Ri
 refine cv (Tb hm h h.pc (.inr rfl) 1) λx0 hx=>?_
 obtain⟨m1,m2,m3⟩:=hx
 refine ae (λ_=>aq λy hy=>⟨hy▸JD h _ h.pc,gj,m1⟩) (λhb=>?_)
 refine cv (N9 m1 m2 (.inr rfl)) λx2 h2=>SJ (Zqf _) λx3 h3=>ae (λ_=>aq λy hy=>⟨hy▸JD h _ h2,gj,m1⟩) (λb3=>?_)
 have hi:=h3 (by simpa using b3)
 refine aq λx5 _=>?_
 repeat'(first
  |refine ae (λ_=>?_) (λ_=>?_)
  |exact aq λy hy=>⟨hy▸JD h _ h2,gj,m1⟩
  |exact cv (yV h hi) λy hy=>⟨hy.1,hy.2,m1⟩
  |exact cv (xaI h hi) λy hy=>⟨hy,gj,m1⟩
  |exact cv (Zs5 h hi m1) λy hy=>⟨hy.1,gj,hy.2⟩
  |exact cv (Eo h _ (fq _)) λy hy=>⟨hy.AE (fq _),gj,m1⟩
  |refine ax (rc hi.c) ?_
  |refine ax (rc hi.b) ?_
  |exact cv (Ht _ (h.r _) (h.r _)) λy hy=>cv (Eo h _ hy) λz hz=>⟨hz.AE (fq _),gj,m1⟩
  |exact cv (Ht _ (h.r _) (fq _)) λy hy=>cv (Eo h _ hy) λz hz=>⟨hz.AE (fq _),gj,m1⟩)
theorem EF{q:Int}(h:U q):bc .u32 q 1=q%2:=by
 obtain⟨h1,h2⟩:=h
 unfold bc
 rw[wrap_u32]
 have e1:(dR 32 q).toNat=q.toNat:=by rw[BitVec.toNat_ofInt];omega
 have e2:(dR 32 1).toNat=1:=by decide
 have:(dR u32.bits q&&&dR u32.bits 1).toNat=q.toNat%2:=by
  show(dR 32 q&&&dR 32 1).toNat=_
  rw[dU,e1,e2,Nat.and_one_is_mod]
 rw[this];omega
theorem Rj(b:Bool)(n:Int):(Rk b n).w (λ_=>True):=by
 unfold Rk
 exact ae (λ_=>ax (dY (by rw[wrap_u64];omega)) trivial) (λ_=>trivial)
theorem qaw(m:bb):(Rl m).w (λ_=>True):=by
 unfold Rl
 exact aq λ_ _=>cv (Rj _ _) λ_ _=>aq λ_ _=>cv (Rj _ _) λ_ _=>aq λ_ _=>cv (Rj _ _) λ_ _=>aq λ_ _=>cv (Rj _ _) λ_ _=>aq λ_ _=>cv (Rj _ _) λ_ _=>trivial
theorem Ziv(m:bb):(Q9 m).w U:=by
 unfold Q9
 exact cv (qaw m) λ_ _=>K5 _ _
theorem qaa(m:bb):(Lv m).w (λ_=>True):=by
 unfold Lv
 exact ae (λ_=>cv (Ziv m) λ_ _=>trivial) (λ_=>trivial)
theorem zaw(m:bb):(Qa m).w (λ_=>True):=by
 unfold Qa
 exact aq λ_ _=>ae (λ_=>trivial) (λ_=>ae (λ_=>trivial) (λ_=>cv (qaa m) λ_ _=>ae (λ_=>trivial) (λ_=>trivial)))
theorem Qx4{m:bb}(h:iR m.B2):(Lw m).w iR:=by
 unfold Lw
 refine cv (Ziv m) λx0 hx=>ae (λ_=>h) (λ_=>ae (λ_=>h) (λhb=>?_))
 have hb:x0≠0:=by simpa using hb
 have sh:∀z:Int,0<=z->z<=31->bm .u32 x0 (wrap .u64 z)=x0/2^z.toNat:=λz h1 h2=>by
  unfold bm
  have e:min (wrap .u64 z).toNat u32.bits=z.toNat:=by
   show min (wrap .u64 z).toNat 32=z.toNat
   rw[wrap_u64];omega
  rw[e,dJ _ (dK (dI (by decide)))]
 refine fk (inv:=λz=>0<=z/\z<=31/\x0/2^z.toNat≠0) (μ:=Qep m) ⟨by omega,by omega,by simpa using hb⟩ (cN _) (λz hz=>?_)
 obtain⟨z1,z2,z3⟩:=hz
 refine ax (dY (by rw[wrap_u64];omega)) (ae (λe=>ez ?_) (λ_=>aq λy hy=>hy▸JD h _ gj))
 have e:=eq_of_beq e
 have hq:=Ak hx (wrap .u64 z)
 rw[EF hq,sh z z1 z2]at e
 rw[sh z z1 z2]at hq
 have bd:x0/2^z.toNat/2≠0:=by omega
 have z4:z<=30:=by
  rcases Int.lt_or_le z 31 with h|h
  ·omega
  ·have:z=31:=by omega
   subst this
   have:=hx.2
   have:=hx.1
   simp at z3 e bd
   omega
 show(0<=i64.wrap (z+1)/\i64.wrap (z+1)<=31/\x0/2^(i64.wrap (z+1)).toNat≠0)/\(32-i64.wrap (z+1)).toNat<(32-z).toNat
 have ew:i64.wrap (z+1)=z+1:=by rw[wrap_i64];omega
 rw[ew]
 refine⟨⟨by omega,by omega,?_⟩,by omega⟩
 have et:(z+1).toNat=z.toNat+1:=by omega
 rw[et,Int.pow_succ,<-Int.ediv_ediv_of_nonneg (dK (dI (by decide)))]
 exact bd
theorem xaw{m:bb}(h:iR m.B2)(hm:ep P m.Mem):(Qh m).w (λ_=>True):=by
 unfold Qh
 refine cv (Qx4 h) λx0 hx=>ae (λ_=>trivial) (λ_=>cv (N9 hm hx.pc (.inr rfl)) λx1 _=>aq λx2 _=>?_)
 exact ae (λ_=>ae (λ_=>ae (λ_=>trivial) (λ_=>trivial)) (λ_=>trivial)) (λ_=>trivial)
theorem Nx(l:List Int):(bytesOf l).length=l.length:=by simp[bytesOf]
theorem S3(l:List UInt8):(o5 l).length=l.length:=by simp[o5]
theorem Rm(x:Int):(Mj x 4).w (λr=>r.length=4):=by
 unfold Mj
 refine fk (inv:=λz=>0<=z.1/\z.1<=4/\(z.2.length:Int)=z.1) (μ:=UW x 4) ⟨by omega,by omega,rfl⟩ (cN _) (λz hz=>?_)
 obtain⟨z1,z2,z3⟩:=hz
 refine ae (λh=>ax (dY (by rw[wrap_u64];omega)) (ax (dY (by omega)) (ez ?_))) (λh=>?_)
 ·have h:=oY h
  show(0<=i64.wrap (z.1+1)/\i64.wrap (z.1+1)<=4/\((z.2++[_]).length:Int)=i64.wrap (z.1+1))/\(4-i64.wrap (z.1+1)).toNat<(4-z.1).toNat
  have ew:i64.wrap (z.1+1)=z.1+1:=by rw[wrap_i64];omega
  rw[ew]
  refine⟨⟨by omega,by omega,by simp;omega⟩,by omega⟩
 ·have h:=oN h
  show(bytesOf z.2).length=4
  rw[Nx];omega
theorem zaa(hm:ep P m)(frame:Int):(Gy m frame).w (λr=>0<=frame->frame<P->r.1.length=128):=by
 have hp:=DG hm
 have hl:=hm.len
 have h2:=hm.p2
 unfold Gy
 refine ae (λh=>λh0 _=>by have:=oY h;omega) (λh=>aq λx0 hx=>ae (λh1=>λ_ h2=>by have:=oY h1;rw[hx,hp]at this;omega) (λh1=>?_))
 have h:=oN h
 have h1:=oN h1
 rw[hx,hp]at h1
 refine fk (inv:=λz=>0<=z.1/\z.1<=32/\(z.2.length:Int)=4*z.1) (μ:=W5 m frame) ⟨by omega,by omega,rfl⟩ (cN _) (λz hz=>?_)
 obtain⟨z1,z2,z3⟩:=hz
 refine ae (λhb=>?_) (λhb=>?_)
 ·have hb:=oY hb
  have e:wrap i64 (wrap i64 (frame*32)+z.1)=frame*32+z.1:=by rw[wrap_i64,wrap_i64];omega
  refine ax (by rw[e];simp[bN];omega) (c7 (show(4:Int)<=1000000000000 by decide) (SJ (Rm _) λx1 h4=>ax (dY (by rw[S3,h4];omega)) (ez ?_)))
  show(0<=i64.wrap (z.1+1)/\i64.wrap (z.1+1)<=32/\((z.2++o5 x1).length:Int)=4*i64.wrap (z.1+1))/\(32-i64.wrap (z.1+1)).toNat<(32-z.1).toNat
  have ew:i64.wrap (z.1+1)=z.1+1:=by rw[wrap_i64];omega
  rw[ew,lA,S3,h4]
  exact⟨⟨by omega,by omega,by omega⟩,by omega⟩
 ·have hb:=oN hb
  intro _ _
  show(bytesOf z.2).length=128
  rw[Nx];omega
theorem yz(hm:ep P m)(hd:Ah d)(port:Int)(hv:U v)(gk:Int):(Lj d m port v gk).w (λr=>Ah r.1/\r.2.length<=1):=by
 have k:∀st,Ah {ab:=d.ab,C9:=d.C9,Frame:=d.Frame,C8:=st,F5:=d.F5,C5:=d.C5,C6:=d.C6,C7:=d.C7}:=λst=>⟨hd.block,hd.frame,hd.kf,hd.kg⟩
 have k2:∀c o,Ah {ab:=d.ab,C9:=d.C9,Frame:=d.Frame,C8:=1,F5:=c,C5:=d.C9,C6:=d.Frame,C7:=o}:=λc o=>⟨hd.block,hd.frame,hd.block,hd.frame⟩
 have k3:Ah {ab:=d.ab,C9:=v,Frame:=d.Frame,C8:=d.C8,F5:=d.F5,C5:=d.C5,C6:=d.C6,C7:=d.C7}:=⟨hv,hd.frame,hd.kf,hd.kg⟩
 have k4:Ah {ab:=d.ab,C9:=d.C9,Frame:=v,C8:=d.C8,F5:=d.F5,C5:=d.C5,C6:=d.C6,C7:=d.C7}:=⟨hd.block,hv,hd.kf,hd.kg⟩
 unfold Lj
 repeat'(first
  |refine ae (λ_=>?_) (λ_=>?_)
  |exact cv (zaa hm _) λ_ _=>aq λ_ _=>⟨k2 _ _,aX _⟩
  |refine aq (λ_ _=>?_)
  |refine bg ?_)
 all_goals(first
  |exact⟨hd,bC _⟩
  |exact⟨k _,bC _⟩
  |exact⟨k2 _ _,aX _⟩
  |exact⟨k3,bC _⟩
  |exact⟨k4,bC _⟩)
theorem vV(hm:ep P m)(hn:uh n)(port:Int)(hv:U v)(gk:Int):(Lk n m port v gk).w (λr=>uh r.1/\r.2.length<=1):=by
 have k1:uh {Frame:=v,F7:=n.F7,D3:=n.D3,D4:=n.D4,C3:=n.C3,F8:=n.F8}:=⟨hv,hn.len,hn.buffer,hn.Gs⟩
 have k2:uh {Frame:=n.Frame,F7:=v,D3:=n.D3,D4:=n.D4,C3:=n.C3,F8:=n.F8}:=⟨hn.frame,hv,hn.buffer,hn.Gs⟩
 have k3:uh {Frame:=n.Frame,F7:=n.F7,D3:=n.D3,D4:=n.D4,C3:=false,F8:=0}:=⟨hn.frame,hn.len,hn.buffer,gj⟩
 have k4:∀p r,uh {Frame:=n.Frame,F7:=n.F7,D3:=p,D4:=n.Frame,C3:=r,F8:=n.F8}:=λp r=>⟨hn.frame,hn.len,hn.frame,hn.Gs⟩
 have send:∀K:List UInt8×Bool->Tree (gw×List ir),tC m n.Frame=true->(∀x:List UInt8×Bool,x.1.length=128->(K x).w (λr=>uh r.1/\r.2.length<=1))->(Tree.an (Qic m (wrap .i64 n.Frame)) (.lv (KX m (wrap .i64 n.Frame)) K)).w (λr=>uh r.1/\r.2.length<=1):=λK hp hK=>by
  rw[Tm hm hn.frame]at hp
  have hp:=oY hp
  obtain⟨f1,f2⟩:=hn.frame
  have ew:i64.wrap n.Frame=n.Frame:=by rw[wrap_i64];omega
  exact cv (zaa hm _) λx hx=>hK x (hx (by rw[ew];exact f1) (by rw[ew];exact hp))
 unfold Lk
 repeat'(first
  |refine ae (λ_=>?_) (λ_=>?_)
  |refine send _ (by simp_all) (λx hx=>ax (by simp_all;exact hn.len.1) ?_)
  |refine aq (λ_ _=>?_)
  |refine bg ?_)
 all_goals(first
  |exact⟨hn,bC _⟩
  |exact⟨hn,aX _⟩
  |exact⟨k1,bC _⟩
  |exact⟨k2,bC _⟩
  |exact⟨k3,bC _⟩
  |exact⟨k4 _ _,bC _⟩)
def okB(b:gm):Prop:=U b.A2/\U b.D0
theorem qaJ(hm:ep P m){b:gm}(hb:okB b)(port:Int)(hv:U v):(AW b m port v).w (λr=>okB r.1/\ep P r.2):=by
 have Dz:decide (0<=v)=true:=dY hv.1
 have h2:=hm.p2
 have rest:(Tree.br (port==11) (.br (decide (v<32)) (.cn (decide (0<=v)) (.lf (({A2:=b.A2,D0:=oJ .u32 b.D0 (eu .u32 1 v)}:gm),m))) (.lf (b,m))) (.lf (b,m))).w (λr=>okB r.1/\ep P r.2):=
  ae (λ_=>ae (λ_=>ax Dz ⟨⟨hb.1,fq _⟩,hm⟩) (λ_=>⟨hb,hm⟩)) (λ_=>⟨hb,hm⟩)
 unfold AW
 refine ae (λ_=>aq λx0 hx=>ae (λhp=>ax Dz (ae (λ_=>ax Dz ?_) (λ_=>rest))) (λ_=>rest)) (λ_=>rest)
 have hp:tC m v=true:=hx.symm.trans hp
 rw[Tm hm hv]at hp
 have hp:=oY hp
 obtain⟨v1,v2⟩:=hv
 refine fk (inv:=λz=>0<=z.1/\z.1<=32/\ep P z.2) (μ:=XA b m port v) ⟨by omega,by omega,hm⟩ (cN _) (λz hz=>?_)
 obtain⟨z1,z2,z3⟩:=hz
 have hl:=z3.len
 refine ae (λh=>?_) (λ_=>⟨⟨hb.1,fq _⟩,z3⟩)
 have h:=oY h
 have e:wrap i64 (wrap i64 (wrap i64 v*32)+z.1)=v*32+z.1:=by rw[wrap_i64,wrap_i64,wrap_i64];omega
 refine ax (by rw[e];simp[bN];omega) (ez ?_)
 show(0<=i64.wrap (z.1+1)/\i64.wrap (z.1+1)<=32/\ep P (dB _ _ _))/\(32-i64.wrap (z.1+1)).toNat<(32-z.1).toNat
 have ew:i64.wrap (z.1+1)=z.1+1:=by rw[wrap_i64];omega
 rw[ew]
 exact⟨⟨by omega,by omega,⟨by simp[hl],z3.p1,z3.p2,Es z3.u gj _⟩⟩,by omega⟩
structure rG(P:Nat)(m:bb):Prop where
 oh:iR m.B2
 mem:ep P m.Mem
 mi:Ah m.B5
 wo:uh m.D1
 target:okB m.A6
 tz:0<=m.B7
theorem Znw(c:iH)(port:Int):U (Li c port).2:=by
 refine Tree.post (GC c port) (W:=λr=>U r.2) ?_
 have u1:U 4294967295:=⟨by omega,by omega⟩
 unfold GC
 refine ae (λ_=>ae (λ_=>u1) (λh=>ae (λ_=>ax ?_ (ax ?_ (fq _))) (λ_=>ae (λ_=>fq _) (λ_=>gj)))) (λh1=>ae (λh=>(by rw[h1]at h;cases h)) (λ_=>ae (λ_=>fq _) (λ_=>gj)))
 ·have h:¬(c.D9.length:Int)=0:=by simpa using h
  exact dY ⟨by omega,by omega,by omega⟩
 ·have h:¬(c.D9.length:Int)=0:=by simpa using h
  simp[bN];omega
theorem qax(h:uh n)(port:Int):U (Te n port):=by
 refine Tree.post (Oa n port) (W:=U) ?_
 have u1:U 1:=⟨by omega,by omega⟩
 unfold Oa
 exact ae (λ_=>h.frame) (λ_=>ae (λ_=>h.Gs) (λ_=>ae (λ_=>ae (λ_=>ae (λ_=>fq _) (λ_=>u1)) (λ_=>ae (λ_=>fq _) (λ_=>gj))) (λ_=>gj)))
theorem qW(h:Ah d)(port:Int):U (XK d port):=by
 refine Tree.post (UX d port) (W:=U) ?_
 unfold UX
 exact ae (λ_=>h.block) (λ_=>ae (λ_=>h.frame) (λ_=>ae (λ_=>fq _) (λ_=>gj)))
theorem vz(t:iW):U (XL t):=by
 refine Tree.post (UY t) (W:=U) ?_
 unfold UY
 exact ae (λ_=>⟨by omega,by omega⟩) (λ_=>gj)
theorem Zm8{b:gm}(h:U b.A2)(port:Int):U (Lm b port):=by
 refine Tree.post (Ln b port) (W:=U) ?_
 unfold Ln
 exact ae (λ_=>h) (λ_=>ae (λ_=>aq λ_ _=>fq _) (λ_=>gj))
theorem w0(x:Int):0<=u64.wrap x:=by rw[wrap_u64];omega
section
end
section

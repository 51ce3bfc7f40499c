import Derived.Test.YtaemmjbkndlkeaaGreatMigrateCancelsZt
open List renaming set->dB,mem_cons->cQ,not_mem_nil->cR
open Nat renaming blt->bN,beq->bX,lt_succ_self->cN,le_refl->aX,zero_le->bC
open Int renaming pow_pos->dI,le_of_lt->dK,fdiv_eq_ediv_of_nonneg->dJ,tmod->cZ,mul_tmod_right->gQ,mul_tdiv_cancel_left->gR,tdiv->eF,tdiv_eq_ediv_of_nonneg->eG,emod_eq_of_lt->dH,lt_of_lt_of_le->gS,le_of_eq->gT
open BitVec renaming ofInt->dR,toNat_and->dU
set_option maxRecDepth 100000
set_option linter.all false
namespace Go.Proofs.YtaemmjbkndlkeaaGreat
open Go Go.GD
open Go.IntKind(wrap i64 u32 u64 u8 i32 wrap_i64 wrap_u32 wrap_u64 wrap_u8 wrap_i32)
variable {P:Nat}{b f root size v va x:Int}{c:bq}{d:gg}{i:ik}{m:List Int}{n:ic}
def U(x:Int):Prop:=0<=x/\x<4294967296
theorem ga(x:Int):U (u32.wrap x):=by rw[wrap_u32];unfold U;omega
theorem Ly(x y:Int):U (ba .u32 x y):=ga _
theorem nS(x y:Int):U (iU .u32 x y):=ga _
theorem gu:U 0:=⟨by omega,by omega⟩
theorem EI(h:∀w∈m,U w)(hv:U v)(i:Nat):∀w∈m.set i v,U w:=by
 intro w hw
 rcases List.mem_or_eq_of_mem_set hw with h1|h1
 ·exact h w h1
 ·rw[h1];exact hv
structure fg(P:Nat)(m:List Int):Prop where
 len:m.length=32*P
 p1:0<=P
 p2:P<=32
 u:∀w∈m,U w
structure Au(d:gg):Prop where
 block:U d.C9
 frame:U d.Frame
 kA:U d.C5
 kB:U d.C6
structure uz(n:ic):Prop where
 frame:U n.Frame
 len:U n.F7
 buffer:U n.D4
 GK:U n.F8
theorem Bf{l:List Int}(h:∀w∈l,U w)(i:Nat):U (l.getD i 0):=by
 by_cases hi:i<l.length
 ·have:l.getD i 0=l[i]:=by simp[List.getD,hi]
  rw[this];exact h _ (List.getElem_mem hi)
 ·have:l.getD i 0=0:=by simp[List.getD,List.getElem?_eq_none (by omega:l.length<=i)]
  rw[this];exact gu
structure iX(c:bq):Prop where
 x:∀w∈iv.l c.X,U w
 pc:U c.Pc
 jy:∀w∈A8.l c.C3,U w
theorem Xk{X:iv Int}(h:∀w∈iv.l X,U w)(hv:U v)(i:Nat):∀w∈iv.l (iv.of 0 (dB (iv.l X) i v)),U w:=by
 have hs:=EI h hv i
 intro w hw
 simp only[iv.l,iv.of,cQ,cR,or_false]at hw
 repeat(first|(rcases hw with rfl|hw;· exact Bf hs _)|(subst hw;exact Bf hs _))
theorem Zh4{X:A8 Int}(h:∀w∈A8.l X,U w)(hv:U v)(i:Nat):∀w∈A8.l (A8.of 0 (dB (A8.l X) i v)),U w:=by
 have hs:=EI h hv i
 intro w hw
 simp only[A8.l,A8.of,cQ,cR,or_false]at hw
 repeat(first|(rcases hw with rfl|hw;· exact Bf hs _)|(subst hw;exact Bf hs _))
section
variable {c:bq} (h:iX c)
include h
theorem iX.a(i:Nat):U ((A8.l c.C3).getD i 0):=Bf h.jy i
theorem iX.r(i:Nat):U ((iv.l c.X).getD i 0):=Bf h.x i
theorem iX.a0:U c.C3.a0:=h.a 0
theorem iX.a1:U c.C3.a1:=h.a 1
theorem iX.a2:U c.C3.a2:=h.a 2
theorem iX.a3:U c.C3.a3:=h.a 3
theorem iX.a4:U c.C3.a4:=h.a 4
theorem iX.a5:U c.C3.a5:=h.a 5
theorem iX.a6:U c.C3.a6:=h.a 6
theorem iX.a7:U c.C3.a7:=h.a 7
theorem iX.AQ{p:Int}(hp:U p):iX {X:=c.X,Pc:=p,C3:=c.C3}:=⟨h.x,hp,h.jy⟩
end
section
variable {α β:Type} {W:β->Prop} {t:Tree α} {Q:α->Prop} {k:α->Tree β}
theorem cj(hq:t.w Q)(g:∀x,Q x->(k x).w W):(Tree.an t.p (Tree.lv t.m k)).w W:=⟨(Tree.pp hq).1,λy hy=>g y (by rw[hy];exact(Tree.pp hq).2)⟩
theorem S8(hq:t.w Q)(g:∀x,Q x->(k x).w W):(Tree.lv t.m k).w W:=λy hy=>g y (by rw[hy];exact t.post hq)
end
theorem rc{r:Int}(h:0<=r/\r<16):(bN 0 1&&decide (0<=r/\r<((16:Nat):Int)))=true:=by simp[bN];omega
theorem Ax{a:Int}(h:U a)(b:Int):U (bb .u32 a b):=by
 unfold bb U
 obtain⟨h1,h2⟩:=h
 have hp:(0:Int)<2^(min b.toNat u32.bits):=dI (by decide)
 have:=Int.fdiv_nonneg h1 (dK hp)
 refine⟨this,?_⟩
 rw[dJ _ (dK hp)]
 have h3:=Int.ediv_le_self (2^(min b.toNat u32.bits)) h1
 omega
structure Qh(i:ik):Prop where
 a:0<=i.A/\i.A<16
 b:0<=i.B/\i.B<16
 c:0<=i.C/\i.C<16
 jy:i.Op=58->0<=i.bz/\i.bz<8
theorem Xx(h:fg P m):jW m=P:=by
 obtain⟨h1,h2,h3,_⟩:=h
 simp only[jW,GG,Tree.m]
 have e:(m.length:Int)=32*P:=by omega
 rw[e]
 have e1:(cZ (32*(P:Int)) 32 !=0)=false:=by simp[gQ]
 have e2:decide ((32*(P:Int))>1024)=false:=dN (by omega)
 rw[e1,e2]
 simp only[cond_false]
 rw[gR _ (by decide),wrap_i64];omega
theorem y9(n:Int):(Ro n).w (λ_=>True):=by
 unfold Ro
 exact ae (λ_=>trivial) (λ_=>aw (dY (by rw[wrap_u64];omega)) trivial)
theorem MI(w low n:Int):(Rp w low n).w U:=by
 unfold Rp
 exact ae (λ_=>gu) (λ_=>ae (λ_=>gu) (λ_=>ae (λ_=>gu) (λ_=>aw (dY (by rw[wrap_u64];omega)) (cj (y9 n) λ_ _=>Ly _ _))))
theorem Zsv{w:Int}(hw:U w)(low n v:Int):(Rq w low n v).w U:=by
 have h0:decide (0<=wrap u64 low)=true:=dY (by rw[wrap_u64];omega)
 unfold Rq
 exact ae (λ_=>hw) (λ_=>ae (λ_=>hw) (λ_=>ae (λ_=>hw) (λ_=>cj (y9 n) λ_ _=>aw h0 (aw h0 (nS _ _)))))
theorem Xf(hx:U x)(n:Int):(Rr x n).w U:=by
 have h0:∀y,decide (0<=wrap u64 y)=true:=λy=>dY (by rw[wrap_u64];omega)
 unfold Rr
 exact ae (λ_=>gu) (λ_=>ae (λ_=>hx) (λ_=>aw (h0 _) (aw (h0 _) (ga _))))
section
variable {P:Nat} {m:List Int} (h:fg P m)
include h
theorem GH:oc m:=by
 have:=h.len
 have:=h.p2
 show m.length<=35184372088832
 omega
theorem Zkp{a:Int}(ha:U a)(hs:size=1\/size=4):(IU m a size).w (λb=>b=true->a+size<=128*P):=by
 have hp:=Xx h
 have h2:=h.p2
 obtain⟨a1,a2⟩:=ha
 have e:decide (wrap u32 size≠0)=true:=by rcases hs with rfl|rfl<;>decide
 have l:∀x,x=jW m->decide (wrap u64 (wrap u64 a+wrap u64 size)<=wrap u64 (wrap u64 x*128))=true->a+size<=128*P:=λx hx hd=>by
  rw[hx,hp]at hd
  have:=oY hd
  simp only[wrap_u64]at this
  omega
 unfold IU
 refine ae (λ_=>ae (λ_=>λh=>by cases h) (λ_=>?_)) (λ_=>?_)<;>
 exact aw e (ae (λ_=>λh=>by cases h) (λ_=>aq λx hx=>l x hx))
theorem FO{a:Int}(ha:U a)(hl:a<128*P):(bX 1 1&&bN 0 1&&decide (0<=wrap u32 (eF a 4)/\wrap u32 (eF a 4)<(m.length:Int)))=true:=by
 obtain⟨a1,a2⟩:=ha
 have e:wrap u32 (eF a 4)=a/4:=by rw[wrap_u32,eG a1];omega
 have:=h.len
 rw[e];simp[bN];omega
theorem Qv{a:Int}(ha:U a)(hs:size=1\/size=4):(Lt m a size).w (λr=>U r.1/\(r.2=true->a<128*P)):=by
 unfold Lt
 refine cj (Zkp h ha hs) λx hx=>ae (λ_=>⟨gu,λh=>by cases h⟩) (λhb=>?_)
 have hl:=hx (by simpa using hb)
 have hl:a<128*P:=by omega
 exact aw (FO h ha hl) (ae (λ_=>cj (MI _ _ _) λy hy=>⟨hy,λ_=>hl⟩) (λ_=>⟨Bf h.u _,λ_=>hl⟩))
theorem Tk{a:Int}(ha:U a)(hs:size=1\/size=4)(hv:U v):(Lv m a size v).w (λr=>fg P r.1):=by
 have st:∀i v,U v->fg P (m.set i v):=λi v hv=>⟨by simp[h.len],h.p1,h.p2,EI h.u hv i⟩
 have ju:kK m=m:=rfl
 unfold Lv
 refine df (GH h) (aq λx0 ob=>?_)
 rw[ju]at ob;subst ob
 refine cj (Zkp h ha hs) λx hx=>ae (λ_=>h) (λhb=>?_)
 have hl:=hx (by simpa using hb)
 have hl:a<128*P:=by omega
 exact ae (λ_=>aw (FO h ha hl) (cj (Zsv (Bf h.u _) _ _ _) λy hy=>aw (FO h ha hl) (st _ _ hy))) (λ_=>aw (FO h ha hl) (st _ _ hv))
end
theorem Zmp{r:Int}{used:Bool}(h:Ln r used=true):0<=r/\r<16:=by
 simp only[Ln,To,Tree.m]at h
 cases used
 ·have h:(r==0)=true:=h
  have:=eq_of_beq h;omega
 ·cases h1:decide (r>=0)<;>rw[h1]at h
  ·cases h
  ·have h1:=oY h1
   have h:=oY h
   omega
theorem xz(h:IS i=true):Qh i:=by
 have no:false=true->Qh i:=λh=>by cases h
 refine(Tree.post (Oi i) (W:=λb=>b=true->Qh i) ?_) h
 unfold Oi
 refine aq λx0 h0=>ae (λ_=>aq λx1 h1=>ae (λb1=>aq λx2 h2=>ae (λb2=>aq λx3 h3=>ae (λb3=>ae (λb4=>λb5=>?_) (λ_=>no)) (λ_=>no)) (λ_=>no)) (λ_=>no)) (λ_=>no)
 have b4:=oY b4
 have b5:=oY b5
 refine⟨Zmp (h1.symm.trans b1),Zmp (h2.symm.trans b2),Zmp (h3.symm.trans b3),λe=>?_⟩
 rw[e]at h0
 have h0:x0=({a:=true,b:=false,c:=false,low:=0,F5:=7},true):=h0
 subst h0
 simp at b4 b5;omega
theorem Xh(w:Int):(Lp w).w (λr=>r.2=true->Qh r.1):=by
 have no:∀{p:Prop},false=true->p:=λh=>by cases h
 have l:∀i,(Tree.lv (IS i) λx=>.br (!x) (.lf ((⟨0,0,0,0,0⟩:ik),false)) (.lf (i,true))).w (λr=>r.2=true->Qh r.1):=λi=>aq λx hx=>ae (λ_=>no) (λhb=>λ_=>xz (hx.symm.trans (by simpa using hb)))
 unfold Lp
 exact cj (MI _ _ _) λx0 _=>cj (MI _ _ _) λx1 _=>cj (MI _ _ _) λx2 _=>aq λx3 _=>ae (λ_=>no) (λ_=>cj (MI _ _ _) λx4 h4=>ae (λ_=>l _) (λ_=>ae (λ_=>cj (Xf h4 _) λx6 _=>l _) (λ_=>l _)))
section
variable {P:Nat} {m:List Int} (h:fg P m)
include h
theorem zV(hf:U f):Om m f=decide (f<P):=by
 have:=Xx h
 obtain⟨h1,h2⟩:=hf
 have h3:=h.p2
 simp only[Om,Qkq,Tree.m,e9,this]
 congr 1
 rw[wrap_u64,wrap_u64,dH h1 (by omega),dH (by omega) (by omega)]
theorem xau(hv:U va)(access:Int):(Lx m root va access).w (λt=>U t.Addr/\U t.G1):=by
 have bad:U (0:Int)/\U (0:Int):=⟨gu,gu⟩
 have fr:∀x,(Rs x).w U:=λx=>by
  unfold Rs
  exact cj (MI _ _ _) λy hy=>hy
 unfold Lx
 exact aq λx0 _=>ae (λ_=>bad) (λ_=>ae (λ_=>bad) (λ_=>aq λx1 _=>ae (λ_=>bad) (λ_=>cj (Qv h (ga _) (.inr rfl)) λx2 _=>ae (λ_=>bad) (λ_=>aq λx3 _=>ae (λ_=>bad) (λ_=>cj (fr _) λx4 _=>aq λx5 _=>ae (λ_=>bad) (λ_=>cj (fr _) λx6 _=>⟨ga _,ga _⟩))))))
theorem yV{a:Int}(ha:U a)(access:Int):(Lz m a access).w (fg P):=by
 have ju:kK m=m:=rfl
 unfold Lz
 exact cj (Qv h ha (.inr rfl)) λx0 _=>ae (λ_=>df (GH h) (aq λx1 h1=>by rw[h1,ju];exact h)) (λ_=>ae (λ_=>cj (Tk h ha (.inr rfl) (nS _ _)) λx hx=>hx) (λ_=>cj (Tk h ha (.inr rfl) (nS _ _)) λx hx=>hx))
theorem Of(hv:U va)(hs:size=1\/size=4)(access:Int):(LG c m va size access).w (λr=>U r.1/\fg P r.2.1):=by
 have ju:kK m=m:=rfl
 have e:decide (wrap u32 size≠0)=true:=by rcases hs with rfl|rfl<;>decide
 have cl:∀(K:List Int->Int×List Int×Int),(∀x,x=m->U (K x).1/\fg P (K x).2.1)->(Tree.an (oc m) (.lv (kK m) λx=>.lf (K x))).w (λr=>U r.1/\fg P r.2.1):=λK hK=>df (GH h) (aq λx hx=>hK x (hx.trans ju))
 have z:∀(k:Nat) (x:List Int),x=m->U (0:Int)/\fg P x:=λ_ x hx=>⟨gu,hx▸h⟩
 have v:∀x,x=m->U va/\fg P x:=λx hx=>⟨hv,hx▸h⟩
 have main:∀(x0:Int×Bool),(Tree.cn (decide (wrap u32 size≠0)) (.br (cZ va (wrap u32 size) !=0) (.an (oc m) (.lv (kK m) λx3=>.lf ((0:Int),x3,(3:Int)))) (.lv (IW c) λx4=>.br (!x4) (.br (ba u32 c.C3.a0 4 !=0) (.an (Qjs m c.C3.a6 va access) (.lv (Tt m c.C3.a6 va access) λx5=>.br (x5.G0 !=0) (.an (oc m) (.lv (kK m) λx6=>.lf (0,x6,x5.G0))) (.an (Qhn m x5.G1 access) (.lv (Oo m x5.G1 access) λx7=>.lf (x5.Addr,x7,0))))) (.an (JX m va size) (.lv (Cn m va size) λx8=>.br (!x8.2) (.an (oc m) (.lv (kK m) λx9=>.lf (0,x9,x0.1))) (.an (oc m) (.lv (kK m) λkj=>.lf (va,kj,0)))))) (.an (JX m va size) (.lv (Cn m va size) λlY=>.br (!lY.2) (.an (oc m) (.lv (kK m) λpj=>.lf (0,pj,x0.1))) (.an (oc m) (.lv (kK m) λoD=>.lf (va,oD,0)))))))).w (λr=>U r.1/\fg P r.2.1):=λx0=>
  aw e (ae (λ_=>cl _ (z 0)) (λ_=>aq λx4 _=>ae (λ_=>ae (λ_=>cj (xau h hv access) λx5 hx=>ae (λ_=>cl _ (z 0)) (λ_=>cj (yV h hx.2 access) λx7 h7=>⟨hx.1,h7⟩)) (λ_=>cj (Qv h hv hs) λx8 _=>ae (λ_=>cl _ (z 0)) (λ_=>cl _ v))) (λ_=>cj (Qv h hv hs) λx8 _=>ae (λ_=>cl _ (z 0)) (λ_=>cl _ v))))
 unfold LG
 exact aq λx0 _=>ae (λ_=>cl _ (z 0)) (λ_=>ae (λ_=>ae (λ_=>cl _ (z 0)) (λ_=>main x0)) (λ_=>main x0))
theorem Xg(hc:iX c):(Rt c m).w (λr=>U r.1/\fg P r.2.1):=by
 unfold Rt
 exact cj (Of h hc.pc (.inr rfl) 1) λx0 h0=>ae (λ_=>⟨gu,h0.2⟩) (λ_=>cj (Qv h0.2 h0.1 (.inr rfl)) λx1 h1=>⟨h1.1,h0.2⟩)
end
theorem qav{s a b:Int}:U (Aw s a b):=by
 refine Tree.post (Vr s a b) (W:=U) ?_
 unfold Vr
 exact ae (λ_=>ga _) (λ_=>ga _)
section
variable {c:bq} (h:iX c)
include h
theorem IN(k:Int)(hb:U b):iX (rC c k b):=by
 refine(Tree.post (Ot c k b) (W:=iX) ?_)
 unfold Ot
 refine aq λ_ _=>aq λ_ _=>⟨h.x,h.a1,?_⟩
 intro w hw
 simp only[A8.l,cQ,cR,or_false]at hw
 rcases hw with rfl|rfl|rfl|rfl|rfl|rfl|rfl|rfl
 ·exact ga _
 ·exact h.a1
 ·exact h.pc
 ·exact ga _
 ·exact hb
 ·exact h.a5
 ·exact h.a6
 ·exact h.a7
theorem zz:iX (Lh c):=by
 refine(Tree.post (Ov c) (W:=iX) ?_)
 unfold Ov
 refine aq λx0 _=>aq λx1 h1=>⟨h.x,h.a2,?_⟩
 intro w hw
 simp only[A8.l,cQ,cR,or_false]at hw
 rcases hw with rfl|rfl|rfl|rfl|rfl|rfl|rfl|rfl
 ·rw[h1];exact qav
 ·exact h.a1
 ·exact h.a2
 ·exact h.a3
 ·exact h.a4
 ·exact h.a5
 ·exact h.a6
 ·exact h.a7
theorem DR{r:Int}(hr:0<=r/\r<16)(hv:U v):(EM c r v).w iX:=by
 unfold EM
 exact ae (λ_=>aw (rc hr) ⟨Xk h.x hv _,h.pc,h.jy⟩) (λ_=>h)
theorem Zpp(k:Int)(hv:U v):(IJ c k v).w iX:=by
 have ok:∀i v,U v->iX {X:=c.X,Pc:=c.Pc,C3:=A8.of 0 (dB (A8.l c.C3) i v)}:=λi v hv=>⟨h.x,h.pc,Zh4 h.jy hv i⟩
 unfold IJ
 repeat'(first
  |exact h
  |exact ok _ _ (ga _)
  |exact ok _ _ hv
  |refine ae (λhk=>?_) (λ_=>?_)
  |refine aw (by rw[eq_of_beq (by assumption:(k==_)=true)];decide) ?_)
end
theorem Zig{a b:Int}(ha:U a)(hb:U b):(LD a b).w (λr=>U r.1/\U r.2):=by
 have u1:U 4294967295:=⟨by omega,by omega⟩
 unfold LD
 refine ae (λ_=>⟨u1,ha⟩) (λh=>?_)
 have h:¬b=0:=by simpa using h
 obtain⟨b1,b2⟩:=hb
 have hc:decide (wrap i32 b≠0)=true:=dY (by rw[wrap_i32];omega)
 exact ae (λ_=>ae (λ_=>⟨ha,gu⟩) (λ_=>aw hc (aw hc ⟨ga _,ga _⟩))) (λ_=>aw hc (aw hc ⟨ga _,ga _⟩))
theorem zav(b:Bool):U (Vs b):=by cases b<;>exact⟨by decide,by decide⟩
theorem Lj(op:Int){a b:Int}(ha:U a)(hb:U b):(Ru op a b).w (λr=>U r.1):=by
 unfold Ru
 repeat'(first
  |refine ae (λ_=>?_) (λ_=>?_)
  |exact cj (Zig ha hb) λx hx=>hx.1
  |exact cj (Zig ha hb) λx hx=>hx.2
  |exact aq λx hx=>(by rw[hx];exact zav _)
  |refine bh ?_)
 all_goals(first
  |exact ga _
  |exact Ax ha _
  |exact gu)
theorem Tj(op:Int):JY op=1\/JY op=4:=by
 simp only[JY,Qvq,Tree.m]
 cases op==32<;>cases op==35<;>simp
section
variable {c:bq} (h:iX c) {i:ik} (hi:Qh i)
include h hi
theorem Zte:(EN c i).w (λr=>iX r.1/\U r.2.Value):=by
 have k:∀{x:bq} {p:Int},iX x->U p->iX {X:=x.X,Pc:=p,C3:=x.C3}:=λhx hp=>⟨hx.x,hp,hx.jy⟩
 unfold EN
 refine aw (rc hi.a) (aw (rc hi.b) ?_)
 repeat'(first
  |refine ae (λ_=>?_) (λ_=>?_)
  |exact cj (DR h hi.a (ga _)) λx hx=>⟨k hx (ga _),gu⟩
  |exact aq λx _=>ae (λ_=>⟨k h (ga _),gu⟩) (λ_=>⟨k h (ga _),gu⟩)
  |exact aq λx hx=>⟨by rw[hx];exact IN h _ gu,gu⟩
  |exact aq λx hx=>⟨by rw[hx];exact zz h,gu⟩
  |exact aw (by have:=hi.jy (by simp_all);simp[bN];omega) (cj (DR h hi.a (h.a _)) λx hx=>⟨k hx (ga _),gu⟩)
  |exact cj (Zpp h _ (h.r _)) λx hx=>⟨k hx (ga _),gu⟩
  |refine aw (rc hi.c) ?_
  |exact cj (Lj _ (h.r _) (ga _)) λy hy=>cj (DR h hi.a hy) λx hx=>⟨k hx (ga _),gu⟩
  |exact cj (Lj _ (h.r _) (h.r _)) λy hy=>cj (DR h hi.a hy) λx hx=>⟨k hx (ga _),gu⟩
  |refine bh ?_)
 all_goals(first
  |exact⟨k h (ga _),gu⟩
  |exact⟨k h (ga _),h.r _⟩)
theorem Z8d(hm:fg P m):(IK c m i).w (λr=>iX r.1/\fg P r.2):=by
 have w:=Tj i.Op
 unfold IK
 refine aw (rc hi.b) (aq λx0 h0=>?_)
 rw[<-h0]at w
 refine cj (Of hm (ga _) w 2) λx1 h1=>ae (λ_=>aq λy hy=>⟨by rw[hy];exact IN h _ (ga _),h1.2⟩) (λ_=>aq λx3 h3=>?_)
 rw[h0,<-h3]at w
 exact cj (Qv h1.2 h1.1 w) λx4 h4=>ae (λ_=>cj (Xf h4.1 8) λy hy=>cj (DR h hi.a hy) λx hx=>⟨⟨hx.x,ga _,hx.jy⟩,h1.2⟩) (λ_=>cj (DR h hi.a h4.1) λx hx=>⟨⟨hx.x,ga _,hx.jy⟩,h1.2⟩)
theorem Z1u(hm:fg P m):(IL c m i).w (λr=>iX r.1/\fg P r.2):=by
 have w:=Tj i.Op
 unfold IL
 refine aw (rc hi.b) (aq λx0 h0=>?_)
 rw[<-h0]at w
 refine cj (Of hm (ga _) w 3) λx1 h1=>ae (λ_=>aq λy hy=>⟨by rw[hy];exact IN h _ (ga _),h1.2⟩) (λ_=>aq λx3 h3=>aw (rc hi.a) ?_)
 rw[h0,<-h3]at w
 exact cj (Tk h1.2 h1.1 w (h.r _)) λx hx=>⟨⟨h.x,ga _,h.jy⟩,hx⟩
end
theorem xav(h:iX c)(hm:fg P m):(EO c m).w (λr=>iX r.1/\fg P r.2.1/\U r.2.2.Value):=by
 unfold EO
 refine cj (Xg hm h) λx0 h0=>ae (λ_=>aq λy hy=>⟨by rw[hy];exact IN h _ h.pc,h0.2,gu⟩) (λ_=>cj (Xh _) λx2 h2=>ae (λ_=>aq λy hy=>⟨by rw[hy];exact IN h _ h0.1,h0.2,gu⟩) (λhb=>?_))
 have hi:=h2 (by simpa using hb)
 refine aq λx4 _=>?_
 repeat'(first
  |refine ae (λ_=>?_) (λ_=>?_)
  |exact cj (Z8d h hi h0.2) λx hx=>⟨hx.1,hx.2,gu⟩
  |exact cj (Z1u h hi h0.2) λx hx=>⟨hx.1,hx.2,gu⟩
  |exact cj (Zte h hi) λx hx=>⟨hx.1,h0.2,hx.2⟩
  |exact aq λy hy=>⟨by rw[hy];exact IN h _ h0.1,h0.2,gu⟩
  |refine aq λ_ _=>?_)
theorem Vt{a:Int}(h:U a)(k:Nat)(hk:k<=32):0<=bb .u32 a k/\bb .u32 a k*2^k<=a:=by
 obtain⟨h1,h2⟩:=h
 unfold bb
 have e:min (k:Int).toNat u32.bits=k:=by show min (k:Int).toNat 32=k;omega
 have hp:(0:Int)<2^k:=dI (by decide)
 rw[e,dJ _ (dK hp)]
 exact⟨Int.ediv_nonneg h1 (dK hp),Int.ediv_mul_le a (Int.ne_of_gt hp)⟩
theorem Zqw(x:Int):0<=u8.wrap x/\u8.wrap x<256:=by rw[wrap_u8];omega
theorem qaw(h:U x):(DP x).w (λ_=>True):=by
 have Bd:=Vt h 16 (by omega)
 have s8:=Vt h 8 (by omega)
 have uA:=Vt (Ax h 16) 8 (by omega)
 obtain⟨h1,h2⟩:=h
 unfold DP
 repeat'(first
  |refine ae (λ_=>?_) (λ_=>?_)
  |refine aw (dY ⟨?_,gS (b:=256) ?_ (gT (by kernel_rfl))⟩) ?_
  |exact trivial
  |refine bh ?_)
 all_goals(first
  |trivial
  |exact(Zqw _).1
  |exact(Zqw _).2
  |(simp only[decide_eq_true_eq,decide_eq_false_iff_not]at*;simp at Bd s8 uA;omega))
theorem Cg(a:Int):ba .u32 a 255<256:=by
 unfold ba
 rw[wrap_u32]
 have:(dR u32.bits a&&&dR u32.bits 255).toNat<=255:=by
  show(dR 32 a&&&dR 32 255).toNat<=255
  rw[dU]
  exact Nat.le_trans Nat.and_le_right (by decide)
 omega
theorem xaJ(h:U x):(Rv x).w (λ_=>True):=by
 have uA:=Vt h 24 (by omega)
 obtain⟨h1,h2⟩:=h
 have i24:bb .u32 x 24<256:=by simp at uA;omega
 unfold Rv
 repeat'(first
  |refine aw (dY ⟨?_,gS (b:=256) ?_ (gT (by kernel_rfl))⟩) ?_
  |exact trivial
  |refine bh ?_)
 all_goals(first
  |trivial
  |exact(ga _).1
  |exact uA.1
  |exact i24
  |exact Cg _)
structure Av(P:Nat)(m:bd):Prop where
 oB:iX m.B2
 mem:fg P m.Mem
 mw:Au m.B5
 wE:uz m.D1
 target:U m.A7.A2
 given:U m.A7.D0
theorem Zpa{b:gw}(h:U b.D0):(Rw b).w (λ_=>True):=by
 unfold Rw
 exact cj (xaJ h) λ_ _=>trivial
theorem qaa{m:bd}(h:U m.A7.D0):(JZ m).w (λ_=>True):=by
 have b:∀x,(IE m.A7 x).w (λ_=>True):=λx=>by
  unfold IE
  exact cj (qaw h) λ_ _=>trivial
 have d:(GI m).w (λ_=>True):=by
  unfold GI
  exact aq λ_ _=>aq λ_ _=>ae (λ_=>aq λ_ _=>ae (λ_=>aq λ_ _=>ae (λ_=>aq λ_ _=>ae (λ_=>cj (b _) λ_ _=>trivial) (λ_=>trivial)) (λ_=>trivial)) (λ_=>trivial)) (λ_=>trivial)
 unfold JZ
 repeat'(first
  |refine ae (λ_=>?_) (λ_=>?_)
  |exact cj d λ_ _=>trivial
  |refine aq λ_ _=>?_
  |exact trivial)
theorem vV{m:bd}(h:U m.A7.D0):(LW m).w (λ_=>True):=by
 have p:(LP m.A7).w (λ_=>True):=by
  unfold LP
  exact cj (Zpa h) λ_ _=>trivial
 unfold LW
 refine aq λx0 _=>aq λx1 _=>aq λx2 _=>aq λx3 _=>cj p λx4 _=>fv (inv:=λz=>0<=z.2/\z.2<=5) (μ:=Qje m) ⟨by omega,by omega⟩ (cN _) (λz hz=>?_)
 obtain⟨z1,z2⟩:=hz
 have ew:z.2<5->i64.wrap (z.2+1)=z.2+1:=λ_=>by rw[wrap_i64];omega
 refine ae (λhb=>?_) (λ_=>trivial)
 have hb:=oY hb
 have nx:(0<=i64.wrap (z.2+1)/\i64.wrap (z.2+1)<=5)/\(5-i64.wrap (z.2+1)).toNat<(5-z.2).toNat:=by rw[ew hb];omega
 refine aw (by simp;omega) (ae (λ_=>aw (dY z1) (ff nx)) (λ_=>ff nx))
theorem Zbc{m:bd}(h:U m.A7.D0):(LY m).w U:=by
 unfold LY
 exact cj (vV h) λ_ _=>Ly _ _
theorem zaw{m:bd}(h:U m.A7.D0):(IM m).w (λ_=>True):=by
 have i:(L0 m).w (λ_=>True):=by
  unfold L0
  exact ae (λ_=>cj (Zbc h) λ_ _=>trivial) (λ_=>trivial)
 unfold IM
 exact cj (qaa h) λ_ _=>ae (λ_=>ae (λ_=>cj i λ_ _=>ae (λ_=>trivial) (λ_=>trivial)) (λ_=>trivial)) (λ_=>trivial)
theorem DT(h:fg P m):wG m=P:=by
 obtain⟨h1,h2,h3,_⟩:=h
 simp only[wG,Qs,Tree.m]
 have e:(m.length:Int)=32*P:=by omega
 rw[e]
 have e1:(cZ (32*(P:Int)) 32 !=0)=false:=by simp[gQ]
 have e2:decide ((32*(P:Int))>1024)=false:=dN (by omega)
 rw[e1,e2]
 simp only[cond_false]
 rw[gR _ (by decide),wrap_i64];omega
theorem TO(h:fg P m)(hf:U f):tO m f=decide (f<P):=by
 have:=DT h
 obtain⟨h1,h2⟩:=hf
 have h3:=h.p2
 simp only[tO,Ql,Tree.m,e9,this]
 congr 1
 rw[wrap_u64,wrap_u64,dH h1 (by omega),dH (by omega) (by omega)]
theorem qaK(h:fg P m):(L3 m).w (λr=>r=m):=by
 obtain⟨h1,h2,h3,_⟩:=h
 unfold L3
 refine aw ?_ ?_
 ·simp[bN,D.plain];omega
 ·show _=_
  simp
theorem Rx(h:fg P m){addr size v:Int}(ha:U addr)(hl:addr<4*m.length)(hv:U v):(Lw m addr size v).w (fg P):=by
 obtain⟨h1,h2,h3,h4⟩:=h
 obtain⟨a1,a2⟩:=ha
 have e:wrap u32 (eF addr 4)=addr/4:=by rw[wrap_u32,eG a1];omega
 have hc:(bX 1 1&&bN 0 1&&decide (0<=wrap u32 (eF addr 4)/\wrap u32 (eF addr 4)<(m.length:Int)))=true:=by
  rw[e];simp[bN];omega
 have h0:∀x,decide (0<=wrap u32 x)=true:=λx=>dY (ga x).1
 have hs:∀i v,U v->fg P (m.set i v):=λi v hv=>⟨by simp[h1],h2,h3,EI h4 hv i⟩
 unfold Lw
 exact ae (λ_=>aw hc (hs _ _ hv)) (λ_=>aw hc (aw (h0 _) (aw (h0 _) (aw hc (hs _ _ (nS _ _))))))
section
variable {c:bq} (h:iX c)
include h
theorem J0(k:Int)(hb:U b):iX (ra c k b):=by
 refine(Tree.post (Ou c k b) (W:=iX) ?_)
 unfold Ou
 refine aq λ_ _=>aq λ_ _=>⟨h.x,h.a1,?_⟩
 intro w hw
 simp only[A8.l,cQ,cR,or_false]at hw
 rcases hw with rfl|rfl|rfl|rfl|rfl|rfl|rfl|rfl
 ·exact nS _ _
 ·exact h.a1
 ·exact h.pc
 ·exact ga _
 ·exact hb
 ·exact h.a5
 ·exact h.a6
 ·exact h.a7
theorem qW:iX (Tw c):=by
 refine(Tree.post (Ow c) (W:=iX) ?_)
 unfold Ow
 refine aq λ_ _=>aq λ_ _=>⟨h.x,h.a2,?_⟩
 intro w hw
 simp only[A8.l,cQ,cR,or_false]at hw
 rcases hw with rfl|rfl|rfl|rfl|rfl|rfl|rfl|rfl
 ·exact nS _ _
 ·exact h.a1
 ·exact h.a2
 ·exact h.a3
 ·exact h.a4
 ·exact h.a5
 ·exact h.a6
 ·exact h.a7
theorem EF(r:Int)(hv:U v):(IX c r v).w iX:=by
 unfold IX
 refine ae (λh1=>ae (λh2=>aw ?_ ⟨Xk h.x hv _,h.pc,h.jy⟩) (λ_=>h)) (λ_=>h)
 have h1:=oY h1
 have h2:=oY h2
 simp[bN];omega
theorem xaw(k:Int)(hv:U v):(LI c k v).w iX:=by
 have ok:∀i v,U v->iX {X:=c.X,Pc:=c.Pc,C3:=A8.of 0 (dB (A8.l c.C3) i v)}:=λi v hv=>⟨h.x,h.pc,Zh4 h.jy hv i⟩
 unfold LI
 repeat'(first
  |exact h
  |exact ok _ _ (ga _)
  |exact ok _ _ hv
  |refine ae (λhk=>?_) (λ_=>?_)
  |refine aw (by rw[eq_of_beq (by assumption:(k==_)=true)];decide) ?_)
end
section
variable {P:Nat} {m:List Int} (h:fg P m)
include h
theorem Zf0(a:Int)(hs:size=1\/size=4):(IT m a size).w (λb=>b=true->a<128*P):=by
 have hp:=DT h
 have h2:=h.p2
 have e:decide (wrap u32 size≠0)=true:=by rcases hs with rfl|rfl<;>decide
 have l:∀x,x=wG m->decide (a<wrap u32 (wrap i64 (128*x)))=true->a<128*P:=λx hx hd=>by
  rw[hx,hp,wrap_u32,wrap_i64]at hd
  have:=oY hd
  omega
 unfold IT
 refine ae (λ_=>ae (λ_=>λh=>by cases h) (λ_=>?_)) (λ_=>?_)<;>
 exact aw e (ae (λ_=>aq λx hx=>l x hx) (λ_=>λh=>by cases h))
theorem idx{a:Int}(ha:U a)(hl:a<128*P):(bX 1 1&&bN 0 1&&decide (0<=wrap u32 (eF a 4)/\wrap u32 (eF a 4)<(m.length:Int)))=true:=by
 obtain⟨a1,a2⟩:=ha
 have e:wrap u32 (eF a 4)=a/4:=by rw[wrap_u32,eG a1];omega
 have:=h.len
 rw[e];simp[bN];omega
theorem OE{a:Int}(ha:U a)(hs:size=1\/size=4):(DV m a size).w (λr=>U r.1):=by
 obtain⟨g1,g2⟩:=Tree.pp (Zf0 h a hs)
 unfold DV
 refine df g1 (aq λx hx=>ae (λ_=>gu) (λhb=>?_))
 have hb:x=true:=by simpa using hb
 have hl:=g2 (hx.symm.trans hb)
 refine aw (idx h ha hl) (ae (λ_=>aw (dY (ga _).1) (ga _)) (λ_=>Bf h.u _))
theorem zaK{a:Int}(ha:U a)(access:Int):(LA m a access).w (fg P):=by
 obtain⟨g1,g2⟩:=Tree.pp (Zf0 h a (size:=4) (.inr rfl))
 have hs:∀{m:List Int} i v,fg P m->U v->fg P (m.set i v):=λi v h hv=>⟨by simp[h.len],h.p1,h.p2,EI h.u hv i⟩
 unfold LA
 refine df g1 (aq λx hx=>ae (λ_=>h) (λhb=>?_))
 have hb:x=true:=by simpa using hb
 have hl:=g2 (hx.symm.trans hb)
 have i0:=idx h ha hl
 have h':=hs (Int.toNat (wrap u32 (eF a 4))) (iU u32 (m.getD (Int.toNat (wrap u32 (eF a 4))) 0) 8) h (nS _ _)
 have i1:=idx h' ha hl
 exact aw i0 (aw i0 (ae (λ_=>aw i1 (aw i1 (hs _ _ h' (nS _ _)))) (λ_=>h')))
theorem zaa(hr:U root)(hv:U va)(access:Int):(GR m root va access).w (λt=>U t.Addr/\U t.G1/\(t.G0=0->t.Addr<128*P)):=by
 have hp:=DT h
 have h2:=h.p2
 have hlen:=h.len
 obtain⟨r1,r2⟩:=hr
 obtain⟨v1,v2⟩:=hv
 unfold GR
 refine aq λx0 ob=>aq λx1 pA=>aq λx2 _=>?_
 have hc:x0≠0:=by
  rw[ob]
  simp only[Co,LH,Tree.m]
  cases access==1<;>cases access==3<;>simp
 rw[hp]at pA
 have bad:U (0:Int)/\U (0:Int)/\(x0=0->(0:Int)<128*P):=⟨gu,gu,λe=>absurd e hc⟩
 refine ae (λ_=>bad) (λ_=>ae (λ_=>bad) (λDX=>ae (λ_=>bad) (λDK=>?_)))
 have DX:=oN DX
 have DK:=oN DK
 have e1:wrap u32 x1=P:=by rw[pA,wrap_u32];omega
 rw[e1]at DK
 have e2:wrap u32 (wrap u32 (root*128)+wrap u32 (4*wrap u32 (eF va 128)))=root*128+4*(va/128):=by
  rw[eG v1,wrap_u32,wrap_u32,wrap_u32,wrap_u32];omega
 have hU:U (wrap u32 (wrap u32 (root*128)+wrap u32 (4*wrap u32 (eF va 128)))):=ga _
 have ci:=idx h hU (by rw[e2];omega)
 have iq:∀w:Int,decide (ba u32 w 255>=wrap u32 x1)=false->(U (wrap u32 (wrap u32 (ba u32 w 255*128)+cZ va 128))/\U (wrap u32 (wrap u32 (root*128)+wrap u32 (4*wrap u32 (eF va 128))))/\((0:Int)=0->wrap u32 (wrap u32 (ba u32 w 255*128)+cZ va 128)<128*P)):=λw hw=>by
  have hw:=oN hw
  rw[e1]at hw
  have hn:=(Ly w 255).1
  refine⟨ga _,ga _,λ_=>?_⟩
  rw[Int.tmod_eq_emod_of_nonneg v1,wrap_u32,wrap_u32]
  generalize ba u32 w 255=q at*
  omega
 refine aw ci ?_
 repeat'(first
  |exact bad
  |exact iq _ (by assumption)
  |refine ae (λ_=>?_) (λ_=>?_)
  |refine aw ci ?_)
theorem TA(hc:iX c)(hv:U va)(hs:size=1\/size=4)(access:Int):(IY c m va size access).w (λr=>fg P r.2.2/\U r.1/\(r.2.1=0->r.1<128*P)):=by
 have e:decide (wrap u32 size≠0)=true:=by rcases hs with rfl|rfl<;>decide
 obtain⟨g1,g2⟩:=Tree.pp (Zf0 h va hs)
 obtain⟨k1,k2⟩:=Tree.pp (zaa h hc.a6 hv access)
 have bad:∀k:Int,k≠0->fg P m/\U (0:Int)/\(k=0->(0:Int)<128*P):=λk hk=>⟨h,gu,λe=>absurd e hk⟩
 have hca:Co access≠0:=by
  simp only[Co,LH,Tree.m]
  cases access==1<;>cases access==3<;>simp
 unfold IY
 refine aq λx0 _=>ae (λ_=>bad 5 (by decide)) (λ_=>ae (λh1=>ae (λh2=>?_) (λ_=>?_)) (λ_=>?_))
 ·exact bad 5 (by decide)
 all_goals(
  refine aw e (ae (λ_=>bad 3 (by decide)) (λ_=>aq λx1 _=>ae (λ_=>df g1 (aq λx2 IP=>ae (λ_=>aq λx3 hx3=>bad x3 (by rw[hx3];exact hca)) (λhb=>?_))) (λ_=>df k1 (aq λx4 hx4=>ae (λhb=>?_) (λhb=>?_)))))
  ·have hb:x2=true:=by simpa using hb
   exact⟨h,hv,λ_=>g2 (IP.symm.trans hb)⟩
  ·exact bad _ (by simpa using hb)
  ·obtain⟨t1,t2,t3⟩:=k2
   rw[show(GR m c.C3.a6 va access).m=x4 from hx4.symm]at t1 t2 t3
   obtain⟨m1,m2⟩:=Tree.pp (zaK h t2 access)
   refine df m1 (aq λx5 hx5=>?_)
   exact⟨hx5▸m2,t1,λ_=>t3 (by simpa using hb)⟩)
end
theorem yz{r:Int}(h:Lo r=true):0<=r/\r<16:=by
 simp only[Lo,Tp,Tree.m]at h
 cases h1:decide (r>=0)<;>rw[h1]at h
 ·cases h
 ·have h1:=oY h1
  have h:=oY h
  omega
theorem xW(hi:wrap .i64 i.bz=i.bz)(h:Q9 i=true):Qh i:=by
 have no:false=true->Qh i:=λh=>by cases h
 refine(Tree.post (Oj i) (W:=λb=>b=true->Qh i) ?_) h
 unfold Oj
 refine aq λx0 h0=>ae (λ_=>no) (λ_=>aq λx1 h1=>ae (λ_=>no) (λb1=>aq λx2 h2=>ae (λ_=>no) (λb2=>aq λx3 h3=>ae (λ_=>no) (λb3=>aq λx4 h4=>ae (λ_=>no) (λb4=>ae (λ_=>no) (λb5=>?_))))))
 have b1:x1=true:=by simpa using b1
 have b2:x2=true:=by simpa using b2
 have b3:x3=true:=by simpa using b3
 have b4:=oN b4
 have b5:=oN b5
 rw[hi]at b4 b5
 have ok:Qh i:=⟨yz (h1.symm.trans b1),yz (h2.symm.trans b2),yz (h3.symm.trans b3),λe=>by
  rw[e]at h0
  have h0:x0=8:=h0
  subst h0
  have h4:x4=(0,7):=h4
  subst h4
  simp at b4 b5;omega⟩
 repeat'(first
  |exactλ_=>ok
  |exact no
  |refine ae (λ_=>?_) (λ_=>?_))
theorem Zp1(w:Int):(Lq w).w (λr=>r.2=true->Qh r.1):=by
 have no:∀{p:Prop},false=true->p:=λh=>by cases h
 have e:∀x,wrap .i64 (wrap .i32 x)=wrap .i32 x:=λx=>by rw[wrap_i64,wrap_i32];omega
 have ok:∀i,wrap .i64 i.bz=i.bz->∀x,x=Q9 i->(!x)=false->true=true->Qh i:=λi hi x hx hb _=>xW hi (hx.symm.trans (by simpa using hb))
 unfold Lq
 refine aq λx0 _=>?_
 have l:∀i,wrap .i64 i.bz=i.bz->(Tree.lv (Q9 i) λx=>.br (!x) (.lf ((⟨0,0,0,0,0⟩:ik),false)) (.lf (i,true))).w (λr=>r.2=true->Qh r.1):=λi hi=>aq λx hx=>ae (λ_=>no) (λhb=>ok i hi x hx hb)
 refine ae (λ_=>no) (λ_=>ae (λ_=>l _ rfl) (λ_=>ae (λ_=>l _ (e _)) (λ_=>ae (λ_=>l _ (e _)) (λ_=>l _ (e _)))))
theorem Ry(b:Bool):U (Cp b):=by cases b<;>exact⟨by decide,by decide⟩
theorem Zp6{a b:Int}(ha:U a)(hb:U b):(LF a b).w (λr=>U r.1/\U r.2):=by
 unfold LF
 refine ae (λ_=>⟨⟨by omega,by omega⟩,ha⟩) (λh=>?_)
 have h:¬b=0:=by simpa using h
 obtain⟨b1,b2⟩:=hb
 have hc:decide (wrap i64 (wrap i32 b)≠0)=true:=dY (by rw[wrap_i64,wrap_i32];omega)
 exact aw hc (aw hc ⟨ga _,ga _⟩)
theorem HG(op:Int){a b:Int}(ha:U a)(hb:U b):(Rz op a b).w (λr=>U r.1):=by
 unfold Rz
 refine aq λx0 _=>?_
 repeat'(first
  |exact ga _
  |exact Ax ha _
  |exact gu
  |refine ae (λ_=>?_) (λ_=>?_)
  |exact cj (Zp6 ha hb) λx hx=>hx.1
  |exact cj (Zp6 ha hb) λx hx=>hx.2
  |exact aq λx hx=>(by rw[hx];exact Ry _))
theorem vz(hx:U x):(RA x 8).w U:=by
 unfold RA
 have h0:decide (0<=wrap u64 8)=true:=by decide
 refine ae (λh=>absurd h (by decide)) λ_=>ae (λh=>absurd h (by decide)) λ_=>aw h0 (aw (by decide) (ae (λ_=>aw h0 (nS _ _)) (λ_=>Ly _ _)))
section
variable {c:bq} (h:iX c) {i:ik} (hi:Qh i)
include h hi
theorem zW:(RB c i).w (λr=>iX r.1/\U r.2.Value):=by
 unfold RB
 refine ae (λ_=>aq λx hx=>⟨hx▸J0 h _ gu,gu⟩) (λ_=>ae (λ_=>aq λx hx=>⟨hx▸qW h,gu⟩) (λ_=>ae (λe=>aw ?_ (cj (EF h _ (h.a _)) λx hx=>⟨hx.AQ (ga _),gu⟩)) (λ_=>ae (λ_=>aw (rc hi.a) (cj (xaw h _ (h.r _)) λx hx=>⟨hx.AQ (ga _),gu⟩)) (λ_=>?_))))
 ·have:=hi.jy (by simpa using e)
  simp[bN];omega
 ·have k:=h.AQ (ga (c.Pc+4))
  repeat'(first
   |exact⟨k,gu⟩
   |exact⟨k,h.r _⟩
   |refine ae (λ_=>?_) (λ_=>?_)
   |refine aw (rc hi.a) ?_)
theorem xaK:(RC c i).w iX:=by
 unfold RC
 exact ae (λ_=>cj (EF h _ (ga _)) λx hx=>hx.AQ (ga _)) (λ_=>ae (λ_=>aw (rc hi.b) (cj (EF h _ (ga _)) λx hx=>hx.AQ (ga _))) (λ_=>aw (rc hi.a) (aw (rc hi.b) (aq λx _=>ae (λ_=>h.AQ (ga _)) (λ_=>h.AQ (ga _))))))
theorem Zrn(hm:fg P m):(RD c m i).w (λr=>iX r.1/\fg P r.2):=by
  unfold RD
  refine aw (rc hi.b) ?_
  have e1:(1:Int)=1\/(1:Int)=4:= .inl rfl
  have e4:(4:Int)=1\/(4:Int)=4:= .inr rfl
  repeat'(first
    |refine ae (λ_=> ?_) (λ_=> ?_)
    | (refine cj (TA hm h (ga _) e4 _) λx hx=> ?_
       obtain⟨m1,m2,m3⟩:=hx
       refine ae (λ_=>aq λy hy=>⟨hy▸J0 h _ (ga _),m1⟩) (λhb=> ?_)
       have m3:=m3 (by simpa using hb)
       have m4:x.1<4*x.2.2.length:=by rw[m1.len];omega
       clear hb)
    | (refine cj (TA hm h (ga _) e1 _) λx hx=> ?_
       obtain⟨m1,m2,m3⟩:=hx
       refine ae (λ_=>aq λy hy=>⟨hy▸J0 h _ (ga _),m1⟩) (λhb=> ?_)
       have m3:=m3 (by simpa using hb)
       have m4:x.1<4*x.2.2.length:=by rw[m1.len];omega
       clear hb)
    |exact aw (rc hi.a) (cj (Rx (by assumption) (by assumption) (by assumption) (h.r _)) λy hy=>⟨h.AQ (ga _),hy⟩)
    |(refine cj (OE (by assumption) (by assumption) e4) λy hy=> ?_)
    |(refine cj (OE (by assumption) (by assumption) e1) λy hy=> ?_)
    |exact cj (vz (by assumption)) λz hz=>cj (EF h _ hz) λu hu=>⟨hu.AQ (ga _),by assumption⟩
    |exact cj (EF h _ (by assumption)) λu hu=>⟨hu.AQ (ga _),by assumption⟩)
end
theorem NJ(h:iX c)(hm:fg P m):(RE c m).w (λr=>iX r.1/\U r.2.1.Value/\fg P r.2.2):=by
 unfold RE
 refine cj (TA hm h h.pc (.inr rfl) 1) λx0 hx=>?_
 obtain⟨m1,m2,m3⟩:=hx
 refine ae (λ_=>aq λy hy=>⟨hy▸J0 h _ h.pc,gu,m1⟩) (λhb=>?_)
 refine cj (OE m1 m2 (.inr rfl)) λx2 h2=>S8 (Zp1 _) λx3 h3=>ae (λ_=>aq λy hy=>⟨hy▸J0 h _ h2,gu,m1⟩) (λb3=>?_)
 have hi:=h3 (by simpa using b3)
 refine aq λx5 _=>?_
 repeat'(first
  |refine ae (λ_=>?_) (λ_=>?_)
  |exact aq λy hy=>⟨hy▸J0 h _ h2,gu,m1⟩
  |exact cj (zW h hi) λy hy=>⟨hy.1,hy.2,m1⟩
  |exact cj (xaK h hi) λy hy=>⟨hy,gu,m1⟩
  |exact cj (Zrn h hi m1) λy hy=>⟨hy.1,gu,hy.2⟩
  |exact cj (EF h _ (ga _)) λy hy=>⟨hy.AQ (ga _),gu,m1⟩
  |refine aw (rc hi.c) ?_
  |refine aw (rc hi.b) ?_
  |exact cj (HG _ (h.r _) (h.r _)) λy hy=>cj (EF h _ hy) λz hz=>⟨hz.AQ (ga _),gu,m1⟩
  |exact cj (HG _ (h.r _) (ga _)) λy hy=>cj (EF h _ hy) λz hz=>⟨hz.AQ (ga _),gu,m1⟩)
theorem EU{q:Int}(h:U q):ba .u32 q 1=q%2:=by
 obtain⟨h1,h2⟩:=h
 unfold ba
 rw[wrap_u32]
 have e1:(dR 32 q).toNat=q.toNat:=by rw[BitVec.toNat_ofInt];omega
 have e2:(dR 32 1).toNat=1:=by decide
 have:(dR u32.bits q&&&dR u32.bits 1).toNat=q.toNat%2:=by
  show(dR 32 q&&&dR 32 1).toNat=_
  rw[dU,e1,e2,Nat.and_one_is_mod]
 rw[this];omega
theorem RG(b:Bool)(n:Int):(RH b n).w (λ_=>True):=by
 unfold RH
 exact ae (λ_=>aw (dY (by rw[wrap_u64];omega)) trivial) (λ_=>trivial)
theorem qax(m:bd):(RI m).w (λ_=>True):=by
 unfold RI
 exact aq λ_ _=>cj (RG _ _) λ_ _=>aq λ_ _=>cj (RG _ _) λ_ _=>aq λ_ _=>cj (RG _ _) λ_ _=>aq λ_ _=>cj (RG _ _) λ_ _=>aq λ_ _=>cj (RG _ _) λ_ _=>trivial
theorem Zib(m:bd):(LZ m).w U:=by
 unfold LZ
 exact cj (qax m) λ_ _=>Ly _ _
theorem qaL(m:bd):(L1 m).w (λ_=>True):=by
 unfold L1
 exact ae (λ_=>cj (Zib m) λ_ _=>trivial) (λ_=>trivial)
theorem Qxs{m:bd}(h:iX m.B2):(L2 m).w iX:=by
 unfold L2
 refine cj (Zib m) λx0 hx=>ae (λ_=>h) (λ_=>ae (λ_=>h) (λhb=>?_))
 have hb:x0≠0:=by simpa using hb
 have sh:∀z:Int,0<=z->z<=31->bb .u32 x0 (wrap .u64 z)=x0/2^z.toNat:=λz h1 h2=>by
  unfold bb
  have e:min (wrap .u64 z).toNat u32.bits=z.toNat:=by
   show min (wrap .u64 z).toNat 32=z.toNat
   rw[wrap_u64];omega
  rw[e,dJ _ (dK (dI (by decide)))]
 refine fv (inv:=λz=>0<=z/\z<=31/\x0/2^z.toNat≠0) (μ:=Qer m) ⟨by omega,by omega,by simpa using hb⟩ (cN _) (λz hz=>?_)
 obtain⟨z1,z2,z3⟩:=hz
 refine aw (dY (by rw[wrap_u64];omega)) (ae (λe=>ff ?_) (λ_=>aq λy hy=>hy▸J0 h _ gu))
 have e:=eq_of_beq e
 have hq:=Ax hx (wrap .u64 z)
 rw[EU hq,sh z z1 z2]at e
 rw[sh z z1 z2]at hq
 have bg:x0/2^z.toNat/2≠0:=by omega
 have z4:z<=30:=by
  rcases Int.lt_or_le z 31 with h|h
  ·omega
  ·have:z=31:=by omega
   subst this
   have:=hx.2
   have:=hx.1
   simp at z3 e bg
   omega
 show(0<=i64.wrap (z+1)/\i64.wrap (z+1)<=31/\x0/2^(i64.wrap (z+1)).toNat≠0)/\(32-i64.wrap (z+1)).toNat<(32-z).toNat
 have ew:i64.wrap (z+1)=z+1:=by rw[wrap_i64];omega
 rw[ew]
 refine⟨⟨by omega,by omega,?_⟩,by omega⟩
 have et:(z+1).toNat=z.toNat+1:=by omega
 rw[et,Int.pow_succ,<-Int.ediv_ediv_of_nonneg (dK (dI (by decide)))]
 exact bg
theorem zax{m:bd}(h:iX m.B2)(hm:fg P m.Mem):(RJ m).w (λ_=>True):=by
 unfold RJ
 refine cj (Qxs h) λx0 hx=>ae (λ_=>trivial) (λ_=>cj (OE hm hx.pc (.inr rfl)) λx1 _=>aq λx2 _=>?_)
 exact ae (λ_=>ae (λ_=>ae (λ_=>trivial) (λ_=>trivial)) (λ_=>trivial)) (λ_=>trivial)
theorem Qk(l:List Int):(bytesOf l).length=l.length:=by simp[bytesOf]
theorem Ts(l:List UInt8):(pB l).length=l.length:=by simp[pB]
theorem RL(x:Int):(MJ x 4).w (λr=>r.length=4):=by
 unfold MJ
 refine fv (inv:=λz=>0<=z.1/\z.1<=4/\(z.2.length:Int)=z.1) (μ:=Vu x 4) ⟨by omega,by omega,rfl⟩ (cN _) (λz hz=>?_)
 obtain⟨z1,z2,z3⟩:=hz
 refine ae (λh=>aw (dY (by rw[wrap_u64];omega)) (aw (dY (by omega)) (ff ?_))) (λh=>?_)
 ·have h:=oY h
  show(0<=i64.wrap (z.1+1)/\i64.wrap (z.1+1)<=4/\((z.2++[_]).length:Int)=i64.wrap (z.1+1))/\(4-i64.wrap (z.1+1)).toNat<(4-z.1).toNat
  have ew:i64.wrap (z.1+1)=z.1+1:=by rw[wrap_i64];omega
  rw[ew]
  refine⟨⟨by omega,by omega,by simp;omega⟩,by omega⟩
 ·have h:=oN h
  show(bytesOf z.2).length=4
  rw[Qk];omega
theorem xaa(hm:fg P m)(frame:Int):(GQ m frame).w (λr=>0<=frame->frame<P->r.1.length=128):=by
 have hp:=DT hm
 have hl:=hm.len
 have h2:=hm.p2
 unfold GQ
 refine ae (λh=>λh0 _=>by have:=oY h;omega) (λh=>aq λx0 hx=>ae (λh1=>λ_ h2=>by have:=oY h1;rw[hx,hp]at this;omega) (λh1=>?_))
 have h:=oN h
 have h1:=oN h1
 rw[hx,hp]at h1
 refine fv (inv:=λz=>0<=z.1/\z.1<=32/\(z.2.length:Int)=4*z.1) (μ:=Xv m frame) ⟨by omega,by omega,rfl⟩ (cN _) (λz hz=>?_)
 obtain⟨z1,z2,z3⟩:=hz
 refine ae (λhb=>?_) (λhb=>?_)
 ·have hb:=oY hb
  have e:wrap i64 (wrap i64 (frame*32)+z.1)=frame*32+z.1:=by rw[wrap_i64,wrap_i64];omega
  refine aw (by rw[e];simp[bN];omega) (df (show(4:Int)<=1000000000000 by decide) (S8 (RL _) λx1 h4=>aw (dY (by rw[Ts,h4];omega)) (ff ?_)))
  show(0<=i64.wrap (z.1+1)/\i64.wrap (z.1+1)<=32/\((z.2++pB x1).length:Int)=4*i64.wrap (z.1+1))/\(32-i64.wrap (z.1+1)).toNat<(32-z.1).toNat
  have ew:i64.wrap (z.1+1)=z.1+1:=by rw[wrap_i64];omega
  rw[ew,lA,Ts,h4]
  exact⟨⟨by omega,by omega,by omega⟩,by omega⟩
 ·have hb:=oN hb
  intro _ _
  show(bytesOf z.2).length=128
  rw[Qk];omega
theorem qA(hm:fg P m)(hd:Au d)(port:Int)(hv:U v)(gv:Int):(LN d m port v gv).w (λr=>Au r.1/\r.2.length<=1):=by
 have k:∀st,Au {ab:=d.ab,C9:=d.C9,Frame:=d.Frame,C8:=st,F6:=d.F6,C5:=d.C5,C6:=d.C6,C7:=d.C7}:=λst=>⟨hd.block,hd.frame,hd.kA,hd.kB⟩
 have k2:∀c o,Au {ab:=d.ab,C9:=d.C9,Frame:=d.Frame,C8:=1,F6:=c,C5:=d.C9,C6:=d.Frame,C7:=o}:=λc o=>⟨hd.block,hd.frame,hd.block,hd.frame⟩
 have k3:Au {ab:=d.ab,C9:=v,Frame:=d.Frame,C8:=d.C8,F6:=d.F6,C5:=d.C5,C6:=d.C6,C7:=d.C7}:=⟨hv,hd.frame,hd.kA,hd.kB⟩
 have k4:Au {ab:=d.ab,C9:=d.C9,Frame:=v,C8:=d.C8,F6:=d.F6,C5:=d.C5,C6:=d.C6,C7:=d.C7}:=⟨hd.block,hv,hd.kA,hd.kB⟩
 unfold LN
 repeat'(first
  |refine ae (λ_=>?_) (λ_=>?_)
  |exact cj (xaa hm _) λ_ _=>aq λ_ _=>⟨k2 _ _,aX _⟩
  |refine aq (λ_ _=>?_)
  |refine bh ?_)
 all_goals(first
  |exact⟨hd,bC _⟩
  |exact⟨k _,bC _⟩
  |exact⟨k2 _ _,aX _⟩
  |exact⟨k3,bC _⟩
  |exact⟨k4,bC _⟩)
theorem yW(hm:fg P m)(hn:uz n)(port:Int)(hv:U v)(gv:Int):(LO n m port v gv).w (λr=>uz r.1/\r.2.length<=1):=by
 have k1:uz {Frame:=v,F7:=n.F7,D2:=n.D2,D4:=n.D4,C4:=n.C4,F8:=n.F8}:=⟨hv,hn.len,hn.buffer,hn.GK⟩
 have k2:uz {Frame:=n.Frame,F7:=v,D2:=n.D2,D4:=n.D4,C4:=n.C4,F8:=n.F8}:=⟨hn.frame,hv,hn.buffer,hn.GK⟩
 have k3:uz {Frame:=n.Frame,F7:=n.F7,D2:=n.D2,D4:=n.D4,C4:=false,F8:=0}:=⟨hn.frame,hn.len,hn.buffer,gu⟩
 have k4:∀p r,uz {Frame:=n.Frame,F7:=n.F7,D2:=p,D4:=n.Frame,C4:=r,F8:=n.F8}:=λp r=>⟨hn.frame,hn.len,hn.frame,hn.GK⟩
 have send:∀K:List UInt8×Bool->Tree (ic×List iB),tO m n.Frame=true->(∀x:List UInt8×Bool,x.1.length=128->(K x).w (λr=>uz r.1/\r.2.length<=1))->(Tree.an (Qig m (wrap .i64 n.Frame)) (.lv (Lr m (wrap .i64 n.Frame)) K)).w (λr=>uz r.1/\r.2.length<=1):=λK hp hK=>by
  rw[TO hm hn.frame]at hp
  have hp:=oY hp
  obtain⟨f1,f2⟩:=hn.frame
  have ew:i64.wrap n.Frame=n.Frame:=by rw[wrap_i64];omega
  exact cj (xaa hm _) λx hx=>hK x (hx (by rw[ew];exact f1) (by rw[ew];exact hp))
 unfold LO
 repeat'(first
  |refine ae (λ_=>?_) (λ_=>?_)
  |refine send _ (by simp_all) (λx hx=>aw (by simp_all;exact hn.len.1) ?_)
  |refine aq (λ_ _=>?_)
  |refine bh ?_)
 all_goals(first
  |exact⟨hn,bC _⟩
  |exact⟨hn,aX _⟩
  |exact⟨k1,bC _⟩
  |exact⟨k2,bC _⟩
  |exact⟨k3,bC _⟩
  |exact⟨k4 _ _,bC _⟩)
def okB(b:gw):Prop:=U b.A2/\U b.D0
theorem zaL(hm:fg P m){b:gw}(hb:okB b)(port:Int)(hv:U v):(Bh b m port v).w (λr=>okB r.1/\fg P r.2):=by
 have DM:decide (0<=v)=true:=dY hv.1
 have h2:=hm.p2
 have rest:(Tree.br (port==11) (.br (decide (v<32)) (.cn (decide (0<=v)) (.lf (({A2:=b.A2,D0:=o4 .u32 b.D0 (fh .u32 1 v)}:gw),m))) (.lf (b,m))) (.lf (b,m))).w (λr=>okB r.1/\fg P r.2):=
  ae (λ_=>ae (λ_=>aw DM ⟨⟨hb.1,ga _⟩,hm⟩) (λ_=>⟨hb,hm⟩)) (λ_=>⟨hb,hm⟩)
 unfold Bh
 refine ae (λ_=>aq λx0 hx=>ae (λhp=>aw DM (ae (λ_=>aw DM ?_) (λ_=>rest))) (λ_=>rest)) (λ_=>rest)
 have hp:tO m v=true:=hx.symm.trans hp
 rw[TO hm hv]at hp
 have hp:=oY hp
 obtain⟨v1,v2⟩:=hv
 refine fv (inv:=λz=>0<=z.1/\z.1<=32/\fg P z.2) (μ:=XZ b m port v) ⟨by omega,by omega,hm⟩ (cN _) (λz hz=>?_)
 obtain⟨z1,z2,z3⟩:=hz
 have hl:=z3.len
 refine ae (λh=>?_) (λ_=>⟨⟨hb.1,ga _⟩,z3⟩)
 have h:=oY h
 have e:wrap i64 (wrap i64 (wrap i64 v*32)+z.1)=v*32+z.1:=by rw[wrap_i64,wrap_i64,wrap_i64];omega
 refine aw (by rw[e];simp[bN];omega) (ff ?_)
 show(0<=i64.wrap (z.1+1)/\i64.wrap (z.1+1)<=32/\fg P (dB _ _ _))/\(32-i64.wrap (z.1+1)).toNat<(32-z.1).toNat
 have ew:i64.wrap (z.1+1)=z.1+1:=by rw[wrap_i64];omega
 rw[ew]
 exact⟨⟨by omega,by omega,⟨by simp[hl],z3.p1,z3.p2,EI z3.u gu _⟩⟩,by omega⟩
structure rV(P:Nat)(m:bd):Prop where
 oB:iX m.B2
 mem:fg P m.Mem
 mw:Au m.B5
 wE:uz m.D1
 target:okB m.A7
 tL:0<=m.B7
theorem Zmi(c:iH)(port:Int):U (LM c port).2:=by
 refine Tree.post (GV c port) (W:=λr=>U r.2) ?_
 have u1:U 4294967295:=⟨by omega,by omega⟩
 unfold GV
 refine ae (λ_=>ae (λ_=>u1) (λh=>ae (λ_=>aw ?_ (aw ?_ (ga _))) (λ_=>ae (λ_=>ga _) (λ_=>gu)))) (λh1=>ae (λh=>(by rw[h1]at h;cases h)) (λ_=>ae (λ_=>ga _) (λ_=>gu)))
 ·have h:¬(c.D9.length:Int)=0:=by simpa using h
  exact dY ⟨by omega,by omega,by omega⟩
 ·have h:¬(c.D9.length:Int)=0:=by simpa using h
  simp[bN];omega
theorem xax(h:uz n)(port:Int):U (TE n port):=by
 refine Tree.post (OF n port) (W:=U) ?_
 have u1:U 1:=⟨by omega,by omega⟩
 unfold OF
 exact ae (λ_=>h.frame) (λ_=>ae (λ_=>h.GK) (λ_=>ae (λ_=>ae (λ_=>ae (λ_=>ga _) (λ_=>u1)) (λ_=>ae (λ_=>ga _) (λ_=>gu))) (λ_=>gu)))
theorem vW(h:Au d)(port:Int):U (X8 d port):=by
 refine Tree.post (Vv d port) (W:=U) ?_
 unfold Vv
 exact ae (λ_=>h.block) (λ_=>ae (λ_=>h.frame) (λ_=>ae (λ_=>ga _) (λ_=>gu)))
theorem xA(t:iW):U (X9 t):=by
 refine Tree.post (Qg t) (W:=U) ?_
 unfold Qg
 exact ae (λ_=>⟨by omega,by omega⟩) (λ_=>gu)
theorem Zm2{b:gw}(h:U b.A2)(port:Int):U (LQ b port):=by
 refine Tree.post (LR b port) (W:=U) ?_
 unfold LR
 exact ae (λ_=>h) (λ_=>ae (λ_=>aq λ_ _=>ga _) (λ_=>gu))
theorem w0(x:Int):0<=u64.wrap x:=by rw[wrap_u64];omega
section
end
section

import Derived.Test.YtaemmjbkndlkeaaGreatMigrateOrdersZt
open List renaming set->dB,mem_cons->cQ,not_mem_nil->cR
open Nat renaming blt->bN,beq->bX,lt_succ_self->cN,le_refl->aX,zero_le->bC
open Int renaming pow_pos->dI,le_of_lt->dK,fdiv_eq_ediv_of_nonneg->dJ,tmod->cZ,mul_tmod_right->gQ,mul_tdiv_cancel_left->gR,tdiv->eF,tdiv_eq_ediv_of_nonneg->eG,emod_eq_of_lt->dH,lt_of_lt_of_le->gS,le_of_eq->gT
open BitVec renaming ofInt->dR,toNat_and->dU
set_option maxRecDepth 100000
set_option linter.all false
namespace Go.Proofs.YtaemmjbkndlkeaaGreat
open Go Go.GD
open Go.IntKind(wrap i64 u32 u64 u8 i32 wrap_i64 wrap_u32 wrap_u64 wrap_u8 wrap_i32)
variable {P:Nat}{b f root size v va x:Int}{c:bq}{d:fx}{i:gw}{m:List Int}{n:gx}
def U(x:Int):Prop:=0<=x/\x<4294967296
theorem fk(x:Int):U (u32.wrap x):=by rw[wrap_u32];unfold U;omega
theorem Ls(x y:Int):U (bb .u32 x y):=fk _
theorem nJ(x y:Int):U (iJ .u32 x y):=fk _
theorem gd:U 0:=⟨by omega,by omega⟩
theorem EN(h:∀w∈m,U w)(hv:U v)(i:Nat):∀w∈m.set i v,U w:=by
 intro w hw
 rcases List.mem_or_eq_of_mem_set hw with h1|h1
 ·exact h w h1
 ·rw[h1];exact hv
structure Q1(P:Nat)(m:List Int):Prop where
 len:m.length=32*P
 p1:0<=P
 p2:P<=32
 u:∀w∈m,U w
structure Ar(d:fx):Prop where
 block:U d.C8
 frame:U d.Frame
 ki:U d.C5
 kj:U d.C6
structure uu(n:gx):Prop where
 frame:U n.Frame
 len:U n.F8
 buffer:U n.D3
 GV:U n.G0
theorem Be{l:List Int}(h:∀w∈l,U w)(i:Nat):U (l.getD i 0):=by
 by_cases hi:i<l.length
 ·have:l.getD i 0=l[i]:=by simp[List.getD,hi]
  rw[this];exact h _ (List.getElem_mem hi)
 ·have:l.getD i 0=0:=by simp[List.getD,List.getElem?_eq_none (by omega:l.length<=i)]
  rw[this];exact gd
structure iL(c:bq):Prop where
 x:∀w∈iv.l c.X,U w
 pc:U c.Pc
 jq:∀w∈A8.l c.C3,U w
theorem Zn{X:iv Int}(h:∀w∈iv.l X,U w)(hv:U v)(i:Nat):∀w∈iv.l (iv.of 0 (dB (iv.l X) i v)),U w:=by
 have hs:=EN h hv i
 intro w hw
 simp only[iv.l,iv.of,cQ,cR,or_false]at hw
 repeat(first|(rcases hw with rfl|hw;· exact Be hs _)|(subst hw;exact Be hs _))
theorem Zho{X:A8 Int}(h:∀w∈A8.l X,U w)(hv:U v)(i:Nat):∀w∈A8.l (A8.of 0 (dB (A8.l X) i v)),U w:=by
 have hs:=EN h hv i
 intro w hw
 simp only[A8.l,A8.of,cQ,cR,or_false]at hw
 repeat(first|(rcases hw with rfl|hw;· exact Be hs _)|(subst hw;exact Be hs _))
section
variable {c:bq} (h:iL c)
include h
theorem iL.a(i:Nat):U ((A8.l c.C3).getD i 0):=Be h.jq i
theorem iL.r(i:Nat):U ((iv.l c.X).getD i 0):=Be h.x i
theorem iL.a0:U c.C3.a0:=h.a 0
theorem iL.a1:U c.C3.a1:=h.a 1
theorem iL.a2:U c.C3.a2:=h.a 2
theorem iL.a3:U c.C3.a3:=h.a 3
theorem iL.a4:U c.C3.a4:=h.a 4
theorem iL.a5:U c.C3.a5:=h.a 5
theorem iL.a6:U c.C3.a6:=h.a 6
theorem iL.a7:U c.C3.a7:=h.a 7
theorem iL.AN{p:Int}(hp:U p):iL {X:=c.X,Pc:=p,C3:=c.C3}:=⟨h.x,hp,h.jq⟩
end
section
variable {α β:Type} {W:β->Prop} {t:Tree α} {Q:α->Prop} {k:α->Tree β}
theorem cv(hq:t.w Q)(g:∀x,Q x->(k x).w W):(Tree.an t.p (Tree.lv t.m k)).w W:=⟨(Tree.pp hq).1,λy hy=>g y (by rw[hy];exact(Tree.pp hq).2)⟩
theorem S8(hq:t.w Q)(g:∀x,Q x->(k x).w W):(Tree.lv t.m k).w W:=λy hy=>g y (by rw[hy];exact t.post hq)
end
theorem rc{r:Int}(h:0<=r/\r<16):(bN 0 1&&decide (0<=r/\r<((16:Nat):Int)))=true:=by simp[bN];omega
theorem Qz{a:Int}(h:U a)(b:Int):U (bj .u32 a b):=by
 unfold bj U
 obtain⟨h1,h2⟩:=h
 have hp:(0:Int)<2^(min b.toNat u32.bits):=dI (by decide)
 have:=Int.fdiv_nonneg h1 (dK hp)
 refine⟨this,?_⟩
 rw[dJ _ (dK hp)]
 have h3:=Int.ediv_le_self (2^(min b.toNat u32.bits)) h1
 omega
structure sG(i:gw):Prop where
 a:0<=i.A/\i.A<16
 b:0<=i.B/\i.B<16
 c:0<=i.C/\i.C<16
 jq:i.Op=58->0<=i.bw/\i.bw<8
theorem Xp(h:Q1 P m):jQ m=P:=by
 obtain⟨h1,h2,h3,_⟩:=h
 simp only[jQ,GQ,Tree.m]
 have e:(m.length:Int)=32*P:=by omega
 rw[e]
 have e1:(cZ (32*(P:Int)) 32 !=0)=false:=by simp[gQ]
 have e2:decide ((32*(P:Int))>1024)=false:=dN (by omega)
 rw[e1,e2]
 simp only[cond_false]
 rw[gR _ (by decide),wrap_i64];omega
theorem v8(n:Int):(Rm n).w (λ_=>True):=by
 unfold Rm
 exact ab (λ_=>trivial) (λ_=>aw (dY (by rw[wrap_u64];omega)) trivial)
theorem MD(w low n:Int):(Rn w low n).w U:=by
 unfold Rn
 exact ab (λ_=>gd) (λ_=>ab (λ_=>gd) (λ_=>ab (λ_=>gd) (λ_=>aw (dY (by rw[wrap_u64];omega)) (cv (v8 n) λ_ _=>Ls _ _))))
theorem Zrk{w:Int}(hw:U w)(low n v:Int):(Ro w low n v).w U:=by
 have h0:decide (0<=wrap u64 low)=true:=dY (by rw[wrap_u64];omega)
 unfold Ro
 exact ab (λ_=>hw) (λ_=>ab (λ_=>hw) (λ_=>ab (λ_=>hw) (λ_=>cv (v8 n) λ_ _=>aw h0 (aw h0 (nJ _ _)))))
theorem W9(hx:U x)(n:Int):(Rp x n).w U:=by
 have h0:∀y,decide (0<=wrap u64 y)=true:=λy=>dY (by rw[wrap_u64];omega)
 unfold Rp
 exact ab (λ_=>gd) (λ_=>ab (λ_=>hx) (λ_=>aw (h0 _) (aw (h0 _) (fk _))))
section
variable {P:Nat} {m:List Int} (h:Q1 P m)
include h
theorem GR:nW m:=by
 have:=h.len
 have:=h.p2
 show m.length<=35184372088832
 omega
theorem Zh1{a:Int}(ha:U a)(hs:size=1\/size=4):(I4 m a size).w (λb=>b=true->a+size<=128*P):=by
 have hp:=Xp h
 have h2:=h.p2
 obtain⟨a1,a2⟩:=ha
 have e:decide (wrap u32 size≠0)=true:=by rcases hs with rfl|rfl<;>decide
 have l:∀x,x=jQ m->decide (wrap u64 (wrap u64 a+wrap u64 size)<=wrap u64 (wrap u64 x*128))=true->a+size<=128*P:=λx hx hd=>by
  rw[hx,hp]at hd
  have:=oY hd
  simp only[wrap_u64]at this
  omega
 unfold I4
 refine ab (λ_=>ab (λ_=>λh=>by cases h) (λ_=>?_)) (λ_=>?_)<;>
 exact aw e (ab (λ_=>λh=>by cases h) (λ_=>aq λx hx=>l x hx))
theorem FY{a:Int}(ha:U a)(hl:a<128*P):(bX 1 1&&bN 0 1&&decide (0<=wrap u32 (eF a 4)/\wrap u32 (eF a 4)<(m.length:Int)))=true:=by
 obtain⟨a1,a2⟩:=ha
 have e:wrap u32 (eF a 4)=a/4:=by rw[wrap_u32,eG a1];omega
 have:=h.len
 rw[e];simp[bN];omega
theorem IW{a:Int}(ha:U a)(hs:size=1\/size=4):(Lo m a size).w (λr=>U r.1/\(r.2=true->a<128*P)):=by
 unfold Lo
 refine cv (Zh1 h ha hs) λx hx=>ab (λ_=>⟨gd,λh=>by cases h⟩) (λhb=>?_)
 have hl:=hx (by simpa using hb)
 have hl:a<128*P:=by omega
 exact aw (FY h ha hl) (ab (λ_=>cv (MD _ _ _) λy hy=>⟨hy,λ_=>hl⟩) (λ_=>⟨Be h.u _,λ_=>hl⟩))
theorem Tl{a:Int}(ha:U a)(hs:size=1\/size=4)(hv:U v):(Lq m a size v).w (λr=>Q1 P r.1):=by
 have st:∀i v,U v->Q1 P (m.set i v):=λi v hv=>⟨by simp[h.len],h.p1,h.p2,EN h.u hv i⟩
 have jm:kA m=m:=rfl
 unfold Lq
 refine c8 (GR h) (aq λx0 nV=>?_)
 rw[jm]at nV;subst nV
 refine cv (Zh1 h ha hs) λx hx=>ab (λ_=>h) (λhb=>?_)
 have hl:=hx (by simpa using hb)
 have hl:a<128*P:=by omega
 exact ab (λ_=>aw (FY h ha hl) (cv (Zrk (Be h.u _) _ _ _) λy hy=>aw (FY h ha hl) (st _ _ hy))) (λ_=>aw (FY h ha hl) (st _ _ hv))
end
theorem Zoc{r:Int}{used:Bool}(h:Li r used=true):0<=r/\r<16:=by
 simp only[Li,Tp,Tree.m]at h
 cases used
 ·have h:(r==0)=true:=h
  have:=eq_of_beq h;omega
 ·cases h1:decide (r>=0)<;>rw[h1]at h
  ·cases h
  ·have h1:=oY h1
   have h:=oY h
   omega
theorem xz(h:I2 i=true):sG i:=by
 have no:false=true->sG i:=λh=>by cases h
 refine(Tree.post (Oe i) (W:=λb=>b=true->sG i) ?_) h
 unfold Oe
 refine aq λx0 h0=>ab (λ_=>aq λx1 h1=>ab (λb1=>aq λx2 h2=>ab (λb2=>aq λx3 h3=>ab (λb3=>ab (λb4=>λb5=>?_) (λ_=>no)) (λ_=>no)) (λ_=>no)) (λ_=>no)) (λ_=>no)
 have b4:=oY b4
 have b5:=oY b5
 refine⟨Zoc (h1.symm.trans b1),Zoc (h2.symm.trans b2),Zoc (h3.symm.trans b3),λe=>?_⟩
 rw[e]at h0
 have h0:x0=({a:=true,b:=false,c:=false,low:=0,F6:=7},true):=h0
 subst h0
 simp at b4 b5;omega
theorem Xb(w:Int):(Lk w).w (λr=>r.2=true->sG r.1):=by
 have no:∀{p:Prop},false=true->p:=λh=>by cases h
 have l:∀i,(Tree.lv (I2 i) λx=>.br (!x) (.lf ((⟨0,0,0,0,0⟩:gw),false)) (.lf (i,true))).w (λr=>r.2=true->sG r.1):=λi=>aq λx hx=>ab (λ_=>no) (λhb=>λ_=>xz (hx.symm.trans (by simpa using hb)))
 unfold Lk
 exact cv (MD _ _ _) λx0 _=>cv (MD _ _ _) λx1 _=>cv (MD _ _ _) λx2 _=>aq λx3 _=>ab (λ_=>no) (λ_=>cv (MD _ _ _) λx4 h4=>ab (λ_=>l _) (λ_=>ab (λ_=>cv (W9 h4 _) λx6 _=>l _) (λ_=>l _)))
section
variable {P:Nat} {m:List Int} (h:Q1 P m)
include h
theorem vU(hf:U f):Oj m f=decide (f<P):=by
 have:=Xp h
 obtain⟨h1,h2⟩:=hf
 have h3:=h.p2
 simp only[Oj,Qj5,Tree.m,ee,this]
 congr 1
 rw[wrap_u64,wrap_u64,dH h1 (by omega),dH (by omega) (by omega)]
theorem zat(hv:U va)(access:Int):(Qb m root va access).w (λt=>U t.Addr/\U t.G2):=by
 have bad:U (0:Int)/\U (0:Int):=⟨gd,gd⟩
 have fr:∀x,(Rq x).w U:=λx=>by
  unfold Rq
  exact cv (MD _ _ _) λy hy=>hy
 unfold Qb
 exact aq λx0 _=>ab (λ_=>bad) (λ_=>ab (λ_=>bad) (λ_=>aq λx1 _=>ab (λ_=>bad) (λ_=>cv (IW h (fk _) (.inr rfl)) λx2 _=>ab (λ_=>bad) (λ_=>aq λx3 _=>ab (λ_=>bad) (λ_=>cv (fr _) λx4 _=>aq λx5 _=>ab (λ_=>bad) (λ_=>cv (fr _) λx6 _=>⟨fk _,fk _⟩))))))
theorem xV{a:Int}(ha:U a)(access:Int):(Lt m a access).w (Q1 P):=by
 have jm:kA m=m:=rfl
 unfold Lt
 exact cv (IW h ha (.inr rfl)) λx0 _=>ab (λ_=>c8 (GR h) (aq λx1 h1=>by rw[h1,jm];exact h)) (λ_=>ab (λ_=>cv (Tl h ha (.inr rfl) (nJ _ _)) λx hx=>hx) (λ_=>cv (Tl h ha (.inr rfl) (nJ _ _)) λx hx=>hx))
theorem N9(hv:U va)(hs:size=1\/size=4)(access:Int):(Lz c m va size access).w (λr=>U r.1/\Q1 P r.2.1):=by
 have jm:kA m=m:=rfl
 have e:decide (wrap u32 size≠0)=true:=by rcases hs with rfl|rfl<;>decide
 have cl:∀(K:List Int->Int×List Int×Int),(∀x,x=m->U (K x).1/\Q1 P (K x).2.1)->(Tree.an (nW m) (.lv (kA m) λx=>.lf (K x))).w (λr=>U r.1/\Q1 P r.2.1):=λK hK=>c8 (GR h) (aq λx hx=>hK x (hx.trans jm))
 have z:∀(k:Nat) (x:List Int),x=m->U (0:Int)/\Q1 P x:=λ_ x hx=>⟨gd,hx▸h⟩
 have v:∀x,x=m->U va/\Q1 P x:=λx hx=>⟨hv,hx▸h⟩
 have main:∀(x0:Int×Bool),(Tree.cn (decide (wrap u32 size≠0)) (.br (cZ va (wrap u32 size) !=0) (.an (nW m) (.lv (kA m) λx3=>.lf ((0:Int),x3,(3:Int)))) (.lv (I6 c) λx4=>.br (!x4) (.br (bb u32 c.C3.a0 4 !=0) (.an (Qj4 m c.C3.a6 va access) (.lv (Tu m c.C3.a6 va access) λx5=>.br (x5.G1 !=0) (.an (nW m) (.lv (kA m) λx6=>.lf (0,x6,x5.G1))) (.an (Qhh m x5.G2 access) (.lv (Ol m x5.G2 access) λx7=>.lf (x5.Addr,x7,0))))) (.an (JX m va size) (.lv (Cm m va size) λx8=>.br (!x8.2) (.an (nW m) (.lv (kA m) λx9=>.lf (0,x9,x0.1))) (.an (nW m) (.lv (kA m) λjy=>.lf (va,jy,0)))))) (.an (JX m va size) (.lv (Cm m va size) λkI=>.br (!kI.2) (.an (nW m) (.lv (kA m) λkr=>.lf (0,kr,x0.1))) (.an (nW m) (.lv (kA m) λAO=>.lf (va,AO,0)))))))).w (λr=>U r.1/\Q1 P r.2.1):=λx0=>
  aw e (ab (λ_=>cl _ (z 0)) (λ_=>aq λx4 _=>ab (λ_=>ab (λ_=>cv (zat h hv access) λx5 hx=>ab (λ_=>cl _ (z 0)) (λ_=>cv (xV h hx.2 access) λx7 h7=>⟨hx.1,h7⟩)) (λ_=>cv (IW h hv hs) λx8 _=>ab (λ_=>cl _ (z 0)) (λ_=>cl _ v))) (λ_=>cv (IW h hv hs) λx8 _=>ab (λ_=>cl _ (z 0)) (λ_=>cl _ v))))
 unfold Lz
 exact aq λx0 _=>ab (λ_=>cl _ (z 0)) (λ_=>ab (λ_=>ab (λ_=>cl _ (z 0)) (λ_=>main x0)) (λ_=>main x0))
theorem Xa(hc:iL c):(Rr c m).w (λr=>U r.1/\Q1 P r.2.1):=by
 unfold Rr
 exact cv (N9 h hc.pc (.inr rfl) 1) λx0 h0=>ab (λ_=>⟨gd,h0.2⟩) (λ_=>cv (IW h0.2 h0.1 (.inr rfl)) λx1 h1=>⟨h1.1,h0.2⟩)
end
theorem xat{s a b:Int}:U (Av s a b):=by
 refine Tree.post (Vk s a b) (W:=U) ?_
 unfold Vk
 exact ab (λ_=>fk _) (λ_=>fk _)
section
variable {c:bq} (h:iL c)
include h
theorem IZ(k:Int)(hb:U b):iL (rh c k b):=by
 refine(Tree.post (Om c k b) (W:=iL) ?_)
 unfold Om
 refine aq λ_ _=>aq λ_ _=>⟨h.x,h.a1,?_⟩
 intro w hw
 simp only[A8.l,cQ,cR,or_false]at hw
 rcases hw with rfl|rfl|rfl|rfl|rfl|rfl|rfl|rfl
 ·exact fk _
 ·exact h.a1
 ·exact h.pc
 ·exact fk _
 ·exact hb
 ·exact h.a5
 ·exact h.a6
 ·exact h.a7
theorem zz:iL (Lb c):=by
 refine(Tree.post (Oo c) (W:=iL) ?_)
 unfold Oo
 refine aq λx0 _=>aq λx1 h1=>⟨h.x,h.a2,?_⟩
 intro w hw
 simp only[A8.l,cQ,cR,or_false]at hw
 rcases hw with rfl|rfl|rfl|rfl|rfl|rfl|rfl|rfl
 ·rw[h1];exact xat
 ·exact h.a1
 ·exact h.a2
 ·exact h.a3
 ·exact h.a4
 ·exact h.a5
 ·exact h.a6
 ·exact h.a7
theorem DT{r:Int}(hr:0<=r/\r<16)(hv:U v):(ES c r v).w iL:=by
 unfold ES
 exact ab (λ_=>aw (rc hr) ⟨Zn h.x hv _,h.pc,h.jq⟩) (λ_=>h)
theorem Zpz(k:Int)(hv:U v):(IU c k v).w iL:=by
 have ok:∀i v,U v->iL {X:=c.X,Pc:=c.Pc,C3:=A8.of 0 (dB (A8.l c.C3) i v)}:=λi v hv=>⟨h.x,h.pc,Zho h.jq hv i⟩
 unfold IU
 repeat'(first
  |exact h
  |exact ok _ _ (fk _)
  |exact ok _ _ hv
  |refine ab (λhk=>?_) (λ_=>?_)
  |refine aw (by rw[eq_of_beq (by assumption:(k==_)=true)];decide) ?_)
end
theorem Zht{a b:Int}(ha:U a)(hb:U b):(Lx a b).w (λr=>U r.1/\U r.2):=by
 have u1:U 4294967295:=⟨by omega,by omega⟩
 unfold Lx
 refine ab (λ_=>⟨u1,ha⟩) (λh=>?_)
 have h:¬b=0:=by simpa using h
 obtain⟨b1,b2⟩:=hb
 have hc:decide (wrap i32 b≠0)=true:=dY (by rw[wrap_i32];omega)
 exact ab (λ_=>ab (λ_=>⟨ha,gd⟩) (λ_=>aw hc (aw hc ⟨fk _,fk _⟩))) (λ_=>aw hc (aw hc ⟨fk _,fk _⟩))
theorem qau(b:Bool):U (Vl b):=by cases b<;>exact⟨by decide,by decide⟩
theorem Ld(op:Int){a b:Int}(ha:U a)(hb:U b):(Rs op a b).w (λr=>U r.1):=by
 unfold Rs
 repeat'(first
  |refine ab (λ_=>?_) (λ_=>?_)
  |exact cv (Zht ha hb) λx hx=>hx.1
  |exact cv (Zht ha hb) λx hx=>hx.2
  |exact aq λx hx=>(by rw[hx];exact qau _)
  |refine bg ?_)
 all_goals(first
  |exact fk _
  |exact Qz ha _
  |exact gd)
theorem Tk(op:Int):JY op=1\/JY op=4:=by
 simp only[JY,Qvq,Tree.m]
 cases op==32<;>cases op==35<;>simp
section
variable {c:bq} (h:iL c) {i:gw} (hi:sG i)
include h hi
theorem Zsk:(ET c i).w (λr=>iL r.1/\U r.2.Value):=by
 have k:∀{x:bq} {p:Int},iL x->U p->iL {X:=x.X,Pc:=p,C3:=x.C3}:=λhx hp=>⟨hx.x,hp,hx.jq⟩
 unfold ET
 refine aw (rc hi.a) (aw (rc hi.b) ?_)
 repeat'(first
  |refine ab (λ_=>?_) (λ_=>?_)
  |exact cv (DT h hi.a (fk _)) λx hx=>⟨k hx (fk _),gd⟩
  |exact aq λx _=>ab (λ_=>⟨k h (fk _),gd⟩) (λ_=>⟨k h (fk _),gd⟩)
  |exact aq λx hx=>⟨by rw[hx];exact IZ h _ gd,gd⟩
  |exact aq λx hx=>⟨by rw[hx];exact zz h,gd⟩
  |exact aw (by have:=hi.jq (by simp_all);simp[bN];omega) (cv (DT h hi.a (h.a _)) λx hx=>⟨k hx (fk _),gd⟩)
  |exact cv (Zpz h _ (h.r _)) λx hx=>⟨k hx (fk _),gd⟩
  |refine aw (rc hi.c) ?_
  |exact cv (Ld _ (h.r _) (fk _)) λy hy=>cv (DT h hi.a hy) λx hx=>⟨k hx (fk _),gd⟩
  |exact cv (Ld _ (h.r _) (h.r _)) λy hy=>cv (DT h hi.a hy) λx hx=>⟨k hx (fk _),gd⟩
  |refine bg ?_)
 all_goals(first
  |exact⟨k h (fk _),gd⟩
  |exact⟨k h (fk _),h.r _⟩)
theorem Z8n(hm:Q1 P m):(IV c m i).w (λr=>iL r.1/\Q1 P r.2):=by
 have w:=Tk i.Op
 unfold IV
 refine aw (rc hi.b) (aq λx0 h0=>?_)
 rw[<-h0]at w
 refine cv (N9 hm (fk _) w 2) λx1 h1=>ab (λ_=>aq λy hy=>⟨by rw[hy];exact IZ h _ (fk _),h1.2⟩) (λ_=>aq λx3 h3=>?_)
 rw[h0,<-h3]at w
 exact cv (IW h1.2 h1.1 w) λx4 h4=>ab (λ_=>cv (W9 h4.1 8) λy hy=>cv (DT h hi.a hy) λx hx=>⟨⟨hx.x,fk _,hx.jq⟩,h1.2⟩) (λ_=>cv (DT h hi.a h4.1) λx hx=>⟨⟨hx.x,fk _,hx.jq⟩,h1.2⟩)
theorem Z1x(hm:Q1 P m):(IX c m i).w (λr=>iL r.1/\Q1 P r.2):=by
 have w:=Tk i.Op
 unfold IX
 refine aw (rc hi.b) (aq λx0 h0=>?_)
 rw[<-h0]at w
 refine cv (N9 hm (fk _) w 3) λx1 h1=>ab (λ_=>aq λy hy=>⟨by rw[hy];exact IZ h _ (fk _),h1.2⟩) (λ_=>aq λx3 h3=>aw (rc hi.a) ?_)
 rw[h0,<-h3]at w
 exact cv (Tl h1.2 h1.1 w (h.r _)) λx hx=>⟨⟨h.x,fk _,h.jq⟩,hx⟩
end
theorem zau(h:iL c)(hm:Q1 P m):(EU c m).w (λr=>iL r.1/\Q1 P r.2.1/\U r.2.2.Value):=by
 unfold EU
 refine cv (Xa hm h) λx0 h0=>ab (λ_=>aq λy hy=>⟨by rw[hy];exact IZ h _ h.pc,h0.2,gd⟩) (λ_=>cv (Xb _) λx2 h2=>ab (λ_=>aq λy hy=>⟨by rw[hy];exact IZ h _ h0.1,h0.2,gd⟩) (λhb=>?_))
 have hi:=h2 (by simpa using hb)
 refine aq λx4 _=>?_
 repeat'(first
  |refine ab (λ_=>?_) (λ_=>?_)
  |exact cv (Z8n h hi h0.2) λx hx=>⟨hx.1,hx.2,gd⟩
  |exact cv (Z1x h hi h0.2) λx hx=>⟨hx.1,hx.2,gd⟩
  |exact cv (Zsk h hi) λx hx=>⟨hx.1,h0.2,hx.2⟩
  |exact aq λy hy=>⟨by rw[hy];exact IZ h _ h0.1,h0.2,gd⟩
  |refine aq λ_ _=>?_)
theorem Vm{a:Int}(h:U a)(k:Nat)(hk:k<=32):0<=bj .u32 a k/\bj .u32 a k*2^k<=a:=by
 obtain⟨h1,h2⟩:=h
 unfold bj
 have e:min (k:Int).toNat u32.bits=k:=by show min (k:Int).toNat 32=k;omega
 have hp:(0:Int)<2^k:=dI (by decide)
 rw[e,dJ _ (dK hp)]
 exact⟨Int.ediv_nonneg h1 (dK hp),Int.ediv_mul_le a (Int.ne_of_gt hp)⟩
theorem Zp4(x:Int):0<=u8.wrap x/\u8.wrap x<256:=by rw[wrap_u8];omega
theorem xau(h:U x):(DR x).w (λ_=>True):=by
 have Bc:=Vm h 16 (by omega)
 have s8:=Vm h 8 (by omega)
 have uv:=Vm (Qz h 16) 8 (by omega)
 obtain⟨h1,h2⟩:=h
 unfold DR
 repeat'(first
  |refine ab (λ_=>?_) (λ_=>?_)
  |refine aw (dY ⟨?_,gS (b:=256) ?_ (gT (by kernel_rfl))⟩) ?_
  |exact trivial
  |refine bg ?_)
 all_goals(first
  |trivial
  |exact(Zp4 _).1
  |exact(Zp4 _).2
  |(simp only[decide_eq_true_eq,decide_eq_false_iff_not]at*;simp at Bc s8 uv;omega))
theorem Cf(a:Int):bb .u32 a 255<256:=by
 unfold bb
 rw[wrap_u32]
 have:(dR u32.bits a&&&dR u32.bits 255).toNat<=255:=by
  show(dR 32 a&&&dR 32 255).toNat<=255
  rw[dU]
  exact Nat.le_trans Nat.and_le_right (by decide)
 omega
theorem xaH(h:U x):(Rt x).w (λ_=>True):=by
 have uv:=Vm h 24 (by omega)
 obtain⟨h1,h2⟩:=h
 have i24:bj .u32 x 24<256:=by simp at uv;omega
 unfold Rt
 repeat'(first
  |refine aw (dY ⟨?_,gS (b:=256) ?_ (gT (by kernel_rfl))⟩) ?_
  |exact trivial
  |refine bg ?_)
 all_goals(first
  |trivial
  |exact(fk _).1
  |exact uv.1
  |exact i24
  |exact Cf _)
structure Au(P:Nat)(m:bc):Prop where
 oy:iL m.B4
 mem:Q1 P m.Mem
 my:Ar m.B7
 wF:uu m.D2
 target:U m.A7.A2
 given:U m.A7.D0
theorem Zpu{b:gm}(h:U b.D0):(Ru b).w (λ_=>True):=by
 unfold Ru
 exact cv (xaH h) λ_ _=>trivial
theorem y9{m:bc}(h:U m.A7.D0):(JZ m).w (λ_=>True):=by
 have b:∀x,(IN m.A7 x).w (λ_=>True):=λx=>by
  unfold IN
  exact cv (xau h) λ_ _=>trivial
 have d:(GS m).w (λ_=>True):=by
  unfold GS
  exact aq λ_ _=>aq λ_ _=>ab (λ_=>aq λ_ _=>ab (λ_=>aq λ_ _=>ab (λ_=>aq λ_ _=>ab (λ_=>cv (b _) λ_ _=>trivial) (λ_=>trivial)) (λ_=>trivial)) (λ_=>trivial)) (λ_=>trivial)
 unfold JZ
 repeat'(first
  |refine ab (λ_=>?_) (λ_=>?_)
  |exact cv d λ_ _=>trivial
  |refine aq λ_ _=>?_
  |exact trivial)
theorem zV{m:bc}(h:U m.A7.D0):(LP m).w (λ_=>True):=by
 have p:(LI m.A7).w (λ_=>True):=by
  unfold LI
  exact cv (Zpu h) λ_ _=>trivial
 unfold LP
 refine aq λx0 _=>aq λx1 _=>aq λx2 _=>aq λx3 _=>cv p λx4 _=>fj (inv:=λz=>0<=z.2/\z.2<=5) (μ:=Qkv m) ⟨by omega,by omega⟩ (cN _) (λz hz=>?_)
 obtain⟨z1,z2⟩:=hz
 have ew:z.2<5->i64.wrap (z.2+1)=z.2+1:=λ_=>by rw[wrap_i64];omega
 refine ab (λhb=>?_) (λ_=>trivial)
 have hb:=oY hb
 have nx:(0<=i64.wrap (z.2+1)/\i64.wrap (z.2+1)<=5)/\(5-i64.wrap (z.2+1)).toNat<(5-z.2).toNat:=by rw[ew hb];omega
 refine aw (by simp;omega) (ab (λ_=>aw (dY z1) (ep nx)) (λ_=>ep nx))
theorem Zbl{m:bc}(h:U m.A7.D0):(LR m).w U:=by
 unfold LR
 exact cv (zV h) λ_ _=>Ls _ _
theorem qav{m:bc}(h:U m.A7.D0):(IY m).w (λ_=>True):=by
 have i:(Q9 m).w (λ_=>True):=by
  unfold Q9
  exact ab (λ_=>cv (Zbl h) λ_ _=>trivial) (λ_=>trivial)
 unfold IY
 exact cv (y9 h) λ_ _=>ab (λ_=>ab (λ_=>cv i λ_ _=>ab (λ_=>trivial) (λ_=>trivial)) (λ_=>trivial)) (λ_=>trivial)
theorem DV(h:Q1 P m):wH m=P:=by
 obtain⟨h1,h2,h3,_⟩:=h
 simp only[wH,Qst,Tree.m]
 have e:(m.length:Int)=32*P:=by omega
 rw[e]
 have e1:(cZ (32*(P:Int)) 32 !=0)=false:=by simp[gQ]
 have e2:decide ((32*(P:Int))>1024)=false:=dN (by omega)
 rw[e1,e2]
 simp only[cond_false]
 rw[gR _ (by decide),wrap_i64];omega
theorem TQ(h:Q1 P m)(hf:U f):tI m f=decide (f<P):=by
 have:=DV h
 obtain⟨h1,h2⟩:=hf
 have h3:=h.p2
 simp only[tI,OC,Tree.m,ee,this]
 congr 1
 rw[wrap_u64,wrap_u64,dH h1 (by omega),dH (by omega) (by omega)]
theorem qaI(h:Q1 P m):(Qf m).w (λr=>r=m):=by
 obtain⟨h1,h2,h3,_⟩:=h
 unfold Qf
 refine aw ?_ ?_
 ·simp[bN,D.plain];omega
 ·show _=_
  simp
theorem Rv(h:Q1 P m){addr size v:Int}(ha:U addr)(hl:addr<4*m.length)(hv:U v):(Lr m addr size v).w (Q1 P):=by
 obtain⟨h1,h2,h3,h4⟩:=h
 obtain⟨a1,a2⟩:=ha
 have e:wrap u32 (eF addr 4)=addr/4:=by rw[wrap_u32,eG a1];omega
 have hc:(bX 1 1&&bN 0 1&&decide (0<=wrap u32 (eF addr 4)/\wrap u32 (eF addr 4)<(m.length:Int)))=true:=by
  rw[e];simp[bN];omega
 have h0:∀x,decide (0<=wrap u32 x)=true:=λx=>dY (fk x).1
 have hs:∀i v,U v->Q1 P (m.set i v):=λi v hv=>⟨by simp[h1],h2,h3,EN h4 hv i⟩
 unfold Lr
 exact ab (λ_=>aw hc (hs _ _ hv)) (λ_=>aw hc (aw (h0 _) (aw (h0 _) (aw hc (hs _ _ (nJ _ _))))))
section
variable {c:bq} (h:iL c)
include h
theorem J0(k:Int)(hb:U b):iL (pP c k b):=by
 refine(Tree.post (On c k b) (W:=iL) ?_)
 unfold On
 refine aq λ_ _=>aq λ_ _=>⟨h.x,h.a1,?_⟩
 intro w hw
 simp only[A8.l,cQ,cR,or_false]at hw
 rcases hw with rfl|rfl|rfl|rfl|rfl|rfl|rfl|rfl
 ·exact nJ _ _
 ·exact h.a1
 ·exact h.pc
 ·exact fk _
 ·exact hb
 ·exact h.a5
 ·exact h.a6
 ·exact h.a7
theorem yV:iL (Tx c):=by
 refine(Tree.post (Oq c) (W:=iL) ?_)
 unfold Oq
 refine aq λ_ _=>aq λ_ _=>⟨h.x,h.a2,?_⟩
 intro w hw
 simp only[A8.l,cQ,cR,or_false]at hw
 rcases hw with rfl|rfl|rfl|rfl|rfl|rfl|rfl|rfl
 ·exact nJ _ _
 ·exact h.a1
 ·exact h.a2
 ·exact h.a3
 ·exact h.a4
 ·exact h.a5
 ·exact h.a6
 ·exact h.a7
theorem EK(r:Int)(hv:U v):(I7 c r v).w iL:=by
 unfold I7
 refine ab (λh1=>ab (λh2=>aw ?_ ⟨Zn h.x hv _,h.pc,h.jq⟩) (λ_=>h)) (λ_=>h)
 have h1:=oY h1
 have h2:=oY h2
 simp[bN];omega
theorem zav(k:Int)(hv:U v):(LB c k v).w iL:=by
 have ok:∀i v,U v->iL {X:=c.X,Pc:=c.Pc,C3:=A8.of 0 (dB (A8.l c.C3) i v)}:=λi v hv=>⟨h.x,h.pc,Zho h.jq hv i⟩
 unfold LB
 repeat'(first
  |exact h
  |exact ok _ _ (fk _)
  |exact ok _ _ hv
  |refine ab (λhk=>?_) (λ_=>?_)
  |refine aw (by rw[eq_of_beq (by assumption:(k==_)=true)];decide) ?_)
end
section
variable {P:Nat} {m:List Int} (h:Q1 P m)
include h
theorem Zdy(a:Int)(hs:size=1\/size=4):(I3 m a size).w (λb=>b=true->a<128*P):=by
 have hp:=DV h
 have h2:=h.p2
 have e:decide (wrap u32 size≠0)=true:=by rcases hs with rfl|rfl<;>decide
 have l:∀x,x=wH m->decide (a<wrap u32 (wrap i64 (128*x)))=true->a<128*P:=λx hx hd=>by
  rw[hx,hp,wrap_u32,wrap_i64]at hd
  have:=oY hd
  omega
 unfold I3
 refine ab (λ_=>ab (λ_=>λh=>by cases h) (λ_=>?_)) (λ_=>?_)<;>
 exact aw e (ab (λ_=>aq λx hx=>l x hx) (λ_=>λh=>by cases h))
theorem idx{a:Int}(ha:U a)(hl:a<128*P):(bX 1 1&&bN 0 1&&decide (0<=wrap u32 (eF a 4)/\wrap u32 (eF a 4)<(m.length:Int)))=true:=by
 obtain⟨a1,a2⟩:=ha
 have e:wrap u32 (eF a 4)=a/4:=by rw[wrap_u32,eG a1];omega
 have:=h.len
 rw[e];simp[bN];omega
theorem OA{a:Int}(ha:U a)(hs:size=1\/size=4):(DX m a size).w (λr=>U r.1):=by
 obtain⟨g1,g2⟩:=Tree.pp (Zdy h a hs)
 unfold DX
 refine c8 g1 (aq λx hx=>ab (λ_=>gd) (λhb=>?_))
 have hb:x=true:=by simpa using hb
 have hl:=g2 (hx.symm.trans hb)
 refine aw (idx h ha hl) (ab (λ_=>aw (dY (fk _).1) (fk _)) (λ_=>Be h.u _))
theorem zaI{a:Int}(ha:U a)(access:Int):(Lu m a access).w (Q1 P):=by
 obtain⟨g1,g2⟩:=Tree.pp (Zdy h a (size:=4) (.inr rfl))
 have hs:∀{m:List Int} i v,Q1 P m->U v->Q1 P (m.set i v):=λi v h hv=>⟨by simp[h.len],h.p1,h.p2,EN h.u hv i⟩
 unfold Lu
 refine c8 g1 (aq λx hx=>ab (λ_=>h) (λhb=>?_))
 have hb:x=true:=by simpa using hb
 have hl:=g2 (hx.symm.trans hb)
 have i0:=idx h ha hl
 have h':=hs (Int.toNat (wrap u32 (eF a 4))) (iJ u32 (m.getD (Int.toNat (wrap u32 (eF a 4))) 0) 8) h (nJ _ _)
 have i1:=idx h' ha hl
 exact aw i0 (aw i0 (ab (λ_=>aw i1 (aw i1 (hs _ _ h' (nJ _ _)))) (λ_=>h')))
theorem qaa(hr:U root)(hv:U va)(access:Int):(G5 m root va access).w (λt=>U t.Addr/\U t.G2/\(t.G1=0->t.Addr<128*P)):=by
 have hp:=DV h
 have h2:=h.p2
 have hlen:=h.len
 obtain⟨r1,r2⟩:=hr
 obtain⟨v1,v2⟩:=hv
 unfold G5
 refine aq λx0 nV=>aq λx1 pd=>aq λx2 _=>?_
 have hc:x0≠0:=by
  rw[nV]
  simp only[Cn,LA,Tree.m]
  cases access==1<;>cases access==3<;>simp
 rw[hp]at pd
 have bad:U (0:Int)/\U (0:Int)/\(x0=0->(0:Int)<128*P):=⟨gd,gd,λe=>absurd e hc⟩
 refine ab (λ_=>bad) (λ_=>ab (λ_=>bad) (λDZ=>ab (λ_=>bad) (λDM=>?_)))
 have DZ:=oN DZ
 have DM:=oN DM
 have e1:wrap u32 x1=P:=by rw[pd,wrap_u32];omega
 rw[e1]at DM
 have e2:wrap u32 (wrap u32 (root*128)+wrap u32 (4*wrap u32 (eF va 128)))=root*128+4*(va/128):=by
  rw[eG v1,wrap_u32,wrap_u32,wrap_u32,wrap_u32];omega
 have hU:U (wrap u32 (wrap u32 (root*128)+wrap u32 (4*wrap u32 (eF va 128)))):=fk _
 have ci:=idx h hU (by rw[e2];omega)
 have gz:∀w:Int,decide (bb u32 w 255>=wrap u32 x1)=false->(U (wrap u32 (wrap u32 (bb u32 w 255*128)+cZ va 128))/\U (wrap u32 (wrap u32 (root*128)+wrap u32 (4*wrap u32 (eF va 128))))/\((0:Int)=0->wrap u32 (wrap u32 (bb u32 w 255*128)+cZ va 128)<128*P)):=λw hw=>by
  have hw:=oN hw
  rw[e1]at hw
  have hn:=(Ls w 255).1
  refine⟨fk _,fk _,λ_=>?_⟩
  rw[Int.tmod_eq_emod_of_nonneg v1,wrap_u32,wrap_u32]
  generalize bb u32 w 255=q at*
  omega
 refine aw ci ?_
 repeat'(first
  |exact bad
  |exact gz _ (by assumption)
  |refine ab (λ_=>?_) (λ_=>?_)
  |refine aw ci ?_)
theorem TB(hc:iL c)(hv:U va)(hs:size=1\/size=4)(access:Int):(I8 c m va size access).w (λr=>Q1 P r.2.2/\U r.1/\(r.2.1=0->r.1<128*P)):=by
 have e:decide (wrap u32 size≠0)=true:=by rcases hs with rfl|rfl<;>decide
 obtain⟨g1,g2⟩:=Tree.pp (Zdy h va hs)
 obtain⟨k1,k2⟩:=Tree.pp (qaa h hc.a6 hv access)
 have bad:∀k:Int,k≠0->Q1 P m/\U (0:Int)/\(k=0->(0:Int)<128*P):=λk hk=>⟨h,gd,λe=>absurd e hk⟩
 have hca:Cn access≠0:=by
  simp only[Cn,LA,Tree.m]
  cases access==1<;>cases access==3<;>simp
 unfold I8
 refine aq λx0 _=>ab (λ_=>bad 5 (by decide)) (λ_=>ab (λh1=>ab (λh2=>?_) (λ_=>?_)) (λ_=>?_))
 ·exact bad 5 (by decide)
 all_goals(
  refine aw e (ab (λ_=>bad 3 (by decide)) (λ_=>aq λx1 _=>ab (λ_=>c8 g1 (aq λx2 I0=>ab (λ_=>aq λx3 hx3=>bad x3 (by rw[hx3];exact hca)) (λhb=>?_))) (λ_=>c8 k1 (aq λx4 hx4=>ab (λhb=>?_) (λhb=>?_)))))
  ·have hb:x2=true:=by simpa using hb
   exact⟨h,hv,λ_=>g2 (I0.symm.trans hb)⟩
  ·exact bad _ (by simpa using hb)
  ·obtain⟨t1,t2,t3⟩:=k2
   rw[show(G5 m c.C3.a6 va access).m=x4 from hx4.symm]at t1 t2 t3
   obtain⟨m1,m2⟩:=Tree.pp (zaI h t2 access)
   refine c8 m1 (aq λx5 hx5=>?_)
   exact⟨hx5▸m2,t1,λ_=>t3 (by simpa using hb)⟩)
end
theorem yz{r:Int}(h:Lj r=true):0<=r/\r<16:=by
 simp only[Lj,Tq,Tree.m]at h
 cases h1:decide (r>=0)<;>rw[h1]at h
 ·cases h
 ·have h1:=oY h1
  have h:=oY h
  omega
theorem vV(hi:wrap .i64 i.bw=i.bw)(h:EY i=true):sG i:=by
 have no:false=true->sG i:=λh=>by cases h
 refine(Tree.post (Of i) (W:=λb=>b=true->sG i) ?_) h
 unfold Of
 refine aq λx0 h0=>ab (λ_=>no) (λ_=>aq λx1 h1=>ab (λ_=>no) (λb1=>aq λx2 h2=>ab (λ_=>no) (λb2=>aq λx3 h3=>ab (λ_=>no) (λb3=>aq λx4 h4=>ab (λ_=>no) (λb4=>ab (λ_=>no) (λb5=>?_))))))
 have b1:x1=true:=by simpa using b1
 have b2:x2=true:=by simpa using b2
 have b3:x3=true:=by simpa using b3
 have b4:=oN b4
 have b5:=oN b5
 rw[hi]at b4 b5
 have ok:sG i:=⟨yz (h1.symm.trans b1),yz (h2.symm.trans b2),yz (h3.symm.trans b3),λe=>by
  rw[e]at h0
  have h0:x0=8:=h0
  subst h0
  have h4:x4=(0,7):=h4
  subst h4
  simp at b4 b5;omega⟩
 repeat'(first
  |exactλ_=>ok
  |exact no
  |refine ab (λ_=>?_) (λ_=>?_))
theorem Zor(w:Int):(Ll w).w (λr=>r.2=true->sG r.1):=by
 have no:∀{p:Prop},false=true->p:=λh=>by cases h
 have e:∀x,wrap .i64 (wrap .i32 x)=wrap .i32 x:=λx=>by rw[wrap_i64,wrap_i32];omega
 have ok:∀i,wrap .i64 i.bw=i.bw->∀x,x=EY i->(!x)=false->true=true->sG i:=λi hi x hx hb _=>vV hi (hx.symm.trans (by simpa using hb))
 unfold Ll
 refine aq λx0 _=>?_
 have l:∀i,wrap .i64 i.bw=i.bw->(Tree.lv (EY i) λx=>.br (!x) (.lf ((⟨0,0,0,0,0⟩:gw),false)) (.lf (i,true))).w (λr=>r.2=true->sG r.1):=λi hi=>aq λx hx=>ab (λ_=>no) (λhb=>ok i hi x hx hb)
 refine ab (λ_=>no) (λ_=>ab (λ_=>l _ rfl) (λ_=>ab (λ_=>l _ (e _)) (λ_=>ab (λ_=>l _ (e _)) (λ_=>l _ (e _)))))
theorem Rw(b:Bool):U (Co b):=by cases b<;>exact⟨by decide,by decide⟩
theorem Zq7{a b:Int}(ha:U a)(hb:U b):(Ly a b).w (λr=>U r.1/\U r.2):=by
 unfold Ly
 refine ab (λ_=>⟨⟨by omega,by omega⟩,ha⟩) (λh=>?_)
 have h:¬b=0:=by simpa using h
 obtain⟨b1,b2⟩:=hb
 have hc:decide (wrap i64 (wrap i32 b)≠0)=true:=dY (by rw[wrap_i64,wrap_i32];omega)
 exact aw hc (aw hc ⟨fk _,fk _⟩)
theorem HS(op:Int){a b:Int}(ha:U a)(hb:U b):(Rx op a b).w (λr=>U r.1):=by
 unfold Rx
 refine aq λx0 _=>?_
 repeat'(first
  |exact fk _
  |exact Qz ha _
  |exact gd
  |refine ab (λ_=>?_) (λ_=>?_)
  |exact cv (Zq7 ha hb) λx hx=>hx.1
  |exact cv (Zq7 ha hb) λx hx=>hx.2
  |exact aq λx hx=>(by rw[hx];exact Rw _))
theorem vz(hx:U x):(Ry x 8).w U:=by
 unfold Ry
 have h0:decide (0<=wrap u64 8)=true:=by decide
 refine ab (λh=>absurd h (by decide)) λ_=>ab (λh=>absurd h (by decide)) λ_=>aw h0 (aw (by decide) (ab (λ_=>aw h0 (nJ _ _)) (λ_=>Ls _ _)))
section
variable {c:bq} (h:iL c) {i:gw} (hi:sG i)
include h hi
theorem qW:(Rz c i).w (λr=>iL r.1/\U r.2.Value):=by
 unfold Rz
 refine ab (λ_=>aq λx hx=>⟨hx▸J0 h _ gd,gd⟩) (λ_=>ab (λ_=>aq λx hx=>⟨hx▸yV h,gd⟩) (λ_=>ab (λe=>aw ?_ (cv (EK h _ (h.a _)) λx hx=>⟨hx.AN (fk _),gd⟩)) (λ_=>ab (λ_=>aw (rc hi.a) (cv (zav h _ (h.r _)) λx hx=>⟨hx.AN (fk _),gd⟩)) (λ_=>?_))))
 ·have:=hi.jq (by simpa using e)
  simp[bN];omega
 ·have k:=h.AN (fk (c.Pc+4))
  repeat'(first
   |exact⟨k,gd⟩
   |exact⟨k,h.r _⟩
   |refine ab (λ_=>?_) (λ_=>?_)
   |refine aw (rc hi.a) ?_)
theorem xaI:(RA c i).w iL:=by
 unfold RA
 exact ab (λ_=>cv (EK h _ (fk _)) λx hx=>hx.AN (fk _)) (λ_=>ab (λ_=>aw (rc hi.b) (cv (EK h _ (fk _)) λx hx=>hx.AN (fk _))) (λ_=>aw (rc hi.a) (aw (rc hi.b) (aq λx _=>ab (λ_=>h.AN (fk _)) (λ_=>h.AN (fk _))))))
theorem Zrd(hm:Q1 P m):(RB c m i).w (λr=>iL r.1/\Q1 P r.2):=by
  unfold RB
  refine aw (rc hi.b) ?_
  have e1:(1:Int)=1\/(1:Int)=4:= .inl rfl
  have e4:(4:Int)=1\/(4:Int)=4:= .inr rfl
  repeat'(first
    |refine ab (λ_=> ?_) (λ_=> ?_)
    | (refine cv (TB hm h (fk _) e4 _) λx hx=> ?_
       obtain⟨m1,m2,m3⟩:=hx
       refine ab (λ_=>aq λy hy=>⟨hy▸J0 h _ (fk _),m1⟩) (λhb=> ?_)
       have m3:=m3 (by simpa using hb)
       have m4:x.1<4*x.2.2.length:=by rw[m1.len];omega
       clear hb)
    | (refine cv (TB hm h (fk _) e1 _) λx hx=> ?_
       obtain⟨m1,m2,m3⟩:=hx
       refine ab (λ_=>aq λy hy=>⟨hy▸J0 h _ (fk _),m1⟩) (λhb=> ?_)
       have m3:=m3 (by simpa using hb)
       have m4:x.1<4*x.2.2.length:=by rw[m1.len];omega
       clear hb)
    |exact aw (rc hi.a) (cv (Rv (by assumption) (by assumption) (by assumption) (h.r _)) λy hy=>⟨h.AN (fk _),hy⟩)
    |(refine cv (OA (by assumption) (by assumption) e4) λy hy=> ?_)
    |(refine cv (OA (by assumption) (by assumption) e1) λy hy=> ?_)
    |exact cv (vz (by assumption)) λz hz=>cv (EK h _ hz) λu hu=>⟨hu.AN (fk _),by assumption⟩
    |exact cv (EK h _ (by assumption)) λu hu=>⟨hu.AN (fk _),by assumption⟩)
end
theorem NC(h:iL c)(hm:Q1 P m):(RC c m).w (λr=>iL r.1/\U r.2.1.Value/\Q1 P r.2.2):=by
 unfold RC
 refine cv (TB hm h h.pc (.inr rfl) 1) λx0 hx=>?_
 obtain⟨m1,m2,m3⟩:=hx
 refine ab (λ_=>aq λy hy=>⟨hy▸J0 h _ h.pc,gd,m1⟩) (λhb=>?_)
 refine cv (OA m1 m2 (.inr rfl)) λx2 h2=>S8 (Zor _) λx3 h3=>ab (λ_=>aq λy hy=>⟨hy▸J0 h _ h2,gd,m1⟩) (λb3=>?_)
 have hi:=h3 (by simpa using b3)
 refine aq λx5 _=>?_
 repeat'(first
  |refine ab (λ_=>?_) (λ_=>?_)
  |exact aq λy hy=>⟨hy▸J0 h _ h2,gd,m1⟩
  |exact cv (qW h hi) λy hy=>⟨hy.1,hy.2,m1⟩
  |exact cv (xaI h hi) λy hy=>⟨hy,gd,m1⟩
  |exact cv (Zrd h hi m1) λy hy=>⟨hy.1,gd,hy.2⟩
  |exact cv (EK h _ (fk _)) λy hy=>⟨hy.AN (fk _),gd,m1⟩
  |refine aw (rc hi.c) ?_
  |refine aw (rc hi.b) ?_
  |exact cv (HS _ (h.r _) (h.r _)) λy hy=>cv (EK h _ hy) λz hz=>⟨hz.AN (fk _),gd,m1⟩
  |exact cv (HS _ (h.r _) (fk _)) λy hy=>cv (EK h _ hy) λz hz=>⟨hz.AN (fk _),gd,m1⟩)
theorem Fb{q:Int}(h:U q):bb .u32 q 1=q%2:=by
 obtain⟨h1,h2⟩:=h
 unfold bb
 rw[wrap_u32]
 have e1:(dR 32 q).toNat=q.toNat:=by rw[BitVec.toNat_ofInt];omega
 have e2:(dR 32 1).toNat=1:=by decide
 have:(dR u32.bits q&&&dR u32.bits 1).toNat=q.toNat%2:=by
  show(dR 32 q&&&dR 32 1).toNat=_
  rw[dU,e1,e2,Nat.and_one_is_mod]
 rw[this];omega
theorem RD(b:Bool)(n:Int):(RE b n).w (λ_=>True):=by
 unfold RE
 exact ab (λ_=>aw (dY (by rw[wrap_u64];omega)) trivial) (λ_=>trivial)
theorem xav(m:bc):(RG m).w (λ_=>True):=by
 unfold RG
 exact aq λ_ _=>cv (RD _ _) λ_ _=>aq λ_ _=>cv (RD _ _) λ_ _=>aq λ_ _=>cv (RD _ _) λ_ _=>aq λ_ _=>cv (RD _ _) λ_ _=>aq λ_ _=>cv (RD _ _) λ_ _=>trivial
theorem Zi0(m:bc):(LS m).w U:=by
 unfold LS
 exact cv (xav m) λ_ _=>Ls _ _
theorem qaJ(m:bc):(LU m).w (λ_=>True):=by
 unfold LU
 exact ab (λ_=>cv (Zi0 m) λ_ _=>trivial) (λ_=>trivial)
theorem Qwl{m:bc}(h:iL m.B4):(LV m).w iL:=by
 unfold LV
 refine cv (Zi0 m) λx0 hx=>ab (λ_=>h) (λ_=>ab (λ_=>h) (λhb=>?_))
 have hb:x0≠0:=by simpa using hb
 have sh:∀z:Int,0<=z->z<=31->bj .u32 x0 (wrap .u64 z)=x0/2^z.toNat:=λz h1 h2=>by
  unfold bj
  have e:min (wrap .u64 z).toNat u32.bits=z.toNat:=by
   show min (wrap .u64 z).toNat 32=z.toNat
   rw[wrap_u64];omega
  rw[e,dJ _ (dK (dI (by decide)))]
 refine fj (inv:=λz=>0<=z/\z<=31/\x0/2^z.toNat≠0) (μ:=Qet m) ⟨by omega,by omega,by simpa using hb⟩ (cN _) (λz hz=>?_)
 obtain⟨z1,z2,z3⟩:=hz
 refine aw (dY (by rw[wrap_u64];omega)) (ab (λe=>ep ?_) (λ_=>aq λy hy=>hy▸J0 h _ gd))
 have e:=eq_of_beq e
 have hq:=Qz hx (wrap .u64 z)
 rw[Fb hq,sh z z1 z2]at e
 rw[sh z z1 z2]at hq
 have bd:x0/2^z.toNat/2≠0:=by omega
 have z4:z<=30:=by
  rcases Int.lt_or_le z 31 with h|h
  ·omega
  ·have:z=31:=by omega
   subst this
   have:=hx.2
   have:=hx.1
   simp at z3 e bd
   omega
 show(0<=i64.wrap (z+1)/\i64.wrap (z+1)<=31/\x0/2^(i64.wrap (z+1)).toNat≠0)/\(32-i64.wrap (z+1)).toNat<(32-z).toNat
 have ew:i64.wrap (z+1)=z+1:=by rw[wrap_i64];omega
 rw[ew]
 refine⟨⟨by omega,by omega,?_⟩,by omega⟩
 have et:(z+1).toNat=z.toNat+1:=by omega
 rw[et,Int.pow_succ,<-Int.ediv_ediv_of_nonneg (dK (dI (by decide)))]
 exact bd
theorem qaw{m:bc}(h:iL m.B4)(hm:Q1 P m.Mem):(RH m).w (λ_=>True):=by
 unfold RH
 refine cv (Qwl h) λx0 hx=>ab (λ_=>trivial) (λ_=>cv (OA hm hx.pc (.inr rfl)) λx1 _=>aq λx2 _=>?_)
 exact ab (λ_=>ab (λ_=>ab (λ_=>trivial) (λ_=>trivial)) (λ_=>trivial)) (λ_=>trivial)
theorem NV(l:List Int):(bytesOf l).length=l.length:=by simp[bytesOf]
theorem Tt(l:List UInt8):(pf l).length=l.length:=by simp[pf]
theorem RI(x:Int):(ME x 4).w (λr=>r.length=4):=by
 unfold ME
 refine fj (inv:=λz=>0<=z.1/\z.1<=4/\(z.2.length:Int)=z.1) (μ:=Vn x 4) ⟨by omega,by omega,rfl⟩ (cN _) (λz hz=>?_)
 obtain⟨z1,z2,z3⟩:=hz
 refine ab (λh=>aw (dY (by rw[wrap_u64];omega)) (aw (dY (by omega)) (ep ?_))) (λh=>?_)
 ·have h:=oY h
  show(0<=i64.wrap (z.1+1)/\i64.wrap (z.1+1)<=4/\((z.2++[_]).length:Int)=i64.wrap (z.1+1))/\(4-i64.wrap (z.1+1)).toNat<(4-z.1).toNat
  have ew:i64.wrap (z.1+1)=z.1+1:=by rw[wrap_i64];omega
  rw[ew]
  refine⟨⟨by omega,by omega,by simp;omega⟩,by omega⟩
 ·have h:=oN h
  show(bytesOf z.2).length=4
  rw[NV];omega
theorem zaa(hm:Q1 P m)(frame:Int):(G4 m frame).w (λr=>0<=frame->frame<P->r.1.length=128):=by
 have hp:=DV hm
 have hl:=hm.len
 have h2:=hm.p2
 unfold G4
 refine ab (λh=>λh0 _=>by have:=oY h;omega) (λh=>aq λx0 hx=>ab (λh1=>λ_ h2=>by have:=oY h1;rw[hx,hp]at this;omega) (λh1=>?_))
 have h:=oN h
 have h1:=oN h1
 rw[hx,hp]at h1
 refine fj (inv:=λz=>0<=z.1/\z.1<=32/\(z.2.length:Int)=4*z.1) (μ:=Xn m frame) ⟨by omega,by omega,rfl⟩ (cN _) (λz hz=>?_)
 obtain⟨z1,z2,z3⟩:=hz
 refine ab (λhb=>?_) (λhb=>?_)
 ·have hb:=oY hb
  have e:wrap i64 (wrap i64 (frame*32)+z.1)=frame*32+z.1:=by rw[wrap_i64,wrap_i64];omega
  refine aw (by rw[e];simp[bN];omega) (c8 (show(4:Int)<=1000000000000 by decide) (S8 (RI _) λx1 h4=>aw (dY (by rw[Tt,h4];omega)) (ep ?_)))
  show(0<=i64.wrap (z.1+1)/\i64.wrap (z.1+1)<=32/\((z.2++pf x1).length:Int)=4*i64.wrap (z.1+1))/\(32-i64.wrap (z.1+1)).toNat<(32-z.1).toNat
  have ew:i64.wrap (z.1+1)=z.1+1:=by rw[wrap_i64];omega
  rw[ew,lA,Tt,h4]
  exact⟨⟨by omega,by omega,by omega⟩,by omega⟩
 ·have hb:=oN hb
  intro _ _
  show(bytesOf z.2).length=128
  rw[NV];omega
theorem qA(hm:Q1 P m)(hd:Ar d)(port:Int)(hv:U v)(gg:Int):(LG d m port v gg).w (λr=>Ar r.1/\r.2.length<=1):=by
 have k:∀st,Ar {ae:=d.ae,C8:=d.C8,Frame:=d.Frame,C7:=st,F7:=d.F7,C5:=d.C5,C6:=d.C6,C9:=d.C9}:=λst=>⟨hd.block,hd.frame,hd.ki,hd.kj⟩
 have k2:∀c o,Ar {ae:=d.ae,C8:=d.C8,Frame:=d.Frame,C7:=1,F7:=c,C5:=d.C8,C6:=d.Frame,C9:=o}:=λc o=>⟨hd.block,hd.frame,hd.block,hd.frame⟩
 have k3:Ar {ae:=d.ae,C8:=v,Frame:=d.Frame,C7:=d.C7,F7:=d.F7,C5:=d.C5,C6:=d.C6,C9:=d.C9}:=⟨hv,hd.frame,hd.ki,hd.kj⟩
 have k4:Ar {ae:=d.ae,C8:=d.C8,Frame:=v,C7:=d.C7,F7:=d.F7,C5:=d.C5,C6:=d.C6,C9:=d.C9}:=⟨hd.block,hv,hd.ki,hd.kj⟩
 unfold LG
 repeat'(first
  |refine ab (λ_=>?_) (λ_=>?_)
  |exact cv (zaa hm _) λ_ _=>aq λ_ _=>⟨k2 _ _,aX _⟩
  |refine aq (λ_ _=>?_)
  |refine bg ?_)
 all_goals(first
  |exact⟨hd,bC _⟩
  |exact⟨k _,bC _⟩
  |exact⟨k2 _ _,aX _⟩
  |exact⟨k3,bC _⟩
  |exact⟨k4,bC _⟩)
theorem xW(hm:Q1 P m)(hn:uu n)(port:Int)(hv:U v)(gg:Int):(LH n m port v gg).w (λr=>uu r.1/\r.2.length<=1):=by
 have k1:uu {Frame:=v,F8:=n.F8,D1:=n.D1,D3:=n.D3,C4:=n.C4,G0:=n.G0}:=⟨hv,hn.len,hn.buffer,hn.GV⟩
 have k2:uu {Frame:=n.Frame,F8:=v,D1:=n.D1,D3:=n.D3,C4:=n.C4,G0:=n.G0}:=⟨hn.frame,hv,hn.buffer,hn.GV⟩
 have k3:uu {Frame:=n.Frame,F8:=n.F8,D1:=n.D1,D3:=n.D3,C4:=false,G0:=0}:=⟨hn.frame,hn.len,hn.buffer,gd⟩
 have k4:∀p r,uu {Frame:=n.Frame,F8:=n.F8,D1:=p,D3:=n.Frame,C4:=r,G0:=n.G0}:=λp r=>⟨hn.frame,hn.len,hn.frame,hn.GV⟩
 have send:∀K:List UInt8×Bool->Tree (gx×List il),tI m n.Frame=true->(∀x:List UInt8×Bool,x.1.length=128->(K x).w (λr=>uu r.1/\r.2.length<=1))->(Tree.an (Qii m (wrap .i64 n.Frame)) (.lv (Lm m (wrap .i64 n.Frame)) K)).w (λr=>uu r.1/\r.2.length<=1):=λK hp hK=>by
  rw[TQ hm hn.frame]at hp
  have hp:=oY hp
  obtain⟨f1,f2⟩:=hn.frame
  have ew:i64.wrap n.Frame=n.Frame:=by rw[wrap_i64];omega
  exact cv (zaa hm _) λx hx=>hK x (hx (by rw[ew];exact f1) (by rw[ew];exact hp))
 unfold LH
 repeat'(first
  |refine ab (λ_=>?_) (λ_=>?_)
  |refine send _ (by simp_all) (λx hx=>aw (by simp_all;exact hn.len.1) ?_)
  |refine aq (λ_ _=>?_)
  |refine bg ?_)
 all_goals(first
  |exact⟨hn,bC _⟩
  |exact⟨hn,aX _⟩
  |exact⟨k1,bC _⟩
  |exact⟨k2,bC _⟩
  |exact⟨k3,bC _⟩
  |exact⟨k4 _ _,bC _⟩)
def okB(b:gm):Prop:=U b.A2/\U b.D0
theorem zaJ(hm:Q1 P m){b:gm}(hb:okB b)(port:Int)(hv:U v):(Bg b m port v).w (λr=>okB r.1/\Q1 P r.2):=by
 have DO:decide (0<=v)=true:=dY hv.1
 have h2:=hm.p2
 have rest:(Tree.br (port==11) (.br (decide (v<32)) (.cn (decide (0<=v)) (.lf (({A2:=b.A2,D0:=oR .u32 b.D0 (ei .u32 1 v)}:gm),m))) (.lf (b,m))) (.lf (b,m))).w (λr=>okB r.1/\Q1 P r.2):=
  ab (λ_=>ab (λ_=>aw DO ⟨⟨hb.1,fk _⟩,hm⟩) (λ_=>⟨hb,hm⟩)) (λ_=>⟨hb,hm⟩)
 unfold Bg
 refine ab (λ_=>aq λx0 hx=>ab (λhp=>aw DO (ab (λ_=>aw DO ?_) (λ_=>rest))) (λ_=>rest)) (λ_=>rest)
 have hp:tI m v=true:=hx.symm.trans hp
 rw[TQ hm hv]at hp
 have hp:=oY hp
 obtain⟨v1,v2⟩:=hv
 refine fj (inv:=λz=>0<=z.1/\z.1<=32/\Q1 P z.2) (μ:=XP b m port v) ⟨by omega,by omega,hm⟩ (cN _) (λz hz=>?_)
 obtain⟨z1,z2,z3⟩:=hz
 have hl:=z3.len
 refine ab (λh=>?_) (λ_=>⟨⟨hb.1,fk _⟩,z3⟩)
 have h:=oY h
 have e:wrap i64 (wrap i64 (wrap i64 v*32)+z.1)=v*32+z.1:=by rw[wrap_i64,wrap_i64,wrap_i64];omega
 refine aw (by rw[e];simp[bN];omega) (ep ?_)
 show(0<=i64.wrap (z.1+1)/\i64.wrap (z.1+1)<=32/\Q1 P (dB _ _ _))/\(32-i64.wrap (z.1+1)).toNat<(32-z.1).toNat
 have ew:i64.wrap (z.1+1)=z.1+1:=by rw[wrap_i64];omega
 rw[ew]
 exact⟨⟨by omega,by omega,⟨by simp[hl],z3.p1,z3.p2,EN z3.u gd _⟩⟩,by omega⟩
structure rO(P:Nat)(m:bc):Prop where
 oy:iL m.B4
 mem:Q1 P m.Mem
 my:Ar m.B7
 wF:uu m.D2
 target:okB m.A7
 tF:0<=m.B6
theorem Zm5(c:iN)(port:Int):U (LF c port).2:=by
 refine Tree.post (G8 c port) (W:=λr=>U r.2) ?_
 have u1:U 4294967295:=⟨by omega,by omega⟩
 unfold G8
 refine ab (λ_=>ab (λ_=>u1) (λh=>ab (λ_=>aw ?_ (aw ?_ (fk _))) (λ_=>ab (λ_=>fk _) (λ_=>gd)))) (λh1=>ab (λh=>(by rw[h1]at h;cases h)) (λ_=>ab (λ_=>fk _) (λ_=>gd)))
 ·have h:¬(c.D9.length:Int)=0:=by simpa using h
  exact dY ⟨by omega,by omega,by omega⟩
 ·have h:¬(c.D9.length:Int)=0:=by simpa using h
  simp[bN];omega
theorem zaw(h:uu n)(port:Int):U (TF n port):=by
 refine Tree.post (OB n port) (W:=U) ?_
 have u1:U 1:=⟨by omega,by omega⟩
 unfold OB
 exact ab (λ_=>h.frame) (λ_=>ab (λ_=>h.GV) (λ_=>ab (λ_=>ab (λ_=>ab (λ_=>fk _) (λ_=>u1)) (λ_=>ab (λ_=>fk _) (λ_=>gd))) (λ_=>gd)))
theorem zW(h:Ar d)(port:Int):U (XZ d port):=by
 refine Tree.post (Vo d port) (W:=U) ?_
 unfold Vo
 exact ab (λ_=>h.block) (λ_=>ab (λ_=>h.frame) (λ_=>ab (λ_=>fk _) (λ_=>gd)))
theorem xA(t:iV):U (Qm t):=by
 refine Tree.post (Vp t) (W:=U) ?_
 unfold Vp
 exact ab (λ_=>⟨by omega,by omega⟩) (λ_=>gd)
theorem Zm4{b:gm}(h:U b.A2)(port:Int):U (LJ b port):=by
 refine Tree.post (LK b port) (W:=U) ?_
 unfold LK
 exact ab (λ_=>h) (λ_=>ab (λ_=>aq λ_ _=>fk _) (λ_=>gd))
theorem w0(x:Int):0<=u64.wrap x:=by rw[wrap_u64];omega
section
end
section

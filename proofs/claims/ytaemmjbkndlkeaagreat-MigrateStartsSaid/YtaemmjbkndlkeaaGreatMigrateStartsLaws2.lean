import Derived.Test.YtaemmjbkndlkeaaGreatMigrateStartsZt
open List renaming set->dB,mem_cons->cQ,not_mem_nil->cR
open Nat renaming blt->bN,beq->bX,lt_succ_self->cN,le_refl->aX,zero_le->bC
open Int renaming pow_pos->dI,le_of_lt->dK,fdiv_eq_ediv_of_nonneg->dJ,tmod->cZ,mul_tmod_right->gT,mul_tdiv_cancel_left->gU,tdiv->eF,tdiv_eq_ediv_of_nonneg->eG,emod_eq_of_lt->dH,lt_of_lt_of_le->gW,le_of_eq->gX
open BitVec renaming ofInt->dR,toNat_and->dU
set_option maxRecDepth 100000
set_option linter.all false
namespace Go.Proofs.YtaemmjbkndlkeaaGreat
open Go Go.GD
open Go.IntKind(wrap i64 u32 u64 u8 i32 wrap_i64 wrap_u32 wrap_u64 wrap_u8 wrap_i32)
variable {P:Nat}{b f root size v va x:Int}{c:bq}{d:gh}{i:ib}{m:List Int}{n:ik}
def U(x:Int):Prop:=0<=x/\x<4294967296
theorem fp(x:Int):U (u32.wrap x):=by rw[wrap_u32];unfold U;omega
theorem LH(x y:Int):U (bh .u32 x y):=fp _
theorem nI(x y:Int):U (iN .u32 x y):=fp _
theorem gk:U 0:=⟨by omega,by omega⟩
theorem ED(h:∀w∈m,U w)(hv:U v)(i:Nat):∀w∈m.set i v,U w:=by
 intro w hw
 rcases List.mem_or_eq_of_mem_set hw with h1|h1
 ·exact h w h1
 ·rw[h1];exact hv
structure ej(P:Nat)(m:List Int):Prop where
 len:m.length=32*P
 p1:0<=P
 p2:P<=32
 u:∀w∈m,U w
structure An(d:gh):Prop where
 block:U d.C8
 frame:U d.Frame
 ku:U d.C5
 kv:U d.C6
structure ur(n:ik):Prop where
 frame:U n.Frame
 len:U n.F6
 buffer:U n.D2
 GJ:U n.F9
theorem Bb{l:List Int}(h:∀w∈l,U w)(i:Nat):U (l.getD i 0):=by
 by_cases hi:i<l.length
 ·have:l.getD i 0=l[i]:=by simp[List.getD,hi]
  rw[this];exact h _ (List.getElem_mem hi)
 ·have:l.getD i 0=0:=by simp[List.getD,List.getElem?_eq_none (by omega:l.length<=i)]
  rw[this];exact gk
structure iP(c:bq):Prop where
 x:∀w∈iI.l c.X,U w
 pc:U c.Pc
 jr:∀w∈A8.l c.C3,U w
theorem Xz{X:iI Int}(h:∀w∈iI.l X,U w)(hv:U v)(i:Nat):∀w∈iI.l (iI.of 0 (dB (iI.l X) i v)),U w:=by
 have hs:=ED h hv i
 intro w hw
 simp only[iI.l,iI.of,cQ,cR,or_false]at hw
 repeat(first|(rcases hw with rfl|hw;· exact Bb hs _)|(subst hw;exact Bb hs _))
theorem Zlx{X:A8 Int}(h:∀w∈A8.l X,U w)(hv:U v)(i:Nat):∀w∈A8.l (A8.of 0 (dB (A8.l X) i v)),U w:=by
 have hs:=ED h hv i
 intro w hw
 simp only[A8.l,A8.of,cQ,cR,or_false]at hw
 repeat(first|(rcases hw with rfl|hw;· exact Bb hs _)|(subst hw;exact Bb hs _))
section
variable {c:bq} (h:iP c)
include h
theorem iP.a(i:Nat):U ((A8.l c.C3).getD i 0):=Bb h.jr i
theorem iP.r(i:Nat):U ((iI.l c.X).getD i 0):=Bb h.x i
theorem iP.a0:U c.C3.a0:=h.a 0
theorem iP.a1:U c.C3.a1:=h.a 1
theorem iP.a2:U c.C3.a2:=h.a 2
theorem iP.a3:U c.C3.a3:=h.a 3
theorem iP.a4:U c.C3.a4:=h.a 4
theorem iP.a5:U c.C3.a5:=h.a 5
theorem iP.a6:U c.C3.a6:=h.a 6
theorem iP.a7:U c.C3.a7:=h.a 7
theorem iP.AM{p:Int}(hp:U p):iP {X:=c.X,Pc:=p,C3:=c.C3}:=⟨h.x,hp,h.jr⟩
end
section
variable {α β:Type} {W:β->Prop} {t:Tree α} {Q:α->Prop} {k:α->Tree β}
theorem cw(hq:t.w Q)(g:∀x,Q x->(k x).w W):(Tree.an t.p (Tree.lv t.m k)).w W:=⟨(Tree.pp hq).1,λy hy=>g y (by rw[hy];exact(Tree.pp hq).2)⟩
theorem Ts(hq:t.w Q)(g:∀x,Q x->(k x).w W):(Tree.lv t.m k).w W:=λy hy=>g y (by rw[hy];exact t.post hq)
end
theorem rc{r:Int}(h:0<=r/\r<16):(bN 0 1&&decide (0<=r/\r<((16:Nat):Int)))=true:=by simp[bN];omega
theorem Aq{a:Int}(h:U a)(b:Int):U (bm .u32 a b):=by
 unfold bm U
 obtain⟨h1,h2⟩:=h
 have hp:(0:Int)<2^(min b.toNat u32.bits):=dI (by decide)
 have:=Int.fdiv_nonneg h1 (dK hp)
 refine⟨this,?_⟩
 rw[dJ _ (dK hp)]
 have h3:=Int.ediv_le_self (2^(min b.toNat u32.bits)) h1
 omega
structure sE(i:ib):Prop where
 a:0<=i.A/\i.A<16
 b:0<=i.B/\i.B<16
 c:0<=i.C/\i.C<16
 jr:i.Op=58->0<=i.bz/\i.bz<8
theorem XM(h:ej P m):jP m=P:=by
 obtain⟨h1,h2,h3,_⟩:=h
 simp only[jP,GF,Tree.m]
 have e:(m.length:Int)=32*P:=by omega
 rw[e]
 have e1:(cZ (32*(P:Int)) 32 !=0)=false:=by simp[gT]
 have e2:decide ((32*(P:Int))>1024)=false:=dN (by omega)
 rw[e1,e2]
 simp only[cond_false]
 rw[gU _ (by decide),wrap_i64];omega
theorem zad(n:Int):(RP n).w (λ_=>True):=by
 unfold RP
 exact ae (λ_=>trivial) (λ_=>av (dY (by rw[wrap_u64];omega)) trivial)
theorem MT(w low n:Int):(RQ w low n).w U:=by
 unfold RQ
 exact ae (λ_=>gk) (λ_=>ae (λ_=>gk) (λ_=>ae (λ_=>gk) (λ_=>av (dY (by rw[wrap_u64];omega)) (cw (zad n) λ_ _=>LH _ _))))
theorem Zuk{w:Int}(hw:U w)(low n v:Int):(RR w low n v).w U:=by
 have h0:decide (0<=wrap u64 low)=true:=dY (by rw[wrap_u64];omega)
 unfold RR
 exact ae (λ_=>hw) (λ_=>ae (λ_=>hw) (λ_=>ae (λ_=>hw) (λ_=>cw (zad n) λ_ _=>av h0 (av h0 (nI _ _)))))
theorem Xs(hx:U x)(n:Int):(RS x n).w U:=by
 have h0:∀y,decide (0<=wrap u64 y)=true:=λy=>dY (by rw[wrap_u64];omega)
 unfold RS
 exact ae (λ_=>gk) (λ_=>ae (λ_=>hx) (λ_=>av (h0 _) (av (h0 _) (fp _))))
section
variable {P:Nat} {m:List Int} (h:ej P m)
include h
theorem GG:nQ m:=by
 have:=h.len
 have:=h.p2
 show m.length<=35184372088832
 omega
theorem Zmd{a:Int}(ha:U a)(hs:size=1\/size=4):(I6 m a size).w (λb=>b=true->a+size<=128*P):=by
 have hp:=XM h
 have h2:=h.p2
 obtain⟨a1,a2⟩:=ha
 have e:decide (wrap u32 size≠0)=true:=by rcases hs with rfl|rfl<;>decide
 have l:∀x,x=jP m->decide (wrap u64 (wrap u64 a+wrap u64 size)<=wrap u64 (wrap u64 x*128))=true->a+size<=128*P:=λx hx hd=>by
  rw[hx,hp]at hd
  have:=oY hd
  simp only[wrap_u64]at this
  omega
 unfold I6
 refine ae (λ_=>ae (λ_=>λh=>by cases h) (λ_=>?_)) (λ_=>?_)<;>
 exact av e (ae (λ_=>λh=>by cases h) (λ_=>aq λx hx=>l x hx))
theorem FO{a:Int}(ha:U a)(hl:a<128*P):(bX 1 1&&bN 0 1&&decide (0<=wrap u32 (eF a 4)/\wrap u32 (eF a 4)<(m.length:Int)))=true:=by
 obtain⟨a1,a2⟩:=ha
 have e:wrap u32 (eF a 4)=a/4:=by rw[wrap_u32,eG a1];omega
 have:=h.len
 rw[e];simp[bN];omega
theorem IY{a:Int}(ha:U a)(hs:size=1\/size=4):(LB m a size).w (λr=>U r.1/\(r.2=true->a<128*P)):=by
 unfold LB
 refine cw (Zmd h ha hs) λx hx=>ae (λ_=>⟨gk,λh=>by cases h⟩) (λhb=>?_)
 have hl:=hx (by simpa using hb)
 have hl:a<128*P:=by omega
 exact av (FO h ha hl) (ae (λ_=>cw (MT _ _ _) λy hy=>⟨hy,λ_=>hl⟩) (λ_=>⟨Bb h.u _,λ_=>hl⟩))
theorem TF{a:Int}(ha:U a)(hs:size=1\/size=4)(hv:U v):(LD m a size v).w (λr=>ej P r.1):=by
 have st:∀i v,U v->ej P (m.set i v):=λi v hv=>⟨by simp[h.len],h.p1,h.p2,ED h.u hv i⟩
 have jn:kD m=m:=rfl
 unfold LD
 refine cg (GG h) (aq λx0 nP=>?_)
 rw[jn]at nP;subst nP
 refine cw (Zmd h ha hs) λx hx=>ae (λ_=>h) (λhb=>?_)
 have hl:=hx (by simpa using hb)
 have hl:a<128*P:=by omega
 exact ae (λ_=>av (FO h ha hl) (cw (Zuk (Bb h.u _) _ _ _) λy hy=>av (FO h ha hl) (st _ _ hy))) (λ_=>av (FO h ha hl) (st _ _ hv))
end
theorem Zp9{r:Int}{used:Bool}(h:Qa r used=true):0<=r/\r<16:=by
 simp only[Qa,TJ,Tree.m]at h
 cases used
 ·have h:(r==0)=true:=h
  have:=eq_of_beq h;omega
 ·cases h1:decide (r>=0)<;>rw[h1]at h
  ·cases h
  ·have h1:=oY h1
   have h:=oY h
   omega
theorem vz(h:I4 i=true):sE i:=by
 have no:false=true->sE i:=λh=>by cases h
 refine(Tree.post (Oq i) (W:=λb=>b=true->sE i) ?_) h
 unfold Oq
 refine aq λx0 h0=>ae (λ_=>aq λx1 h1=>ae (λb1=>aq λx2 h2=>ae (λb2=>aq λx3 h3=>ae (λb3=>ae (λb4=>λb5=>?_) (λ_=>no)) (λ_=>no)) (λ_=>no)) (λ_=>no)) (λ_=>no)
 have b4:=oY b4
 have b5:=oY b5
 refine⟨Zp9 (h1.symm.trans b1),Zp9 (h2.symm.trans b2),Zp9 (h3.symm.trans b3),λe=>?_⟩
 rw[e]at h0
 have h0:x0=({a:=true,b:=false,c:=false,low:=0,F4:=7},true):=h0
 subst h0
 simp at b4 b5;omega
theorem Xu(w:Int):(Lx w).w (λr=>r.2=true->sE r.1):=by
 have no:∀{p:Prop},false=true->p:=λh=>by cases h
 have l:∀i,(Tree.lv (I4 i) λx=>.br (!x) (.lf ((⟨0,0,0,0,0⟩:ib),false)) (.lf (i,true))).w (λr=>r.2=true->sE r.1):=λi=>aq λx hx=>ae (λ_=>no) (λhb=>λ_=>vz (hx.symm.trans (by simpa using hb)))
 unfold Lx
 exact cw (MT _ _ _) λx0 _=>cw (MT _ _ _) λx1 _=>cw (MT _ _ _) λx2 _=>aq λx3 _=>ae (λ_=>no) (λ_=>cw (MT _ _ _) λx4 h4=>ae (λ_=>l _) (λ_=>ae (λ_=>cw (Xs h4 _) λx6 _=>l _) (λ_=>l _)))
section
variable {P:Nat} {m:List Int} (h:ej P m)
include h
theorem zX(hf:U f):Ox m f=decide (f<P):=by
 have:=XM h
 obtain⟨h1,h2⟩:=hf
 have h3:=h.p2
 simp only[Ox,Qk4,Tree.m,eh,this]
 congr 1
 rw[wrap_u64,wrap_u64,dH h1 (by omega),dH (by omega) (by omega)]
theorem xax(hv:U va)(access:Int):(LG m root va access).w (λt=>U t.Addr/\U t.G1):=by
 have bad:U (0:Int)/\U (0:Int):=⟨gk,gk⟩
 have fr:∀x,(RU x).w U:=λx=>by
  unfold RU
  exact cw (MT _ _ _) λy hy=>hy
 unfold LG
 exact aq λx0 _=>ae (λ_=>bad) (λ_=>ae (λ_=>bad) (λ_=>aq λx1 _=>ae (λ_=>bad) (λ_=>cw (IY h (fp _) (.inr rfl)) λx2 _=>ae (λ_=>bad) (λ_=>aq λx3 _=>ae (λ_=>bad) (λ_=>cw (fr _) λx4 _=>aq λx5 _=>ae (λ_=>bad) (λ_=>cw (fr _) λx6 _=>⟨fp _,fp _⟩))))))
theorem yX{a:Int}(ha:U a)(access:Int):(LI m a access).w (ej P):=by
 have jn:kD m=m:=rfl
 unfold LI
 exact cw (IY h ha (.inr rfl)) λx0 _=>ae (λ_=>cg (GG h) (aq λx1 h1=>by rw[h1,jn];exact h)) (λ_=>ae (λ_=>cw (TF h ha (.inr rfl) (nI _ _)) λx hx=>hx) (λ_=>cw (TF h ha (.inr rfl) (nI _ _)) λx hx=>hx))
theorem Ol(hv:U va)(hs:size=1\/size=4)(access:Int):(LO c m va size access).w (λr=>U r.1/\ej P r.2.1):=by
 have jn:kD m=m:=rfl
 have e:decide (wrap u32 size≠0)=true:=by rcases hs with rfl|rfl<;>decide
 have cl:∀(K:List Int->Int×List Int×Int),(∀x,x=m->U (K x).1/\ej P (K x).2.1)->(Tree.an (nQ m) (.lv (kD m) λx=>.lf (K x))).w (λr=>U r.1/\ej P r.2.1):=λK hK=>cg (GG h) (aq λx hx=>hK x (hx.trans jn))
 have z:∀(k:Nat) (x:List Int),x=m->U (0:Int)/\ej P x:=λ_ x hx=>⟨gk,hx▸h⟩
 have v:∀x,x=m->U va/\ej P x:=λx hx=>⟨hv,hx▸h⟩
 have main:∀(x0:Int×Bool),(Tree.cn (decide (wrap u32 size≠0)) (.br (cZ va (wrap u32 size) !=0) (.an (nQ m) (.lv (kD m) λx3=>.lf ((0:Int),x3,(3:Int)))) (.lv (I8 c) λx4=>.br (!x4) (.br (bh u32 c.C3.a0 4 !=0) (.an (Ql5 m c.C3.a6 va access) (.lv (TO m c.C3.a6 va access) λx5=>.br (x5.G0 !=0) (.an (nQ m) (.lv (kD m) λx6=>.lf (0,x6,x5.G0))) (.an (Qi6 m x5.G1 access) (.lv (Oz m x5.G1 access) λx7=>.lf (x5.Addr,x7,0))))) (.an (J6 m va size) (.lv (Ci m va size) λx8=>.br (!x8.2) (.an (nQ m) (.lv (kD m) λx9=>.lf (0,x9,x0.1))) (.an (nQ m) (.lv (kD m) λlI=>.lf (va,lI,0)))))) (.an (J6 m va size) (.lv (Ci m va size) λmu=>.br (!mu.2) (.an (nQ m) (.lv (kD m) λot=>.lf (0,ot,x0.1))) (.an (nQ m) (.lv (kD m) λtN=>.lf (va,tN,0)))))))).w (λr=>U r.1/\ej P r.2.1):=λx0=>
  av e (ae (λ_=>cl _ (z 0)) (λ_=>aq λx4 _=>ae (λ_=>ae (λ_=>cw (xax h hv access) λx5 hx=>ae (λ_=>cl _ (z 0)) (λ_=>cw (yX h hx.2 access) λx7 h7=>⟨hx.1,h7⟩)) (λ_=>cw (IY h hv hs) λx8 _=>ae (λ_=>cl _ (z 0)) (λ_=>cl _ v))) (λ_=>cw (IY h hv hs) λx8 _=>ae (λ_=>cl _ (z 0)) (λ_=>cl _ v))))
 unfold LO
 exact aq λx0 _=>ae (λ_=>cl _ (z 0)) (λ_=>ae (λ_=>ae (λ_=>cl _ (z 0)) (λ_=>main x0)) (λ_=>main x0))
theorem Xt(hc:iP c):(RV c m).w (λr=>U r.1/\ej P r.2.1):=by
 unfold RV
 exact cw (Ol h hc.pc (.inr rfl) 1) λx0 h0=>ae (λ_=>⟨gk,h0.2⟩) (λ_=>cw (IY h0.2 h0.1 (.inr rfl)) λx1 h1=>⟨h1.1,h0.2⟩)
end
theorem qay{s a b:Int}:U (Ap s a b):=by
 refine Tree.post (VD s a b) (W:=U) ?_
 unfold VD
 exact ae (λ_=>fp _) (λ_=>fp _)
section
variable {c:bq} (h:iP c)
include h
theorem I1(k:Int)(hb:U b):iP (rb c k b):=by
 refine(Tree.post (OB c k b) (W:=iP) ?_)
 unfold OB
 refine aq λ_ _=>aq λ_ _=>⟨h.x,h.a1,?_⟩
 intro w hw
 simp only[A8.l,cQ,cR,or_false]at hw
 rcases hw with rfl|rfl|rfl|rfl|rfl|rfl|rfl|rfl
 ·exact fp _
 ·exact h.a1
 ·exact h.pc
 ·exact fp _
 ·exact hb
 ·exact h.a5
 ·exact h.a6
 ·exact h.a7
theorem qA:iP (Lq c):=by
 refine(Tree.post (OD c) (W:=iP) ?_)
 unfold OD
 refine aq λx0 _=>aq λx1 h1=>⟨h.x,h.a2,?_⟩
 intro w hw
 simp only[A8.l,cQ,cR,or_false]at hw
 rcases hw with rfl|rfl|rfl|rfl|rfl|rfl|rfl|rfl
 ·rw[h1];exact qay
 ·exact h.a1
 ·exact h.a2
 ·exact h.a3
 ·exact h.a4
 ·exact h.a5
 ·exact h.a6
 ·exact h.a7
theorem DN{r:Int}(hr:0<=r/\r<16)(hv:U v):(EH c r v).w iP:=by
 unfold EH
 exact ae (λ_=>av (rc hr) ⟨Xz h.x hv _,h.pc,h.jr⟩) (λ_=>h)
theorem Zru(k:Int)(hv:U v):(IW c k v).w iP:=by
 have ok:∀i v,U v->iP {X:=c.X,Pc:=c.Pc,C3:=A8.of 0 (dB (A8.l c.C3) i v)}:=λi v hv=>⟨h.x,h.pc,Zlx h.jr hv i⟩
 unfold IW
 repeat'(first
  |exact h
  |exact ok _ _ (fp _)
  |exact ok _ _ hv
  |refine ae (λhk=>?_) (λ_=>?_)
  |refine av (by rw[eq_of_beq (by assumption:(k==_)=true)];decide) ?_)
end
theorem Zln{a b:Int}(ha:U a)(hb:U b):(LM a b).w (λr=>U r.1/\U r.2):=by
 have u1:U 4294967295:=⟨by omega,by omega⟩
 unfold LM
 refine ae (λ_=>⟨u1,ha⟩) (λh=>?_)
 have h:¬b=0:=by simpa using h
 obtain⟨b1,b2⟩:=hb
 have hc:decide (wrap i32 b≠0)=true:=dY (by rw[wrap_i32];omega)
 exact ae (λ_=>ae (λ_=>⟨ha,gk⟩) (λ_=>av hc (av hc ⟨fp _,fp _⟩))) (λ_=>av hc (av hc ⟨fp _,fp _⟩))
theorem zay(b:Bool):U (VE b):=by cases b<;>exact⟨by decide,by decide⟩
theorem Ls(op:Int){a b:Int}(ha:U a)(hb:U b):(RW op a b).w (λr=>U r.1):=by
 unfold RW
 repeat'(first
  |refine ae (λ_=>?_) (λ_=>?_)
  |exact cw (Zln ha hb) λx hx=>hx.1
  |exact cw (Zln ha hb) λx hx=>hx.2
  |exact aq λx hx=>(by rw[hx];exact zay _)
  |refine ba ?_)
 all_goals(first
  |exact fp _
  |exact Aq ha _
  |exact gk)
theorem TE(op:Int):J7 op=1\/J7 op=4:=by
 simp only[J7,Qwk,Tree.m]
 cases op==32<;>cases op==35<;>simp
section
variable {c:bq} (h:iP c) {i:ib} (hi:sE i)
include h hi
theorem Zt6:(EI c i).w (λr=>iP r.1/\U r.2.Value):=by
 have k:∀{x:bq} {p:Int},iP x->U p->iP {X:=x.X,Pc:=p,C3:=x.C3}:=λhx hp=>⟨hx.x,hp,hx.jr⟩
 unfold EI
 refine av (rc hi.a) (av (rc hi.b) ?_)
 repeat'(first
  |refine ae (λ_=>?_) (λ_=>?_)
  |exact cw (DN h hi.a (fp _)) λx hx=>⟨k hx (fp _),gk⟩
  |exact aq λx _=>ae (λ_=>⟨k h (fp _),gk⟩) (λ_=>⟨k h (fp _),gk⟩)
  |exact aq λx hx=>⟨by rw[hx];exact I1 h _ gk,gk⟩
  |exact aq λx hx=>⟨by rw[hx];exact qA h,gk⟩
  |exact av (by have:=hi.jr (by simp_all);simp[bN];omega) (cw (DN h hi.a (h.a _)) λx hx=>⟨k hx (fp _),gk⟩)
  |exact cw (Zru h _ (h.r _)) λx hx=>⟨k hx (fp _),gk⟩
  |refine av (rc hi.c) ?_
  |exact cw (Ls _ (h.r _) (fp _)) λy hy=>cw (DN h hi.a hy) λx hx=>⟨k hx (fp _),gk⟩
  |exact cw (Ls _ (h.r _) (h.r _)) λy hy=>cw (DN h hi.a hy) λx hx=>⟨k hx (fp _),gk⟩
  |refine ba ?_)
 all_goals(first
  |exact⟨k h (fp _),gk⟩
  |exact⟨k h (fp _),h.r _⟩)
theorem Z6w(hm:ej P m):(IX c m i).w (λr=>iP r.1/\ej P r.2):=by
 have w:=TE i.Op
 unfold IX
 refine av (rc hi.b) (aq λx0 h0=>?_)
 rw[<-h0]at w
 refine cw (Ol hm (fp _) w 2) λx1 h1=>ae (λ_=>aq λy hy=>⟨by rw[hy];exact I1 h _ (fp _),h1.2⟩) (λ_=>aq λx3 h3=>?_)
 rw[h0,<-h3]at w
 exact cw (IY h1.2 h1.1 w) λx4 h4=>ae (λ_=>cw (Xs h4.1 8) λy hy=>cw (DN h hi.a hy) λx hx=>⟨⟨hx.x,fp _,hx.jr⟩,h1.2⟩) (λ_=>cw (DN h hi.a h4.1) λx hx=>⟨⟨hx.x,fp _,hx.jr⟩,h1.2⟩)
theorem Z3q(hm:ej P m):(IZ c m i).w (λr=>iP r.1/\ej P r.2):=by
 have w:=TE i.Op
 unfold IZ
 refine av (rc hi.b) (aq λx0 h0=>?_)
 rw[<-h0]at w
 refine cw (Ol hm (fp _) w 3) λx1 h1=>ae (λ_=>aq λy hy=>⟨by rw[hy];exact I1 h _ (fp _),h1.2⟩) (λ_=>aq λx3 h3=>av (rc hi.a) ?_)
 rw[h0,<-h3]at w
 exact cw (TF h1.2 h1.1 w (h.r _)) λx hx=>⟨⟨h.x,fp _,h.jr⟩,hx⟩
end
theorem xay(h:iP c)(hm:ej P m):(EJ c m).w (λr=>iP r.1/\ej P r.2.1/\U r.2.2.Value):=by
 unfold EJ
 refine cw (Xt hm h) λx0 h0=>ae (λ_=>aq λy hy=>⟨by rw[hy];exact I1 h _ h.pc,h0.2,gk⟩) (λ_=>cw (Xu _) λx2 h2=>ae (λ_=>aq λy hy=>⟨by rw[hy];exact I1 h _ h0.1,h0.2,gk⟩) (λhb=>?_))
 have hi:=h2 (by simpa using hb)
 refine aq λx4 _=>?_
 repeat'(first
  |refine ae (λ_=>?_) (λ_=>?_)
  |exact cw (Z6w h hi h0.2) λx hx=>⟨hx.1,hx.2,gk⟩
  |exact cw (Z3q h hi h0.2) λx hx=>⟨hx.1,hx.2,gk⟩
  |exact cw (Zt6 h hi) λx hx=>⟨hx.1,h0.2,hx.2⟩
  |exact aq λy hy=>⟨by rw[hy];exact I1 h _ h0.1,h0.2,gk⟩
  |refine aq λ_ _=>?_)
theorem VF{a:Int}(h:U a)(k:Nat)(hk:k<=32):0<=bm .u32 a k/\bm .u32 a k*2^k<=a:=by
 obtain⟨h1,h2⟩:=h
 unfold bm
 have e:min (k:Int).toNat u32.bits=k:=by show min (k:Int).toNat 32=k;omega
 have hp:(0:Int)<2^k:=dI (by decide)
 rw[e,dJ _ (dK hp)]
 exact⟨Int.ediv_nonneg h1 (dK hp),Int.ediv_mul_le a (Int.ne_of_gt hp)⟩
theorem Zqh(x:Int):0<=u8.wrap x/\u8.wrap x<256:=by rw[wrap_u8];omega
theorem qaz(h:U x):(DL x).w (λ_=>True):=by
 have AZ:=VF h 16 (by omega)
 have s8:=VF h 8 (by omega)
 have uu:=VF (Aq h 16) 8 (by omega)
 obtain⟨h1,h2⟩:=h
 unfold DL
 repeat'(first
  |refine ae (λ_=>?_) (λ_=>?_)
  |refine av (dY ⟨?_,gW (b:=256) ?_ (gX (by kernel_rfl))⟩) ?_
  |exact trivial
  |refine ba ?_)
 all_goals(first
  |trivial
  |exact(Zqh _).1
  |exact(Zqh _).2
  |(simp only[decide_eq_true_eq,decide_eq_false_iff_not]at*;simp at AZ s8 uu;omega))
theorem Cc(a:Int):bh .u32 a 255<256:=by
 unfold bh
 rw[wrap_u32]
 have:(dR u32.bits a&&&dR u32.bits 255).toNat<=255:=by
  show(dR 32 a&&&dR 32 255).toNat<=255
  rw[dU]
  exact Nat.le_trans Nat.and_le_right (by decide)
 omega
theorem qaM(h:U x):(RX x).w (λ_=>True):=by
 have uu:=VF h 24 (by omega)
 obtain⟨h1,h2⟩:=h
 have i24:bm .u32 x 24<256:=by simp at uu;omega
 unfold RX
 repeat'(first
  |refine av (dY ⟨?_,gW (b:=256) ?_ (gX (by kernel_rfl))⟩) ?_
  |exact trivial
  |refine ba ?_)
 all_goals(first
  |trivial
  |exact(fp _).1
  |exact uu.1
  |exact i24
  |exact Cc _)
structure Ao(P:Nat)(m:bg):Prop where
 oi:iP m.B4
 mem:ej P m.Mem
 mo:An m.B7
 wA:ur m.D4
 target:U m.A6.A2
 given:U m.A6.D0
theorem Zs0{b:gx}(h:U b.D0):(RY b).w (λ_=>True):=by
 unfold RY
 exact cw (qaM h) λ_ _=>trivial
theorem xA{m:bg}(h:U m.A6.D0):(J8 m).w (λ_=>True):=by
 have b:∀x,(IQ m.A6 x).w (λ_=>True):=λx=>by
  unfold IQ
  exact cw (qaz h) λ_ _=>trivial
 have d:(GH m).w (λ_=>True):=by
  unfold GH
  exact aq λ_ _=>aq λ_ _=>ae (λ_=>aq λ_ _=>ae (λ_=>aq λ_ _=>ae (λ_=>aq λ_ _=>ae (λ_=>cw (b _) λ_ _=>trivial) (λ_=>trivial)) (λ_=>trivial)) (λ_=>trivial)) (λ_=>trivial)
 unfold J8
 repeat'(first
  |refine ae (λ_=>?_) (λ_=>?_)
  |exact cw d λ_ _=>trivial
  |refine aq λ_ _=>?_
  |exact trivial)
theorem vX{m:bg}(h:U m.A6.D0):(L1 m).w (λ_=>True):=by
 have p:(LX m.A6).w (λ_=>True):=by
  unfold LX
  exact cw (Zs0 h) λ_ _=>trivial
 unfold L1
 refine aq λx0 _=>aq λx1 _=>aq λx2 _=>aq λx3 _=>cw p λx4 _=>eu (inv:=λz=>0<=z.2/\z.2<=5) (μ:=Qkd m) ⟨by omega,by omega⟩ (cN _) (λz hz=>?_)
 obtain⟨z1,z2⟩:=hz
 have ew:z.2<5->i64.wrap (z.2+1)=z.2+1:=λ_=>by rw[wrap_i64];omega
 refine ae (λhb=>?_) (λ_=>trivial)
 have hb:=oY hb
 have nx:(0<=i64.wrap (z.2+1)/\i64.wrap (z.2+1)<=5)/\(5-i64.wrap (z.2+1)).toNat<(5-z.2).toNat:=by rw[ew hb];omega
 refine av (by simp;omega) (ae (λ_=>av (dY z1) (ee nx)) (λ_=>ee nx))
theorem Zez{m:bg}(h:U m.A6.D0):(L3 m).w U:=by
 unfold L3
 exact cw (vX h) λ_ _=>LH _ _
theorem zaz{m:bg}(h:U m.A6.D0):(I0 m).w (λ_=>True):=by
 have i:(L5 m).w (λ_=>True):=by
  unfold L5
  exact ae (λ_=>cw (Zez h) λ_ _=>trivial) (λ_=>trivial)
 unfold I0
 exact cw (xA h) λ_ _=>ae (λ_=>ae (λ_=>cw i λ_ _=>ae (λ_=>trivial) (λ_=>trivial)) (λ_=>trivial)) (λ_=>trivial)
theorem DP(h:ej P m):rL m=P:=by
 obtain⟨h1,h2,h3,_⟩:=h
 simp only[rL,Qsg,Tree.m]
 have e:(m.length:Int)=32*P:=by omega
 rw[e]
 have e1:(cZ (32*(P:Int)) 32 !=0)=false:=by simp[gT]
 have e2:decide ((32*(P:Int))>1024)=false:=dN (by omega)
 rw[e1,e2]
 simp only[cond_false]
 rw[gU _ (by decide),wrap_i64];omega
theorem Ue(h:ej P m)(hf:U f):tJ m f=decide (f<P):=by
 have:=DP h
 obtain⟨h1,h2⟩:=hf
 have h3:=h.p2
 simp only[tJ,OO,Tree.m,eh,this]
 congr 1
 rw[wrap_u64,wrap_u64,dH h1 (by omega),dH (by omega) (by omega)]
theorem zaM(h:ej P m):(L8 m).w (λr=>r=m):=by
 obtain⟨h1,h2,h3,_⟩:=h
 unfold L8
 refine av ?_ ?_
 ·simp[bN,D.plain];omega
 ·show _=_
  simp
theorem RZ(h:ej P m){addr size v:Int}(ha:U addr)(hl:addr<4*m.length)(hv:U v):(LF m addr size v).w (ej P):=by
 obtain⟨h1,h2,h3,h4⟩:=h
 obtain⟨a1,a2⟩:=ha
 have e:wrap u32 (eF addr 4)=addr/4:=by rw[wrap_u32,eG a1];omega
 have hc:(bX 1 1&&bN 0 1&&decide (0<=wrap u32 (eF addr 4)/\wrap u32 (eF addr 4)<(m.length:Int)))=true:=by
  rw[e];simp[bN];omega
 have h0:∀x,decide (0<=wrap u32 x)=true:=λx=>dY (fp x).1
 have hs:∀i v,U v->ej P (m.set i v):=λi v hv=>⟨by simp[h1],h2,h3,ED h4 hv i⟩
 unfold LF
 exact ae (λ_=>av hc (hs _ _ hv)) (λ_=>av hc (av (h0 _) (av (h0 _) (av hc (hs _ _ (nI _ _))))))
section
variable {c:bq} (h:iP c)
include h
theorem J9(k:Int)(hb:U b):iP (pN c k b):=by
 refine(Tree.post (OC c k b) (W:=iP) ?_)
 unfold OC
 refine aq λ_ _=>aq λ_ _=>⟨h.x,h.a1,?_⟩
 intro w hw
 simp only[A8.l,cQ,cR,or_false]at hw
 rcases hw with rfl|rfl|rfl|rfl|rfl|rfl|rfl|rfl
 ·exact nI _ _
 ·exact h.a1
 ·exact h.pc
 ·exact fp _
 ·exact hb
 ·exact h.a5
 ·exact h.a6
 ·exact h.a7
theorem qY:iP (TR c):=by
 refine(Tree.post (OE c) (W:=iP) ?_)
 unfold OE
 refine aq λ_ _=>aq λ_ _=>⟨h.x,h.a2,?_⟩
 intro w hw
 simp only[A8.l,cQ,cR,or_false]at hw
 rcases hw with rfl|rfl|rfl|rfl|rfl|rfl|rfl|rfl
 ·exact nI _ _
 ·exact h.a1
 ·exact h.a2
 ·exact h.a3
 ·exact h.a4
 ·exact h.a5
 ·exact h.a6
 ·exact h.a7
theorem EA(r:Int)(hv:U v):(I9 c r v).w iP:=by
 unfold I9
 refine ae (λh1=>ae (λh2=>av ?_ ⟨Xz h.x hv _,h.pc,h.jr⟩) (λ_=>h)) (λ_=>h)
 have h1:=oY h1
 have h2:=oY h2
 simp[bN];omega
theorem xaz(k:Int)(hv:U v):(LQ c k v).w iP:=by
 have ok:∀i v,U v->iP {X:=c.X,Pc:=c.Pc,C3:=A8.of 0 (dB (A8.l c.C3) i v)}:=λi v hv=>⟨h.x,h.pc,Zlx h.jr hv i⟩
 unfold LQ
 repeat'(first
  |exact h
  |exact ok _ _ (fp _)
  |exact ok _ _ hv
  |refine ae (λhk=>?_) (λ_=>?_)
  |refine av (by rw[eq_of_beq (by assumption:(k==_)=true)];decide) ?_)
end
section
variable {P:Nat} {m:List Int} (h:ej P m)
include h
theorem Zib(a:Int)(hs:size=1\/size=4):(I5 m a size).w (λb=>b=true->a<128*P):=by
 have hp:=DP h
 have h2:=h.p2
 have e:decide (wrap u32 size≠0)=true:=by rcases hs with rfl|rfl<;>decide
 have l:∀x,x=rL m->decide (a<wrap u32 (wrap i64 (128*x)))=true->a<128*P:=λx hx hd=>by
  rw[hx,hp,wrap_u32,wrap_i64]at hd
  have:=oY hd
  omega
 unfold I5
 refine ae (λ_=>ae (λ_=>λh=>by cases h) (λ_=>?_)) (λ_=>?_)<;>
 exact av e (ae (λ_=>aq λx hx=>l x hx) (λ_=>λh=>by cases h))
theorem idx{a:Int}(ha:U a)(hl:a<128*P):(bX 1 1&&bN 0 1&&decide (0<=wrap u32 (eF a 4)/\wrap u32 (eF a 4)<(m.length:Int)))=true:=by
 obtain⟨a1,a2⟩:=ha
 have e:wrap u32 (eF a 4)=a/4:=by rw[wrap_u32,eG a1];omega
 have:=h.len
 rw[e];simp[bN];omega
theorem OM{a:Int}(ha:U a)(hs:size=1\/size=4):(DR m a size).w (λr=>U r.1):=by
 obtain⟨g1,g2⟩:=Tree.pp (Zib h a hs)
 unfold DR
 refine cg g1 (aq λx hx=>ae (λ_=>gk) (λhb=>?_))
 have hb:x=true:=by simpa using hb
 have hl:=g2 (hx.symm.trans hb)
 refine av (idx h ha hl) (ae (λ_=>av (dY (fp _).1) (fp _)) (λ_=>Bb h.u _))
theorem xaM{a:Int}(ha:U a)(access:Int):(Qg m a access).w (ej P):=by
 obtain⟨g1,g2⟩:=Tree.pp (Zib h a (size:=4) (.inr rfl))
 have hs:∀{m:List Int} i v,ej P m->U v->ej P (m.set i v):=λi v h hv=>⟨by simp[h.len],h.p1,h.p2,ED h.u hv i⟩
 unfold Qg
 refine cg g1 (aq λx hx=>ae (λ_=>h) (λhb=>?_))
 have hb:x=true:=by simpa using hb
 have hl:=g2 (hx.symm.trans hb)
 have i0:=idx h ha hl
 have h':=hs (Int.toNat (wrap u32 (eF a 4))) (iN u32 (m.getD (Int.toNat (wrap u32 (eF a 4))) 0) 8) h (nI _ _)
 have i1:=idx h' ha hl
 exact av i0 (av i0 (ae (λ_=>av i1 (av i1 (hs _ _ h' (nI _ _)))) (λ_=>h')))
theorem xad(hr:U root)(hv:U va)(access:Int):(GQ m root va access).w (λt=>U t.Addr/\U t.G1/\(t.G0=0->t.Addr<128*P)):=by
 have hp:=DP h
 have h2:=h.p2
 have hlen:=h.len
 obtain⟨r1,r2⟩:=hr
 obtain⟨v1,v2⟩:=hv
 unfold GQ
 refine aq λx0 nP=>aq λx1 o7=>aq λx2 _=>?_
 have hc:x0≠0:=by
  rw[nP]
  simp only[Cj,LP,Tree.m]
  cases access==1<;>cases access==3<;>simp
 rw[hp]at o7
 have bad:U (0:Int)/\U (0:Int)/\(x0=0->(0:Int)<128*P):=⟨gk,gk,λe=>absurd e hc⟩
 refine ae (λ_=>bad) (λ_=>ae (λ_=>bad) (λDT=>ae (λ_=>bad) (λDG=>?_)))
 have DT:=oN DT
 have DG:=oN DG
 have e1:wrap u32 x1=P:=by rw[o7,wrap_u32];omega
 rw[e1]at DG
 have e2:wrap u32 (wrap u32 (root*128)+wrap u32 (4*wrap u32 (eF va 128)))=root*128+4*(va/128):=by
  rw[eG v1,wrap_u32,wrap_u32,wrap_u32,wrap_u32];omega
 have hU:U (wrap u32 (wrap u32 (root*128)+wrap u32 (4*wrap u32 (eF va 128)))):=fp _
 have ci:=idx h hU (by rw[e2];omega)
 have ic:∀w:Int,decide (bh u32 w 255>=wrap u32 x1)=false->(U (wrap u32 (wrap u32 (bh u32 w 255*128)+cZ va 128))/\U (wrap u32 (wrap u32 (root*128)+wrap u32 (4*wrap u32 (eF va 128))))/\((0:Int)=0->wrap u32 (wrap u32 (bh u32 w 255*128)+cZ va 128)<128*P)):=λw hw=>by
  have hw:=oN hw
  rw[e1]at hw
  have hn:=(LH w 255).1
  refine⟨fp _,fp _,λ_=>?_⟩
  rw[Int.tmod_eq_emod_of_nonneg v1,wrap_u32,wrap_u32]
  generalize bh u32 w 255=q at*
  omega
 refine av ci ?_
 repeat'(first
  |exact bad
  |exact ic _ (by assumption)
  |refine ae (λ_=>?_) (λ_=>?_)
  |refine av ci ?_)
theorem TV(hc:iP c)(hv:U va)(hs:size=1\/size=4)(access:Int):(Ja c m va size access).w (λr=>ej P r.2.2/\U r.1/\(r.2.1=0->r.1<128*P)):=by
 have e:decide (wrap u32 size≠0)=true:=by rcases hs with rfl|rfl<;>decide
 obtain⟨g1,g2⟩:=Tree.pp (Zib h va hs)
 obtain⟨k1,k2⟩:=Tree.pp (xad h hc.a6 hv access)
 have bad:∀k:Int,k≠0->ej P m/\U (0:Int)/\(k=0->(0:Int)<128*P):=λk hk=>⟨h,gk,λe=>absurd e hk⟩
 have hca:Cj access≠0:=by
  simp only[Cj,LP,Tree.m]
  cases access==1<;>cases access==3<;>simp
 unfold Ja
 refine aq λx0 _=>ae (λ_=>bad 5 (by decide)) (λ_=>ae (λh1=>ae (λh2=>?_) (λ_=>?_)) (λ_=>?_))
 ·exact bad 5 (by decide)
 all_goals(
  refine av e (ae (λ_=>bad 3 (by decide)) (λ_=>aq λx1 _=>ae (λ_=>cg g1 (aq λx2 I2=>ae (λ_=>aq λx3 hx3=>bad x3 (by rw[hx3];exact hca)) (λhb=>?_))) (λ_=>cg k1 (aq λx4 hx4=>ae (λhb=>?_) (λhb=>?_)))))
  ·have hb:x2=true:=by simpa using hb
   exact⟨h,hv,λ_=>g2 (I2.symm.trans hb)⟩
  ·exact bad _ (by simpa using hb)
  ·obtain⟨t1,t2,t3⟩:=k2
   rw[show(GQ m c.C3.a6 va access).m=x4 from hx4.symm]at t1 t2 t3
   obtain⟨m1,m2⟩:=Tree.pp (xaM h t2 access)
   refine cg m1 (aq λx5 hx5=>?_)
   exact⟨hx5▸m2,t1,λ_=>t3 (by simpa using hb)⟩)
end
theorem zA{r:Int}(h:Lw r=true):0<=r/\r<16:=by
 simp only[Lw,TL,Tree.m]at h
 cases h1:decide (r>=0)<;>rw[h1]at h
 ·cases h
 ·have h1:=oY h1
  have h:=oY h
  omega
theorem xY(hi:wrap .i64 i.bz=i.bz)(h:EM i=true):sE i:=by
 have no:false=true->sE i:=λh=>by cases h
 refine(Tree.post (Ot i) (W:=λb=>b=true->sE i) ?_) h
 unfold Ot
 refine aq λx0 h0=>ae (λ_=>no) (λ_=>aq λx1 h1=>ae (λ_=>no) (λb1=>aq λx2 h2=>ae (λ_=>no) (λb2=>aq λx3 h3=>ae (λ_=>no) (λb3=>aq λx4 h4=>ae (λ_=>no) (λb4=>ae (λ_=>no) (λb5=>?_))))))
 have b1:x1=true:=by simpa using b1
 have b2:x2=true:=by simpa using b2
 have b3:x3=true:=by simpa using b3
 have b4:=oN b4
 have b5:=oN b5
 rw[hi]at b4 b5
 have ok:sE i:=⟨zA (h1.symm.trans b1),zA (h2.symm.trans b2),zA (h3.symm.trans b3),λe=>by
  rw[e]at h0
  have h0:x0=8:=h0
  subst h0
  have h4:x4=(0,7):=h4
  subst h4
  simp at b4 b5;omega⟩
 repeat'(first
  |exactλ_=>ok
  |exact no
  |refine ae (λ_=>?_) (λ_=>?_))
theorem Zrw(w:Int):(Ly w).w (λr=>r.2=true->sE r.1):=by
 have no:∀{p:Prop},false=true->p:=λh=>by cases h
 have e:∀x,wrap .i64 (wrap .i32 x)=wrap .i32 x:=λx=>by rw[wrap_i64,wrap_i32];omega
 have ok:∀i,wrap .i64 i.bz=i.bz->∀x,x=EM i->(!x)=false->true=true->sE i:=λi hi x hx hb _=>xY hi (hx.symm.trans (by simpa using hb))
 unfold Ly
 refine aq λx0 _=>?_
 have l:∀i,wrap .i64 i.bz=i.bz->(Tree.lv (EM i) λx=>.br (!x) (.lf ((⟨0,0,0,0,0⟩:ib),false)) (.lf (i,true))).w (λr=>r.2=true->sE r.1):=λi hi=>aq λx hx=>ae (λ_=>no) (λhb=>ok i hi x hx hb)
 refine ae (λ_=>no) (λ_=>ae (λ_=>l _ rfl) (λ_=>ae (λ_=>l _ (e _)) (λ_=>ae (λ_=>l _ (e _)) (λ_=>l _ (e _)))))
theorem R3(b:Bool):U (Cl b):=by cases b<;>exact⟨by decide,by decide⟩
theorem Zr2{a b:Int}(ha:U a)(hb:U b):(LN a b).w (λr=>U r.1/\U r.2):=by
 unfold LN
 refine ae (λ_=>⟨⟨by omega,by omega⟩,ha⟩) (λh=>?_)
 have h:¬b=0:=by simpa using h
 obtain⟨b1,b2⟩:=hb
 have hc:decide (wrap i64 (wrap i32 b)≠0)=true:=dY (by rw[wrap_i64,wrap_i32];omega)
 exact av hc (av hc ⟨fp _,fp _⟩)
theorem HK(op:Int){a b:Int}(ha:U a)(hb:U b):(R4 op a b).w (λr=>U r.1):=by
 unfold R4
 refine aq λx0 _=>?_
 repeat'(first
  |exact fp _
  |exact Aq ha _
  |exact gk
  |refine ae (λ_=>?_) (λ_=>?_)
  |exact cw (Zr2 ha hb) λx hx=>hx.1
  |exact cw (Zr2 ha hb) λx hx=>hx.2
  |exact aq λx hx=>(by rw[hx];exact R3 _))
theorem yA(hx:U x):(R5 x 8).w U:=by
 unfold R5
 have h0:decide (0<=wrap u64 8)=true:=by decide
 refine ae (λh=>absurd h (by decide)) λ_=>ae (λh=>absurd h (by decide)) λ_=>av h0 (av (by decide) (ae (λ_=>av h0 (nI _ _)) (λ_=>LH _ _)))
section
variable {c:bq} (h:iP c) {i:ib} (hi:sE i)
include h hi
theorem zY:(R6 c i).w (λr=>iP r.1/\U r.2.Value):=by
 unfold R6
 refine ae (λ_=>aq λx hx=>⟨hx▸J9 h _ gk,gk⟩) (λ_=>ae (λ_=>aq λx hx=>⟨hx▸qY h,gk⟩) (λ_=>ae (λe=>av ?_ (cw (EA h _ (h.a _)) λx hx=>⟨hx.AM (fp _),gk⟩)) (λ_=>ae (λ_=>av (rc hi.a) (cw (xaz h _ (h.r _)) λx hx=>⟨hx.AM (fp _),gk⟩)) (λ_=>?_))))
 ·have:=hi.jr (by simpa using e)
  simp[bN];omega
 ·have k:=h.AM (fp (c.Pc+4))
  repeat'(first
   |exact⟨k,gk⟩
   |exact⟨k,h.r _⟩
   |refine ae (λ_=>?_) (λ_=>?_)
   |refine av (rc hi.a) ?_)
theorem qaN:(R7 c i).w iP:=by
 unfold R7
 exact ae (λ_=>cw (EA h _ (fp _)) λx hx=>hx.AM (fp _)) (λ_=>ae (λ_=>av (rc hi.b) (cw (EA h _ (fp _)) λx hx=>hx.AM (fp _))) (λ_=>av (rc hi.a) (av (rc hi.b) (aq λx _=>ae (λ_=>h.AM (fp _)) (λ_=>h.AM (fp _))))))
theorem Zt8(hm:ej P m):(R8 c m i).w (λr=>iP r.1/\ej P r.2):=by
  unfold R8
  refine av (rc hi.b) ?_
  have e1:(1:Int)=1\/(1:Int)=4:= .inl rfl
  have e4:(4:Int)=1\/(4:Int)=4:= .inr rfl
  repeat'(first
    |refine ae (λ_=> ?_) (λ_=> ?_)
    | (refine cw (TV hm h (fp _) e4 _) λx hx=> ?_
       obtain⟨m1,m2,m3⟩:=hx
       refine ae (λ_=>aq λy hy=>⟨hy▸J9 h _ (fp _),m1⟩) (λhb=> ?_)
       have m3:=m3 (by simpa using hb)
       have m4:x.1<4*x.2.2.length:=by rw[m1.len];omega
       clear hb)
    | (refine cw (TV hm h (fp _) e1 _) λx hx=> ?_
       obtain⟨m1,m2,m3⟩:=hx
       refine ae (λ_=>aq λy hy=>⟨hy▸J9 h _ (fp _),m1⟩) (λhb=> ?_)
       have m3:=m3 (by simpa using hb)
       have m4:x.1<4*x.2.2.length:=by rw[m1.len];omega
       clear hb)
    |exact av (rc hi.a) (cw (RZ (by assumption) (by assumption) (by assumption) (h.r _)) λy hy=>⟨h.AM (fp _),hy⟩)
    |(refine cw (OM (by assumption) (by assumption) e4) λy hy=> ?_)
    |(refine cw (OM (by assumption) (by assumption) e1) λy hy=> ?_)
    |exact cw (yA (by assumption)) λz hz=>cw (EA h _ hz) λu hu=>⟨hu.AM (fp _),by assumption⟩
    |exact cw (EA h _ (by assumption)) λu hu=>⟨hu.AM (fp _),by assumption⟩)
end
theorem NP(h:iP c)(hm:ej P m):(Qt c m).w (λr=>iP r.1/\U r.2.1.Value/\ej P r.2.2):=by
 unfold Qt
 refine cw (TV hm h h.pc (.inr rfl) 1) λx0 hx=>?_
 obtain⟨m1,m2,m3⟩:=hx
 refine ae (λ_=>aq λy hy=>⟨hy▸J9 h _ h.pc,gk,m1⟩) (λhb=>?_)
 refine cw (OM m1 m2 (.inr rfl)) λx2 h2=>Ts (Zrw _) λx3 h3=>ae (λ_=>aq λy hy=>⟨hy▸J9 h _ h2,gk,m1⟩) (λb3=>?_)
 have hi:=h3 (by simpa using b3)
 refine aq λx5 _=>?_
 repeat'(first
  |refine ae (λ_=>?_) (λ_=>?_)
  |exact aq λy hy=>⟨hy▸J9 h _ h2,gk,m1⟩
  |exact cw (zY h hi) λy hy=>⟨hy.1,hy.2,m1⟩
  |exact cw (qaN h hi) λy hy=>⟨hy,gk,m1⟩
  |exact cw (Zt8 h hi m1) λy hy=>⟨hy.1,gk,hy.2⟩
  |exact cw (EA h _ (fp _)) λy hy=>⟨hy.AM (fp _),gk,m1⟩
  |refine av (rc hi.c) ?_
  |refine av (rc hi.b) ?_
  |exact cw (HK _ (h.r _) (h.r _)) λy hy=>cw (EA h _ hy) λz hz=>⟨hz.AM (fp _),gk,m1⟩
  |exact cw (HK _ (h.r _) (fp _)) λy hy=>cw (EA h _ hy) λz hz=>⟨hz.AM (fp _),gk,m1⟩)
theorem EP{q:Int}(h:U q):bh .u32 q 1=q%2:=by
 obtain⟨h1,h2⟩:=h
 unfold bh
 rw[wrap_u32]
 have e1:(dR 32 q).toNat=q.toNat:=by rw[BitVec.toNat_ofInt];omega
 have e2:(dR 32 1).toNat=1:=by decide
 have:(dR u32.bits q&&&dR u32.bits 1).toNat=q.toNat%2:=by
  show(dR 32 q&&&dR 32 1).toNat=_
  rw[dU,e1,e2,Nat.and_one_is_mod]
 rw[this];omega
theorem R9(b:Bool)(n:Int):(Sa b n).w (λ_=>True):=by
 unfold Sa
 exact ae (λ_=>av (dY (by rw[wrap_u64];omega)) trivial) (λ_=>trivial)
theorem qaA(m:bg):(Sb m).w (λ_=>True):=by
 unfold Sb
 exact aq λ_ _=>cw (R9 _ _) λ_ _=>aq λ_ _=>cw (R9 _ _) λ_ _=>aq λ_ _=>cw (R9 _ _) λ_ _=>aq λ_ _=>cw (R9 _ _) λ_ _=>aq λ_ _=>cw (R9 _ _) λ_ _=>trivial
theorem Zmj(m:bg):(L4 m).w U:=by
 unfold L4
 exact cw (qaA m) λ_ _=>LH _ _
theorem zaN(m:bg):(L6 m).w (λ_=>True):=by
 unfold L6
 exact ae (λ_=>cw (Zmj m) λ_ _=>trivial) (λ_=>trivial)
theorem Qxr{m:bg}(h:iP m.B4):(L7 m).w iP:=by
 unfold L7
 refine cw (Zmj m) λx0 hx=>ae (λ_=>h) (λ_=>ae (λ_=>h) (λhb=>?_))
 have hb:x0≠0:=by simpa using hb
 have sh:∀z:Int,0<=z->z<=31->bm .u32 x0 (wrap .u64 z)=x0/2^z.toNat:=λz h1 h2=>by
  unfold bm
  have e:min (wrap .u64 z).toNat u32.bits=z.toNat:=by
   show min (wrap .u64 z).toNat 32=z.toNat
   rw[wrap_u64];omega
  rw[e,dJ _ (dK (dI (by decide)))]
 refine eu (inv:=λz=>0<=z/\z<=31/\x0/2^z.toNat≠0) (μ:=Qff m) ⟨by omega,by omega,by simpa using hb⟩ (cN _) (λz hz=>?_)
 obtain⟨z1,z2,z3⟩:=hz
 refine av (dY (by rw[wrap_u64];omega)) (ae (λe=>ee ?_) (λ_=>aq λy hy=>hy▸J9 h _ gk))
 have e:=eq_of_beq e
 have hq:=Aq hx (wrap .u64 z)
 rw[EP hq,sh z z1 z2]at e
 rw[sh z z1 z2]at hq
 have bd:x0/2^z.toNat/2≠0:=by omega
 have z4:z<=30:=by
  rcases Int.lt_or_le z 31 with h|h
  ·omega
  ·have:z=31:=by omega
   subst this
   have:=hx.2
   have:=hx.1
   simp at z3 e bd
   omega
 show(0<=i64.wrap (z+1)/\i64.wrap (z+1)<=31/\x0/2^(i64.wrap (z+1)).toNat≠0)/\(32-i64.wrap (z+1)).toNat<(32-z).toNat
 have ew:i64.wrap (z+1)=z+1:=by rw[wrap_i64];omega
 rw[ew]
 refine⟨⟨by omega,by omega,?_⟩,by omega⟩
 have et:(z+1).toNat=z.toNat+1:=by omega
 rw[et,Int.pow_succ,<-Int.ediv_ediv_of_nonneg (dK (dI (by decide)))]
 exact bd
theorem zaA{m:bg}(h:iP m.B4)(hm:ej P m.Mem):(Sc m).w (λ_=>True):=by
 unfold Sc
 refine cw (Qxr h) λx0 hx=>ae (λ_=>trivial) (λ_=>cw (OM hm hx.pc (.inr rfl)) λx1 _=>aq λx2 _=>?_)
 exact ae (λ_=>ae (λ_=>ae (λ_=>trivial) (λ_=>trivial)) (λ_=>trivial)) (λ_=>trivial)
theorem N7(l:List Int):(bytesOf l).length=l.length:=by simp[bytesOf]
theorem TN(l:List UInt8):(o8 l).length=l.length:=by simp[o8]
theorem Sd(x:Int):(MU x 4).w (λr=>r.length=4):=by
 unfold MU
 refine eu (inv:=λz=>0<=z.1/\z.1<=4/\(z.2.length:Int)=z.1) (μ:=VG x 4) ⟨by omega,by omega,rfl⟩ (cN _) (λz hz=>?_)
 obtain⟨z1,z2,z3⟩:=hz
 refine ae (λh=>av (dY (by rw[wrap_u64];omega)) (av (dY (by omega)) (ee ?_))) (λh=>?_)
 ·have h:=oY h
  show(0<=i64.wrap (z.1+1)/\i64.wrap (z.1+1)<=4/\((z.2++[_]).length:Int)=i64.wrap (z.1+1))/\(4-i64.wrap (z.1+1)).toNat<(4-z.1).toNat
  have ew:i64.wrap (z.1+1)=z.1+1:=by rw[wrap_i64];omega
  rw[ew]
  refine⟨⟨by omega,by omega,by simp;omega⟩,by omega⟩
 ·have h:=oN h
  show(bytesOf z.2).length=4
  rw[N7];omega
theorem qae(hm:ej P m)(frame:Int):(GP m frame).w (λr=>0<=frame->frame<P->r.1.length=128):=by
 have hp:=DP hm
 have hl:=hm.len
 have h2:=hm.p2
 unfold GP
 refine ae (λh=>λh0 _=>by have:=oY h;omega) (λh=>aq λx0 hx=>ae (λh1=>λ_ h2=>by have:=oY h1;rw[hx,hp]at this;omega) (λh1=>?_))
 have h:=oN h
 have h1:=oN h1
 rw[hx,hp]at h1
 refine eu (inv:=λz=>0<=z.1/\z.1<=32/\(z.2.length:Int)=4*z.1) (μ:=XK m frame) ⟨by omega,by omega,rfl⟩ (cN _) (λz hz=>?_)
 obtain⟨z1,z2,z3⟩:=hz
 refine ae (λhb=>?_) (λhb=>?_)
 ·have hb:=oY hb
  have e:wrap i64 (wrap i64 (frame*32)+z.1)=frame*32+z.1:=by rw[wrap_i64,wrap_i64];omega
  refine av (by rw[e];simp[bN];omega) (cg (show(4:Int)<=1000000000000 by decide) (Ts (Sd _) λx1 h4=>av (dY (by rw[TN,h4];omega)) (ee ?_)))
  show(0<=i64.wrap (z.1+1)/\i64.wrap (z.1+1)<=32/\((z.2++o8 x1).length:Int)=4*i64.wrap (z.1+1))/\(32-i64.wrap (z.1+1)).toNat<(32-z.1).toNat
  have ew:i64.wrap (z.1+1)=z.1+1:=by rw[wrap_i64];omega
  rw[ew,lA,TN,h4]
  exact⟨⟨by omega,by omega,by omega⟩,by omega⟩
 ·have hb:=oN hb
  intro _ _
  show(bytesOf z.2).length=128
  rw[N7];omega
theorem vA(hm:ej P m)(hd:An d)(port:Int)(hv:U v)(gl:Int):(LV d m port v gl).w (λr=>An r.1/\r.2.length<=1):=by
 have k:∀st,An {ab:=d.ab,C8:=d.C8,Frame:=d.Frame,C9:=st,F5:=d.F5,C5:=d.C5,C6:=d.C6,C7:=d.C7}:=λst=>⟨hd.block,hd.frame,hd.ku,hd.kv⟩
 have k2:∀c o,An {ab:=d.ab,C8:=d.C8,Frame:=d.Frame,C9:=1,F5:=c,C5:=d.C8,C6:=d.Frame,C7:=o}:=λc o=>⟨hd.block,hd.frame,hd.block,hd.frame⟩
 have k3:An {ab:=d.ab,C8:=v,Frame:=d.Frame,C9:=d.C9,F5:=d.F5,C5:=d.C5,C6:=d.C6,C7:=d.C7}:=⟨hv,hd.frame,hd.ku,hd.kv⟩
 have k4:An {ab:=d.ab,C8:=d.C8,Frame:=v,C9:=d.C9,F5:=d.F5,C5:=d.C5,C6:=d.C6,C7:=d.C7}:=⟨hd.block,hv,hd.ku,hd.kv⟩
 unfold LV
 repeat'(first
  |refine ae (λ_=>?_) (λ_=>?_)
  |exact cw (qae hm _) λ_ _=>aq λ_ _=>⟨k2 _ _,aX _⟩
  |refine aq (λ_ _=>?_)
  |refine ba ?_)
 all_goals(first
  |exact⟨hd,bC _⟩
  |exact⟨k _,bC _⟩
  |exact⟨k2 _ _,aX _⟩
  |exact⟨k3,bC _⟩
  |exact⟨k4,bC _⟩)
theorem yY(hm:ej P m)(hn:ur n)(port:Int)(hv:U v)(gl:Int):(LW n m port v gl).w (λr=>ur r.1/\r.2.length<=1):=by
 have k1:ur {Frame:=v,F6:=n.F6,D1:=n.D1,D2:=n.D2,C4:=n.C4,F9:=n.F9}:=⟨hv,hn.len,hn.buffer,hn.GJ⟩
 have k2:ur {Frame:=n.Frame,F6:=v,D1:=n.D1,D2:=n.D2,C4:=n.C4,F9:=n.F9}:=⟨hn.frame,hv,hn.buffer,hn.GJ⟩
 have k3:ur {Frame:=n.Frame,F6:=n.F6,D1:=n.D1,D2:=n.D2,C4:=false,F9:=0}:=⟨hn.frame,hn.len,hn.buffer,gk⟩
 have k4:∀p r,ur {Frame:=n.Frame,F6:=n.F6,D1:=p,D2:=n.Frame,C4:=r,F9:=n.F9}:=λp r=>⟨hn.frame,hn.len,hn.frame,hn.GJ⟩
 have send:∀K:List UInt8×Bool->Tree (ik×List ir),tJ m n.Frame=true->(∀x:List UInt8×Bool,x.1.length=128->(K x).w (λr=>ur r.1/\r.2.length<=1))->(Tree.an (Qjb m (wrap .i64 n.Frame)) (.lv (Lz m (wrap .i64 n.Frame)) K)).w (λr=>ur r.1/\r.2.length<=1):=λK hp hK=>by
  rw[Ue hm hn.frame]at hp
  have hp:=oY hp
  obtain⟨f1,f2⟩:=hn.frame
  have ew:i64.wrap n.Frame=n.Frame:=by rw[wrap_i64];omega
  exact cw (qae hm _) λx hx=>hK x (hx (by rw[ew];exact f1) (by rw[ew];exact hp))
 unfold LW
 repeat'(first
  |refine ae (λ_=>?_) (λ_=>?_)
  |refine send _ (by simp_all) (λx hx=>av (by simp_all;exact hn.len.1) ?_)
  |refine aq (λ_ _=>?_)
  |refine ba ?_)
 all_goals(first
  |exact⟨hn,bC _⟩
  |exact⟨hn,aX _⟩
  |exact⟨k1,bC _⟩
  |exact⟨k2,bC _⟩
  |exact⟨k3,bC _⟩
  |exact⟨k4 _ _,bC _⟩)
def okB(b:gx):Prop:=U b.A2/\U b.D0
theorem xaN(hm:ej P m){b:gx}(hb:okB b)(port:Int)(hv:U v):(Bd b m port v).w (λr=>okB r.1/\ej P r.2):=by
 have DI:decide (0<=v)=true:=dY hv.1
 have h2:=hm.p2
 have rest:(Tree.br (port==11) (.br (decide (v<32)) (.cn (decide (0<=v)) (.lf (({A2:=b.A2,D0:=oM .u32 b.D0 (ep .u32 1 v)}:gx),m))) (.lf (b,m))) (.lf (b,m))).w (λr=>okB r.1/\ej P r.2):=
  ae (λ_=>ae (λ_=>av DI ⟨⟨hb.1,fp _⟩,hm⟩) (λ_=>⟨hb,hm⟩)) (λ_=>⟨hb,hm⟩)
 unfold Bd
 refine ae (λ_=>aq λx0 hx=>ae (λhp=>av DI (ae (λ_=>av DI ?_) (λ_=>rest))) (λ_=>rest)) (λ_=>rest)
 have hp:tJ m v=true:=hx.symm.trans hp
 rw[Ue hm hv]at hp
 have hp:=oY hp
 obtain⟨v1,v2⟩:=hv
 refine eu (inv:=λz=>0<=z.1/\z.1<=32/\ej P z.2) (μ:=Yf b m port v) ⟨by omega,by omega,hm⟩ (cN _) (λz hz=>?_)
 obtain⟨z1,z2,z3⟩:=hz
 have hl:=z3.len
 refine ae (λh=>?_) (λ_=>⟨⟨hb.1,fp _⟩,z3⟩)
 have h:=oY h
 have e:wrap i64 (wrap i64 (wrap i64 v*32)+z.1)=v*32+z.1:=by rw[wrap_i64,wrap_i64,wrap_i64];omega
 refine av (by rw[e];simp[bN];omega) (ee ?_)
 show(0<=i64.wrap (z.1+1)/\i64.wrap (z.1+1)<=32/\ej P (dB _ _ _))/\(32-i64.wrap (z.1+1)).toNat<(32-z.1).toNat
 have ew:i64.wrap (z.1+1)=z.1+1:=by rw[wrap_i64];omega
 rw[ew]
 exact⟨⟨by omega,by omega,⟨by simp[hl],z3.p1,z3.p2,ED z3.u gk _⟩⟩,by omega⟩
structure rK(P:Nat)(m:bg):Prop where
 oi:iP m.B4
 mem:ej P m.Mem
 mo:An m.B7
 wA:ur m.D4
 target:okB m.A6
 tF:0<=m.B6
theorem Zp8(c:iV)(port:Int):U (LU c port).2:=by
 refine Tree.post (GU c port) (W:=λr=>U r.2) ?_
 have u1:U 4294967295:=⟨by omega,by omega⟩
 unfold GU
 refine ae (λ_=>ae (λ_=>u1) (λh=>ae (λ_=>av ?_ (av ?_ (fp _))) (λ_=>ae (λ_=>fp _) (λ_=>gk)))) (λh1=>ae (λh=>(by rw[h1]at h;cases h)) (λ_=>ae (λ_=>fp _) (λ_=>gk)))
 ·have h:¬(c.D9.length:Int)=0:=by simpa using h
  exact dY ⟨by omega,by omega,by omega⟩
 ·have h:¬(c.D9.length:Int)=0:=by simpa using h
  simp[bN];omega
theorem xaA(h:ur n)(port:Int):U (TY n port):=by
 refine Tree.post (ON n port) (W:=U) ?_
 have u1:U 1:=⟨by omega,by omega⟩
 unfold ON
 exact ae (λ_=>h.frame) (λ_=>ae (λ_=>h.GJ) (λ_=>ae (λ_=>ae (λ_=>ae (λ_=>fp _) (λ_=>u1)) (λ_=>ae (λ_=>fp _) (λ_=>gk))) (λ_=>gk)))
theorem vY(h:An d)(port:Int):U (Yq d port):=by
 refine Tree.post (VH d port) (W:=U) ?_
 unfold VH
 exact ae (λ_=>h.block) (λ_=>ae (λ_=>h.frame) (λ_=>ae (λ_=>fp _) (λ_=>gk)))
theorem qB(t:jc):U (Yr t):=by
 refine Tree.post (VI t) (W:=U) ?_
 unfold VI
 exact ae (λ_=>⟨by omega,by omega⟩) (λ_=>gk)
theorem Zph{b:gx}(h:U b.A2)(port:Int):U (LY b port):=by
 refine Tree.post (LZ b port) (W:=U) ?_
 unfold LZ
 exact ae (λ_=>h) (λ_=>ae (λ_=>aq λ_ _=>fp _) (λ_=>gk))
theorem w0(x:Int):0<=u64.wrap x:=by rw[wrap_u64];omega
section
end
section

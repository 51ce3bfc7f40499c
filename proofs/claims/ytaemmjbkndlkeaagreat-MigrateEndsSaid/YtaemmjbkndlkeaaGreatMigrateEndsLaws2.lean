import Derived.Test.YtaemmjbkndlkeaaGreatMigrateEndsZt
open List renaming set->dB,mem_cons->cQ,not_mem_nil->cR
open Nat renaming blt->bN,beq->bX,lt_succ_self->cN,le_refl->aX,zero_le->bC
open Int renaming pow_pos->dI,le_of_lt->dK,fdiv_eq_ediv_of_nonneg->dJ,tmod->cZ,mul_tmod_right->gS,mul_tdiv_cancel_left->gT,tdiv->eF,tdiv_eq_ediv_of_nonneg->eG,emod_eq_of_lt->dH,lt_of_lt_of_le->gU,le_of_eq->gW
open BitVec renaming ofInt->dR,toNat_and->dU
set_option maxRecDepth 100000
set_option linter.all false
namespace Go.Proofs.YtaemmjbkndlkeaaGreat
open Go Go.GD
open Go.IntKind(wrap i64 u32 u64 u8 i32 wrap_i64 wrap_u32 wrap_u64 wrap_u8 wrap_i32)
variable {P:Nat}{b f root size v va x:Int}{c:bu}{d:fv}{i:ib}{m:List Int}{n:gz}
def U(x:Int):Prop:=0<=x/\x<4294967296
theorem fp(x:Int):U (u32.wrap x):=by rw[wrap_u32];unfold U;omega
theorem K9(x y:Int):U (bb .u32 x y):=fp _
theorem nE(x y:Int):U (iM .u32 x y):=fp _
theorem gj:U 0:=⟨by omega,by omega⟩
theorem Ew(h:∀w∈m,U w)(hv:U v)(i:Nat):∀w∈m.set i v,U w:=by
 intro w hw
 rcases List.mem_or_eq_of_mem_set hw with h1|h1
 ·exact h w h1
 ·rw[h1];exact hv
structure ep(P:Nat)(m:List Int):Prop where
 len:m.length=32*P
 p1:0<=P
 p2:P<=32
 u:∀w∈m,U w
structure Ah(d:fv):Prop where
 block:U d.C8
 frame:U d.Frame
 ko:U d.C5
 kp:U d.C6
structure uh(n:gz):Prop where
 frame:U n.Frame
 len:U n.F7
 buffer:U n.D4
 Gw:U n.F8
theorem AV{l:List Int}(h:∀w∈l,U w)(i:Nat):U (l.getD i 0):=by
 by_cases hi:i<l.length
 ·have:l.getD i 0=l[i]:=by simp[List.getD,hi]
  rw[this];exact h _ (List.getElem_mem hi)
 ·have:l.getD i 0=0:=by simp[List.getD,List.getElem?_eq_none (by omega:l.length<=i)]
  rw[this];exact gj
structure iQ(c:bu):Prop where
 x:∀w∈ir.l c.X,U w
 pc:U c.Pc
 jr:∀w∈A8.l c.C3,U w
theorem W9{X:ir Int}(h:∀w∈ir.l X,U w)(hv:U v)(i:Nat):∀w∈ir.l (ir.of 0 (dB (ir.l X) i v)),U w:=by
 have hs:=Ew h hv i
 intro w hw
 simp only[ir.l,ir.of,cQ,cR,or_false]at hw
 repeat(first|(rcases hw with rfl|hw;· exact AV hs _)|(subst hw;exact AV hs _))
theorem Zjt{X:A8 Int}(h:∀w∈A8.l X,U w)(hv:U v)(i:Nat):∀w∈A8.l (A8.of 0 (dB (A8.l X) i v)),U w:=by
 have hs:=Ew h hv i
 intro w hw
 simp only[A8.l,A8.of,cQ,cR,or_false]at hw
 repeat(first|(rcases hw with rfl|hw;· exact AV hs _)|(subst hw;exact AV hs _))
section
variable {c:bu} (h:iQ c)
include h
theorem iQ.a(i:Nat):U ((A8.l c.C3).getD i 0):=AV h.jr i
theorem iQ.r(i:Nat):U ((ir.l c.X).getD i 0):=AV h.x i
theorem iQ.a0:U c.C3.a0:=h.a 0
theorem iQ.a1:U c.C3.a1:=h.a 1
theorem iQ.a2:U c.C3.a2:=h.a 2
theorem iQ.a3:U c.C3.a3:=h.a 3
theorem iQ.a4:U c.C3.a4:=h.a 4
theorem iQ.a5:U c.C3.a5:=h.a 5
theorem iQ.a6:U c.C3.a6:=h.a 6
theorem iQ.a7:U c.C3.a7:=h.a 7
theorem iQ.AE{p:Int}(hp:U p):iQ {X:=c.X,Pc:=p,C3:=c.C3}:=⟨h.x,hp,h.jr⟩
end
section
variable {α β:Type} {W:β->Prop} {t:Tree α} {Q:α->Prop} {k:α->Tree β}
theorem cv(hq:t.w Q)(g:∀x,Q x->(k x).w W):(Tree.an t.p (Tree.lv t.m k)).w W:=⟨(Tree.pp hq).1,λy hy=>g y (by rw[hy];exact(Tree.pp hq).2)⟩
theorem SU(hq:t.w Q)(g:∀x,Q x->(k x).w W):(Tree.lv t.m k).w W:=λy hy=>g y (by rw[hy];exact t.post hq)
end
theorem rc{r:Int}(h:0<=r/\r<16):(bN 0 1&&decide (0<=r/\r<((16:Nat):Int)))=true:=by simp[bN];omega
theorem Ak{a:Int}(h:U a)(b:Int):U (bc .u32 a b):=by
 unfold bc U
 obtain⟨h1,h2⟩:=h
 have hp:(0:Int)<2^(min b.toNat u32.bits):=dI (by decide)
 have:=Int.fdiv_nonneg h1 (dK hp)
 refine⟨this,?_⟩
 rw[dJ _ (dK hp)]
 have h3:=Int.ediv_le_self (2^(min b.toNat u32.bits)) h1
 omega
structure sA(i:ib):Prop where
 a:0<=i.A/\i.A<16
 b:0<=i.B/\i.B<16
 c:0<=i.C/\i.C<16
 jr:i.Op=58->0<=i.cf/\i.cf<8
theorem Xm(h:ep P m):jU m=P:=by
 obtain⟨h1,h2,h3,_⟩:=h
 simp only[jU,Gs,Tree.m]
 have e:(m.length:Int)=32*P:=by omega
 rw[e]
 have e1:(cZ (32*(P:Int)) 32 !=0)=false:=by simp[gS]
 have e2:decide ((32*(P:Int))>1024)=false:=dN (by omega)
 rw[e1,e2]
 simp only[cond_false]
 rw[gT _ (by decide),wrap_i64];omega
theorem zaa(n:Int):(Ra n).w (λ_=>True):=by
 unfold Ra
 exact ab (λ_=>trivial) (λ_=>ax (dY (by rw[wrap_u64];omega)) trivial)
theorem Mq(w low n:Int):(Rb w low n).w U:=by
 unfold Rb
 exact ab (λ_=>gj) (λ_=>ab (λ_=>gj) (λ_=>ab (λ_=>gj) (λ_=>ax (dY (by rw[wrap_u64];omega)) (cv (zaa n) λ_ _=>K9 _ _))))
theorem Zsq{w:Int}(hw:U w)(low n v:Int):(Rc w low n v).w U:=by
 have h0:decide (0<=wrap u64 low)=true:=dY (by rw[wrap_u64];omega)
 unfold Rc
 exact ab (λ_=>hw) (λ_=>ab (λ_=>hw) (λ_=>ab (λ_=>hw) (λ_=>cv (zaa n) λ_ _=>ax h0 (ax h0 (nE _ _)))))
theorem Z0(hx:U x)(n:Int):(Rd x n).w U:=by
 have h0:∀y,decide (0<=wrap u64 y)=true:=λy=>dY (by rw[wrap_u64];omega)
 unfold Rd
 exact ab (λ_=>gj) (λ_=>ab (λ_=>hx) (λ_=>ax (h0 _) (ax (h0 _) (fp _))))
section
variable {P:Nat} {m:List Int} (h:ep P m)
include h
theorem Gt:nP m:=by
 have:=h.len
 have:=h.p2
 show m.length<=35184372088832
 omega
theorem Zj0{a:Int}(ha:U a)(hs:size=1\/size=4):(ID m a size).w (λb=>b=true->a+size<=128*P):=by
 have hp:=Xm h
 have h2:=h.p2
 obtain⟨a1,a2⟩:=ha
 have e:decide (wrap u32 size≠0)=true:=by rcases hs with rfl|rfl<;>decide
 have l:∀x,x=jU m->decide (wrap u64 (wrap u64 a+wrap u64 size)<=wrap u64 (wrap u64 x*128))=true->a+size<=128*P:=λx hx hd=>by
  rw[hx,hp]at hd
  have:=oY hd
  simp only[wrap_u64]at this
  omega
 unfold ID
 refine ab (λ_=>ab (λ_=>λh=>by cases h) (λ_=>?_)) (λ_=>?_)<;>
 exact ax e (ab (λ_=>λh=>by cases h) (λ_=>aq λx hx=>l x hx))
theorem FC{a:Int}(ha:U a)(hl:a<128*P):(bX 1 1&&bN 0 1&&decide (0<=wrap u32 (eF a 4)/\wrap u32 (eF a 4)<(m.length:Int)))=true:=by
 obtain⟨a1,a2⟩:=ha
 have e:wrap u32 (eF a 4)=a/4:=by rw[wrap_u32,eG a1];omega
 have:=h.len
 rw[e];simp[bN];omega
theorem Iv{a:Int}(ha:U a)(hs:size=1\/size=4):(K4 m a size).w (λr=>U r.1/\(r.2=true->a<128*P)):=by
 unfold K4
 refine cv (Zj0 h ha hs) λx hx=>ab (λ_=>⟨gj,λh=>by cases h⟩) (λhb=>?_)
 have hl:=hx (by simpa using hb)
 have hl:a<128*P:=by omega
 exact ax (FC h ha hl) (ab (λ_=>cv (Mq _ _ _) λy hy=>⟨hy,λ_=>hl⟩) (λ_=>⟨AV h.u _,λ_=>hl⟩))
theorem S6{a:Int}(ha:U a)(hs:size=1\/size=4)(hv:U v):(K6 m a size v).w (λr=>ep P r.1):=by
 have st:∀i v,U v->ep P (m.set i v):=λi v hv=>⟨by simp[h.len],h.p1,h.p2,Ew h.u hv i⟩
 have jn:kF m=m:=rfl
 unfold K6
 refine c6 (Gt h) (aq λx0 nO=>?_)
 rw[jn]at nO;subst nO
 refine cv (Zj0 h ha hs) λx hx=>ab (λ_=>h) (λhb=>?_)
 have hl:=hx (by simpa using hb)
 have hl:a<128*P:=by omega
 exact ab (λ_=>ax (FC h ha hl) (cv (Zsq (AV h.u _) _ _ _) λy hy=>ax (FC h ha hl) (st _ _ hy))) (λ_=>ax (FC h ha hl) (st _ _ hv))
end
theorem Zmq{r:Int}{used:Bool}(h:KX r used=true):0<=r/\r<16:=by
 simp only[KX,Ta,Tree.m]at h
 cases used
 ·have h:(r==0)=true:=h
  have:=eq_of_beq h;omega
 ·cases h1:decide (r>=0)<;>rw[h1]at h
  ·cases h
  ·have h1:=oY h1
   have h:=oY h
   omega
theorem vz(h:IB i=true):sA i:=by
 have no:false=true->sA i:=λh=>by cases h
 refine(Tree.post (NX i) (W:=λb=>b=true->sA i) ?_) h
 unfold NX
 refine aq λx0 h0=>ab (λ_=>aq λx1 h1=>ab (λb1=>aq λx2 h2=>ab (λb2=>aq λx3 h3=>ab (λb3=>ab (λb4=>λb5=>?_) (λ_=>no)) (λ_=>no)) (λ_=>no)) (λ_=>no)) (λ_=>no)
 have b4:=oY b4
 have b5:=oY b5
 refine⟨Zmq (h1.symm.trans b1),Zmq (h2.symm.trans b2),Zmq (h3.symm.trans b3),λe=>?_⟩
 rw[e]at h0
 have h0:x0=({a:=true,b:=false,c:=false,low:=0,F5:=7},true):=h0
 subst h0
 simp at b4 b5;omega
theorem W6(w:Int):(KZ w).w (λr=>r.2=true->sA r.1):=by
 have no:∀{p:Prop},false=true->p:=λh=>by cases h
 have l:∀i,(Tree.lv (IB i) λx=>.br (!x) (.lf ((⟨0,0,0,0,0⟩:ib),false)) (.lf (i,true))).w (λr=>r.2=true->sA r.1):=λi=>aq λx hx=>ab (λ_=>no) (λhb=>λ_=>vz (hx.symm.trans (by simpa using hb)))
 unfold KZ
 exact cv (Mq _ _ _) λx0 _=>cv (Mq _ _ _) λx1 _=>cv (Mq _ _ _) λx2 _=>aq λx3 _=>ab (λ_=>no) (λ_=>cv (Mq _ _ _) λx4 h4=>ab (λ_=>l _) (λ_=>ab (λ_=>cv (Z0 h4 _) λx6 _=>l _) (λ_=>l _)))
section
variable {P:Nat} {m:List Int} (h:ep P m)
include h
theorem yV(hf:U f):N2 m f=decide (f<P):=by
 have:=Xm h
 obtain⟨h1,h2⟩:=hf
 have h3:=h.p2
 simp only[N2,Qke,Tree.m,ee,this]
 congr 1
 rw[wrap_u64,wrap_u64,dH h1 (by omega),dH (by omega) (by omega)]
theorem xaw(hv:U va)(access:Int):(K8 m root va access).w (λt=>U t.Addr/\U t.G1):=by
 have bad:U (0:Int)/\U (0:Int):=⟨gj,gj⟩
 have fr:∀x,(Re x).w U:=λx=>by
  unfold Re
  exact cv (Mq _ _ _) λy hy=>hy
 unfold K8
 exact aq λx0 _=>ab (λ_=>bad) (λ_=>ab (λ_=>bad) (λ_=>aq λx1 _=>ab (λ_=>bad) (λ_=>cv (Iv h (fp _) (.inr rfl)) λx2 _=>ab (λ_=>bad) (λ_=>aq λx3 _=>ab (λ_=>bad) (λ_=>cv (fr _) λx4 _=>aq λx5 _=>ab (λ_=>bad) (λ_=>cv (fr _) λx6 _=>⟨fp _,fp _⟩))))))
theorem vV{a:Int}(ha:U a)(access:Int):(La m a access).w (ep P):=by
 have jn:kF m=m:=rfl
 unfold La
 exact cv (Iv h ha (.inr rfl)) λx0 _=>ab (λ_=>c6 (Gt h) (aq λx1 h1=>by rw[h1,jn];exact h)) (λ_=>ab (λ_=>cv (S6 h ha (.inr rfl) (nE _ _)) λx hx=>hx) (λ_=>cv (S6 h ha (.inr rfl) (nE _ _)) λx hx=>hx))
theorem NT(hv:U va)(hs:size=1\/size=4)(access:Int):(Qb c m va size access).w (λr=>U r.1/\ep P r.2.1):=by
 have jn:kF m=m:=rfl
 have e:decide (wrap u32 size≠0)=true:=by rcases hs with rfl|rfl<;>decide
 have cl:∀(K:List Int->Int×List Int×Int),(∀x,x=m->U (K x).1/\ep P (K x).2.1)->(Tree.an (nP m) (.lv (kF m) λx=>.lf (K x))).w (λr=>U r.1/\ep P r.2.1):=λK hK=>c6 (Gt h) (aq λx hx=>hK x (hx.trans jn))
 have z:∀(k:Nat) (x:List Int),x=m->U (0:Int)/\ep P x:=λ_ x hx=>⟨gj,hx▸h⟩
 have v:∀x,x=m->U va/\ep P x:=λx hx=>⟨hv,hx▸h⟩
 have main:∀(x0:Int×Bool),(Tree.cn (decide (wrap u32 size≠0)) (.br (cZ va (wrap u32 size) !=0) (.an (nP m) (.lv (kF m) λx3=>.lf ((0:Int),x3,(3:Int)))) (.lv (IF c) λx4=>.br (!x4) (.br (bb u32 c.C3.a0 4 !=0) (.an (Qkx m c.C3.a6 va access) (.lv (Te m c.C3.a6 va access) λx5=>.br (x5.G0 !=0) (.an (nP m) (.lv (kF m) λx6=>.lf (0,x6,x5.G0))) (.an (Qi0 m x5.G1 access) (.lv (N4 m x5.G1 access) λx7=>.lf (x5.Addr,x7,0))))) (.an (JC m va size) (.lv (BZ m va size) λx8=>.br (!x8.2) (.an (nP m) (.lv (kF m) λx9=>.lf (0,x9,x0.1))) (.an (nP m) (.lv (kF m) λlJ=>.lf (va,lJ,0)))))) (.an (JC m va size) (.lv (BZ m va size) λmb=>.br (!mb.2) (.an (nP m) (.lv (kF m) λoR=>.lf (0,oR,x0.1))) (.an (nP m) (.lv (kF m) λuO=>.lf (va,uO,0)))))))).w (λr=>U r.1/\ep P r.2.1):=λx0=>
  ax e (ab (λ_=>cl _ (z 0)) (λ_=>aq λx4 _=>ab (λ_=>ab (λ_=>cv (xaw h hv access) λx5 hx=>ab (λ_=>cl _ (z 0)) (λ_=>cv (vV h hx.2 access) λx7 h7=>⟨hx.1,h7⟩)) (λ_=>cv (Iv h hv hs) λx8 _=>ab (λ_=>cl _ (z 0)) (λ_=>cl _ v))) (λ_=>cv (Iv h hv hs) λx8 _=>ab (λ_=>cl _ (z 0)) (λ_=>cl _ v))))
 unfold Qb
 exact aq λx0 _=>ab (λ_=>cl _ (z 0)) (λ_=>ab (λ_=>ab (λ_=>cl _ (z 0)) (λ_=>main x0)) (λ_=>main x0))
theorem W5(hc:iQ c):(Rf c m).w (λr=>U r.1/\ep P r.2.1):=by
 unfold Rf
 exact cv (NT h hc.pc (.inr rfl) 1) λx0 h0=>ab (λ_=>⟨gj,h0.2⟩) (λ_=>cv (Iv h0.2 h0.1 (.inr rfl)) λx1 h1=>⟨h1.1,h0.2⟩)
end
theorem qax{s a b:Int}:U (Aj s a b):=by
 refine Tree.post (Qu s a b) (W:=U) ?_
 unfold Qu
 exact ab (λ_=>fp _) (λ_=>fp _)
section
variable {c:bu} (h:iQ c)
include h
theorem Iy(k:Int)(hb:U b):iQ (rb c k b):=by
 refine(Tree.post (N6 c k b) (W:=iQ) ?_)
 unfold N6
 refine aq λ_ _=>aq λ_ _=>⟨h.x,h.a1,?_⟩
 intro w hw
 simp only[A8.l,cQ,cR,or_false]at hw
 rcases hw with rfl|rfl|rfl|rfl|rfl|rfl|rfl|rfl
 ·exact fp _
 ·exact h.a1
 ·exact h.pc
 ·exact fp _
 ·exact hb
 ·exact h.a5
 ·exact h.a6
 ·exact h.a7
theorem qA:iQ (KS c):=by
 refine(Tree.post (N8 c) (W:=iQ) ?_)
 unfold N8
 refine aq λx0 _=>aq λx1 h1=>⟨h.x,h.a2,?_⟩
 intro w hw
 simp only[A8.l,cQ,cR,or_false]at hw
 rcases hw with rfl|rfl|rfl|rfl|rfl|rfl|rfl|rfl
 ·rw[h1];exact qax
 ·exact h.a1
 ·exact h.a2
 ·exact h.a3
 ·exact h.a4
 ·exact h.a5
 ·exact h.a6
 ·exact h.a7
theorem DE{r:Int}(hr:0<=r/\r<16)(hv:U v):(EB c r v).w iQ:=by
 unfold EB
 exact ab (λ_=>ax (rc hr) ⟨W9 h.x hv _,h.pc,h.jr⟩) (λ_=>h)
theorem Zqo(k:Int)(hv:U v):(It c k v).w iQ:=by
 have ok:∀i v,U v->iQ {X:=c.X,Pc:=c.Pc,C3:=A8.of 0 (dB (A8.l c.C3) i v)}:=λi v hv=>⟨h.x,h.pc,Zjt h.jr hv i⟩
 unfold It
 repeat'(first
  |exact h
  |exact ok _ _ (fp _)
  |exact ok _ _ hv
  |refine ab (λhk=>?_) (λ_=>?_)
  |refine ax (by rw[eq_of_beq (by assumption:(k==_)=true)];decide) ?_)
end
theorem Zle{a b:Int}(ha:U a)(hb:U b):(Lf a b).w (λr=>U r.1/\U r.2):=by
 have u1:U 4294967295:=⟨by omega,by omega⟩
 unfold Lf
 refine ab (λ_=>⟨u1,ha⟩) (λh=>?_)
 have h:¬b=0:=by simpa using h
 obtain⟨b1,b2⟩:=hb
 have hc:decide (wrap i32 b≠0)=true:=dY (by rw[wrap_i32];omega)
 exact ab (λ_=>ab (λ_=>⟨ha,gj⟩) (λ_=>ax hc (ax hc ⟨fp _,fp _⟩))) (λ_=>ax hc (ax hc ⟨fp _,fp _⟩))
theorem zax(b:Bool):U (Vb b):=by cases b<;>exact⟨by decide,by decide⟩
theorem KU(op:Int){a b:Int}(ha:U a)(hb:U b):(Rg op a b).w (λr=>U r.1):=by
 unfold Rg
 repeat'(first
  |refine ab (λ_=>?_) (λ_=>?_)
  |exact cv (Zle ha hb) λx hx=>hx.1
  |exact cv (Zle ha hb) λx hx=>hx.2
  |exact aq λx hx=>(by rw[hx];exact zax _)
  |refine bj ?_)
 all_goals(first
  |exact fp _
  |exact Ak ha _
  |exact gj)
theorem S5(op:Int):JD op=1\/JD op=4:=by
 simp only[JD,Qvj,Tree.m]
 cases op==32<;>cases op==35<;>simp
section
variable {c:bu} (h:iQ c) {i:ib} (hi:sA i)
include h hi
theorem Zrp:(EC c i).w (λr=>iQ r.1/\U r.2.Value):=by
 have k:∀{x:bu} {p:Int},iQ x->U p->iQ {X:=x.X,Pc:=p,C3:=x.C3}:=λhx hp=>⟨hx.x,hp,hx.jr⟩
 unfold EC
 refine ax (rc hi.a) (ax (rc hi.b) ?_)
 repeat'(first
  |refine ab (λ_=>?_) (λ_=>?_)
  |exact cv (DE h hi.a (fp _)) λx hx=>⟨k hx (fp _),gj⟩
  |exact aq λx _=>ab (λ_=>⟨k h (fp _),gj⟩) (λ_=>⟨k h (fp _),gj⟩)
  |exact aq λx hx=>⟨by rw[hx];exact Iy h _ gj,gj⟩
  |exact aq λx hx=>⟨by rw[hx];exact qA h,gj⟩
  |exact ax (by have:=hi.jr (by simp_all);simp[bN];omega) (cv (DE h hi.a (h.a _)) λx hx=>⟨k hx (fp _),gj⟩)
  |exact cv (Zqo h _ (h.r _)) λx hx=>⟨k hx (fp _),gj⟩
  |refine ax (rc hi.c) ?_
  |exact cv (KU _ (h.r _) (fp _)) λy hy=>cv (DE h hi.a hy) λx hx=>⟨k hx (fp _),gj⟩
  |exact cv (KU _ (h.r _) (h.r _)) λy hy=>cv (DE h hi.a hy) λx hx=>⟨k hx (fp _),gj⟩
  |refine bj ?_)
 all_goals(first
  |exact⟨k h (fp _),gj⟩
  |exact⟨k h (fp _),h.r _⟩)
theorem Z56(hm:ep P m):(Iu c m i).w (λr=>iQ r.1/\ep P r.2):=by
 have w:=S5 i.Op
 unfold Iu
 refine ax (rc hi.b) (aq λx0 h0=>?_)
 rw[<-h0]at w
 refine cv (NT hm (fp _) w 2) λx1 h1=>ab (λ_=>aq λy hy=>⟨by rw[hy];exact Iy h _ (fp _),h1.2⟩) (λ_=>aq λx3 h3=>?_)
 rw[h0,<-h3]at w
 exact cv (Iv h1.2 h1.1 w) λx4 h4=>ab (λ_=>cv (Z0 h4.1 8) λy hy=>cv (DE h hi.a hy) λx hx=>⟨⟨hx.x,fp _,hx.jr⟩,h1.2⟩) (λ_=>cv (DE h hi.a h4.1) λx hx=>⟨⟨hx.x,fp _,hx.jr⟩,h1.2⟩)
theorem Z2l(hm:ep P m):(Iw c m i).w (λr=>iQ r.1/\ep P r.2):=by
 have w:=S5 i.Op
 unfold Iw
 refine ax (rc hi.b) (aq λx0 h0=>?_)
 rw[<-h0]at w
 refine cv (NT hm (fp _) w 3) λx1 h1=>ab (λ_=>aq λy hy=>⟨by rw[hy];exact Iy h _ (fp _),h1.2⟩) (λ_=>aq λx3 h3=>ax (rc hi.a) ?_)
 rw[h0,<-h3]at w
 exact cv (S6 h1.2 h1.1 w (h.r _)) λx hx=>⟨⟨h.x,fp _,h.jr⟩,hx⟩
end
theorem xax(h:iQ c)(hm:ep P m):(ED c m).w (λr=>iQ r.1/\ep P r.2.1/\U r.2.2.Value):=by
 unfold ED
 refine cv (W5 hm h) λx0 h0=>ab (λ_=>aq λy hy=>⟨by rw[hy];exact Iy h _ h.pc,h0.2,gj⟩) (λ_=>cv (W6 _) λx2 h2=>ab (λ_=>aq λy hy=>⟨by rw[hy];exact Iy h _ h0.1,h0.2,gj⟩) (λhb=>?_))
 have hi:=h2 (by simpa using hb)
 refine aq λx4 _=>?_
 repeat'(first
  |refine ab (λ_=>?_) (λ_=>?_)
  |exact cv (Z56 h hi h0.2) λx hx=>⟨hx.1,hx.2,gj⟩
  |exact cv (Z2l h hi h0.2) λx hx=>⟨hx.1,hx.2,gj⟩
  |exact cv (Zrp h hi) λx hx=>⟨hx.1,h0.2,hx.2⟩
  |exact aq λy hy=>⟨by rw[hy];exact Iy h _ h0.1,h0.2,gj⟩
  |refine aq λ_ _=>?_)
theorem Vc{a:Int}(h:U a)(k:Nat)(hk:k<=32):0<=bc .u32 a k/\bc .u32 a k*2^k<=a:=by
 obtain⟨h1,h2⟩:=h
 unfold bc
 have e:min (k:Int).toNat u32.bits=k:=by show min (k:Int).toNat 32=k;omega
 have hp:(0:Int)<2^k:=dI (by decide)
 rw[e,dJ _ (dK hp)]
 exact⟨Int.ediv_nonneg h1 (dK hp),Int.ediv_mul_le a (Int.ne_of_gt hp)⟩
theorem Zpi(x:Int):0<=u8.wrap x/\u8.wrap x<256:=by rw[wrap_u8];omega
theorem qay(h:U x):(DC x).w (λ_=>True):=by
 have AT:=Vc h 16 (by omega)
 have s8:=Vc h 8 (by omega)
 have ui:=Vc (Ak h 16) 8 (by omega)
 obtain⟨h1,h2⟩:=h
 unfold DC
 repeat'(first
  |refine ab (λ_=>?_) (λ_=>?_)
  |refine ax (dY ⟨?_,gU (b:=256) ?_ (gW (by kernel_rfl))⟩) ?_
  |exact trivial
  |refine bj ?_)
 all_goals(first
  |trivial
  |exact(Zpi _).1
  |exact(Zpi _).2
  |(simp only[decide_eq_true_eq,decide_eq_false_iff_not]at*;simp at AT s8 ui;omega))
theorem BT(a:Int):bb .u32 a 255<256:=by
 unfold bb
 rw[wrap_u32]
 have:(dR u32.bits a&&&dR u32.bits 255).toNat<=255:=by
  show(dR 32 a&&&dR 32 255).toNat<=255
  rw[dU]
  exact Nat.le_trans Nat.and_le_right (by decide)
 omega
theorem zaL(h:U x):(Rh x).w (λ_=>True):=by
 have ui:=Vc h 24 (by omega)
 obtain⟨h1,h2⟩:=h
 have i24:bc .u32 x 24<256:=by simp at ui;omega
 unfold Rh
 repeat'(first
  |refine ax (dY ⟨?_,gU (b:=256) ?_ (gW (by kernel_rfl))⟩) ?_
  |exact trivial
  |refine bj ?_)
 all_goals(first
  |trivial
  |exact(fp _).1
  |exact ui.1
  |exact i24
  |exact BT _)
structure Ai(P:Nat)(m:bg):Prop where
 oh:iQ m.B2
 mem:ep P m.Mem
 mn:Ah m.B5
 wm:uh m.D1
 target:U m.A6.A2
 given:U m.A6.D0
theorem Zpw{b:gm}(h:U b.D0):(Ri b).w (λ_=>True):=by
 unfold Ri
 exact cv (zaL h) λ_ _=>trivial
theorem xaa{m:bg}(h:U m.A6.D0):(JE m).w (λ_=>True):=by
 have b:∀x,(Io m.A6 x).w (λ_=>True):=λx=>by
  unfold Io
  exact cv (qay h) λ_ _=>trivial
 have d:(Gu m).w (λ_=>True):=by
  unfold Gu
  exact aq λ_ _=>aq λ_ _=>ab (λ_=>aq λ_ _=>ab (λ_=>aq λ_ _=>ab (λ_=>aq λ_ _=>ab (λ_=>cv (b _) λ_ _=>trivial) (λ_=>trivial)) (λ_=>trivial)) (λ_=>trivial)) (λ_=>trivial)
 unfold JE
 repeat'(first
  |refine ab (λ_=>?_) (λ_=>?_)
  |exact cv d λ_ _=>trivial
  |refine aq λ_ _=>?_
  |exact trivial)
theorem qW{m:bg}(h:U m.A6.D0):(Lu m).w (λ_=>True):=by
 have p:(Lo m.A6).w (λ_=>True):=by
  unfold Lo
  exact cv (Zpw h) λ_ _=>trivial
 unfold Lu
 refine aq λx0 _=>aq λx1 _=>aq λx2 _=>aq λx3 _=>cv p λx4 _=>fj (inv:=λz=>0<=z.2/\z.2<=5) (μ:=Qk m) ⟨by omega,by omega⟩ (cN _) (λz hz=>?_)
 obtain⟨z1,z2⟩:=hz
 have ew:z.2<5->i64.wrap (z.2+1)=z.2+1:=λ_=>by rw[wrap_i64];omega
 refine ab (λhb=>?_) (λ_=>trivial)
 have hb:=oY hb
 have nx:(0<=i64.wrap (z.2+1)/\i64.wrap (z.2+1)<=5)/\(5-i64.wrap (z.2+1)).toNat<(5-z.2).toNat:=by rw[ew hb];omega
 refine ax (by simp;omega) (ab (λ_=>ax (dY z1) (ei nx)) (λ_=>ei nx))
theorem Zbo{m:bg}(h:U m.A6.D0):(Lw m).w U:=by
 unfold Lw
 exact cv (qW h) λ_ _=>K9 _ _
theorem zay{m:bg}(h:U m.A6.D0):(Ix m).w (λ_=>True):=by
 have i:(Ly m).w (λ_=>True):=by
  unfold Ly
  exact ab (λ_=>cv (Zbo h) λ_ _=>trivial) (λ_=>trivial)
 unfold Ix
 exact cv (xaa h) λ_ _=>ab (λ_=>ab (λ_=>cv i λ_ _=>ab (λ_=>trivial) (λ_=>trivial)) (λ_=>trivial)) (λ_=>trivial)
theorem DG(h:ep P m):wq m=P:=by
 obtain⟨h1,h2,h3,_⟩:=h
 simp only[wq,Qsr,Tree.m]
 have e:(m.length:Int)=32*P:=by omega
 rw[e]
 have e1:(cZ (32*(P:Int)) 32 !=0)=false:=by simp[gS]
 have e2:decide ((32*(P:Int))>1024)=false:=dN (by omega)
 rw[e1,e2]
 simp only[cond_false]
 rw[gT _ (by decide),wrap_i64];omega
theorem Ty(h:ep P m)(hf:U f):tB m f=decide (f<P):=by
 have:=DG h
 obtain⟨h1,h2⟩:=hf
 have h3:=h.p2
 simp only[tB,Oj,Tree.m,ee,this]
 congr 1
 rw[wrap_u64,wrap_u64,dH h1 (by omega),dH (by omega) (by omega)]
theorem xaL(h:ep P m):(LB m).w (λr=>r=m):=by
 obtain⟨h1,h2,h3,_⟩:=h
 unfold LB
 refine ax ?_ ?_
 ·simp[bN,D.plain];omega
 ·show _=_
  simp
theorem Rj(h:ep P m){addr size v:Int}(ha:U addr)(hl:addr<4*m.length)(hv:U v):(K7 m addr size v).w (ep P):=by
 obtain⟨h1,h2,h3,h4⟩:=h
 obtain⟨a1,a2⟩:=ha
 have e:wrap u32 (eF addr 4)=addr/4:=by rw[wrap_u32,eG a1];omega
 have hc:(bX 1 1&&bN 0 1&&decide (0<=wrap u32 (eF addr 4)/\wrap u32 (eF addr 4)<(m.length:Int)))=true:=by
  rw[e];simp[bN];omega
 have h0:∀x,decide (0<=wrap u32 x)=true:=λx=>dY (fp x).1
 have hs:∀i v,U v->ep P (m.set i v):=λi v hv=>⟨by simp[h1],h2,h3,Ew h4 hv i⟩
 unfold K7
 exact ab (λ_=>ax hc (hs _ _ hv)) (λ_=>ax hc (ax (h0 _) (ax (h0 _) (ax hc (hs _ _ (nE _ _))))))
section
variable {c:bu} (h:iQ c)
include h
theorem JF(k:Int)(hb:U b):iQ (pM c k b):=by
 refine(Tree.post (N7 c k b) (W:=iQ) ?_)
 unfold N7
 refine aq λ_ _=>aq λ_ _=>⟨h.x,h.a1,?_⟩
 intro w hw
 simp only[A8.l,cQ,cR,or_false]at hw
 rcases hw with rfl|rfl|rfl|rfl|rfl|rfl|rfl|rfl
 ·exact nE _ _
 ·exact h.a1
 ·exact h.pc
 ·exact fp _
 ·exact hb
 ·exact h.a5
 ·exact h.a6
 ·exact h.a7
theorem xW:iQ (Th c):=by
 refine(Tree.post (N9 c) (W:=iQ) ?_)
 unfold N9
 refine aq λ_ _=>aq λ_ _=>⟨h.x,h.a2,?_⟩
 intro w hw
 simp only[A8.l,cQ,cR,or_false]at hw
 rcases hw with rfl|rfl|rfl|rfl|rfl|rfl|rfl|rfl
 ·exact nE _ _
 ·exact h.a1
 ·exact h.a2
 ·exact h.a3
 ·exact h.a4
 ·exact h.a5
 ·exact h.a6
 ·exact h.a7
theorem Et(r:Int)(hv:U v):(IG c r v).w iQ:=by
 unfold IG
 refine ab (λh1=>ab (λh2=>ax ?_ ⟨W9 h.x hv _,h.pc,h.jr⟩) (λ_=>h)) (λ_=>h)
 have h1:=oY h1
 have h2:=oY h2
 simp[bN];omega
theorem xay(k:Int)(hv:U v):(Li c k v).w iQ:=by
 have ok:∀i v,U v->iQ {X:=c.X,Pc:=c.Pc,C3:=A8.of 0 (dB (A8.l c.C3) i v)}:=λi v hv=>⟨h.x,h.pc,Zjt h.jr hv i⟩
 unfold Li
 repeat'(first
  |exact h
  |exact ok _ _ (fp _)
  |exact ok _ _ hv
  |refine ab (λhk=>?_) (λ_=>?_)
  |refine ax (by rw[eq_of_beq (by assumption:(k==_)=true)];decide) ?_)
end
section
variable {P:Nat} {m:List Int} (h:ep P m)
include h
theorem Zgb(a:Int)(hs:size=1\/size=4):(IC m a size).w (λb=>b=true->a<128*P):=by
 have hp:=DG h
 have h2:=h.p2
 have e:decide (wrap u32 size≠0)=true:=by rcases hs with rfl|rfl<;>decide
 have l:∀x,x=wq m->decide (a<wrap u32 (wrap i64 (128*x)))=true->a<128*P:=λx hx hd=>by
  rw[hx,hp,wrap_u32,wrap_i64]at hd
  have:=oY hd
  omega
 unfold IC
 refine ab (λ_=>ab (λ_=>λh=>by cases h) (λ_=>?_)) (λ_=>?_)<;>
 exact ax e (ab (λ_=>aq λx hx=>l x hx) (λ_=>λh=>by cases h))
theorem idx{a:Int}(ha:U a)(hl:a<128*P):(bX 1 1&&bN 0 1&&decide (0<=wrap u32 (eF a 4)/\wrap u32 (eF a 4)<(m.length:Int)))=true:=by
 obtain⟨a1,a2⟩:=ha
 have e:wrap u32 (eF a 4)=a/4:=by rw[wrap_u32,eG a1];omega
 have:=h.len
 rw[e];simp[bN];omega
theorem Oh{a:Int}(ha:U a)(hs:size=1\/size=4):(DI m a size).w (λr=>U r.1):=by
 obtain⟨g1,g2⟩:=Tree.pp (Zgb h a hs)
 unfold DI
 refine c6 g1 (aq λx hx=>ab (λ_=>gj) (λhb=>?_))
 have hb:x=true:=by simpa using hb
 have hl:=g2 (hx.symm.trans hb)
 refine ax (idx h ha hl) (ab (λ_=>ax (dY (fp _).1) (fp _)) (λ_=>AV h.u _))
theorem qaM{a:Int}(ha:U a)(access:Int):(Lb m a access).w (ep P):=by
 obtain⟨g1,g2⟩:=Tree.pp (Zgb h a (size:=4) (.inr rfl))
 have hs:∀{m:List Int} i v,ep P m->U v->ep P (m.set i v):=λi v h hv=>⟨by simp[h.len],h.p1,h.p2,Ew h.u hv i⟩
 unfold Lb
 refine c6 g1 (aq λx hx=>ab (λ_=>h) (λhb=>?_))
 have hb:x=true:=by simpa using hb
 have hl:=g2 (hx.symm.trans hb)
 have i0:=idx h ha hl
 have h':=hs (Int.toNat (wrap u32 (eF a 4))) (iM u32 (m.getD (Int.toNat (wrap u32 (eF a 4))) 0) 8) h (nE _ _)
 have i1:=idx h' ha hl
 exact ax i0 (ax i0 (ab (λ_=>ax i1 (ax i1 (hs _ _ h' (nE _ _)))) (λ_=>h')))
theorem qab(hr:U root)(hv:U va)(access:Int):(GF m root va access).w (λt=>U t.Addr/\U t.G1/\(t.G0=0->t.Addr<128*P)):=by
 have hp:=DG h
 have h2:=h.p2
 have hlen:=h.len
 obtain⟨r1,r2⟩:=hr
 obtain⟨v1,v2⟩:=hv
 unfold GF
 refine aq λx0 nO=>aq λx1 o7=>aq λx2 _=>?_
 have hc:x0≠0:=by
  rw[nO]
  simp only[Ca,Lh,Tree.m]
  cases access==1<;>cases access==3<;>simp
 rw[hp]at o7
 have bad:U (0:Int)/\U (0:Int)/\(x0=0->(0:Int)<128*P):=⟨gj,gj,λe=>absurd e hc⟩
 refine ab (λ_=>bad) (λ_=>ab (λ_=>bad) (λDK=>ab (λ_=>bad) (λDx=>?_)))
 have DK:=oN DK
 have Dx:=oN Dx
 have e1:wrap u32 x1=P:=by rw[o7,wrap_u32];omega
 rw[e1]at Dx
 have e2:wrap u32 (wrap u32 (root*128)+wrap u32 (4*wrap u32 (eF va 128)))=root*128+4*(va/128):=by
  rw[eG v1,wrap_u32,wrap_u32,wrap_u32,wrap_u32];omega
 have hU:U (wrap u32 (wrap u32 (root*128)+wrap u32 (4*wrap u32 (eF va 128)))):=fp _
 have ci:=idx h hU (by rw[e2];omega)
 have gh:∀w:Int,decide (bb u32 w 255>=wrap u32 x1)=false->(U (wrap u32 (wrap u32 (bb u32 w 255*128)+cZ va 128))/\U (wrap u32 (wrap u32 (root*128)+wrap u32 (4*wrap u32 (eF va 128))))/\((0:Int)=0->wrap u32 (wrap u32 (bb u32 w 255*128)+cZ va 128)<128*P)):=λw hw=>by
  have hw:=oN hw
  rw[e1]at hw
  have hn:=(K9 w 255).1
  refine⟨fp _,fp _,λ_=>?_⟩
  rw[Int.tmod_eq_emod_of_nonneg v1,wrap_u32,wrap_u32]
  generalize bb u32 w 255=q at*
  omega
 refine ax ci ?_
 repeat'(first
  |exact bad
  |exact gh _ (by assumption)
  |refine ab (λ_=>?_) (λ_=>?_)
  |refine ax ci ?_)
theorem Tl(hc:iQ c)(hv:U va)(hs:size=1\/size=4)(access:Int):(IH c m va size access).w (λr=>ep P r.2.2/\U r.1/\(r.2.1=0->r.1<128*P)):=by
 have e:decide (wrap u32 size≠0)=true:=by rcases hs with rfl|rfl<;>decide
 obtain⟨g1,g2⟩:=Tree.pp (Zgb h va hs)
 obtain⟨k1,k2⟩:=Tree.pp (qab h hc.a6 hv access)
 have bad:∀k:Int,k≠0->ep P m/\U (0:Int)/\(k=0->(0:Int)<128*P):=λk hk=>⟨h,gj,λe=>absurd e hk⟩
 have hca:Ca access≠0:=by
  simp only[Ca,Lh,Tree.m]
  cases access==1<;>cases access==3<;>simp
 unfold IH
 refine aq λx0 _=>ab (λ_=>bad 5 (by decide)) (λ_=>ab (λh1=>ab (λh2=>?_) (λ_=>?_)) (λ_=>?_))
 ·exact bad 5 (by decide)
 all_goals(
  refine ax e (ab (λ_=>bad 3 (by decide)) (λ_=>aq λx1 _=>ab (λ_=>c6 g1 (aq λx2 Iz=>ab (λ_=>aq λx3 hx3=>bad x3 (by rw[hx3];exact hca)) (λhb=>?_))) (λ_=>c6 k1 (aq λx4 hx4=>ab (λhb=>?_) (λhb=>?_)))))
  ·have hb:x2=true:=by simpa using hb
   exact⟨h,hv,λ_=>g2 (Iz.symm.trans hb)⟩
  ·exact bad _ (by simpa using hb)
  ·obtain⟨t1,t2,t3⟩:=k2
   rw[show(GF m c.C3.a6 va access).m=x4 from hx4.symm]at t1 t2 t3
   obtain⟨m1,m2⟩:=Tree.pp (qaM h t2 access)
   refine c6 m1 (aq λx5 hx5=>?_)
   exact⟨hx5▸m2,t1,λ_=>t3 (by simpa using hb)⟩)
end
theorem xA{r:Int}(h:KY r=true):0<=r/\r<16:=by
 simp only[KY,Tb,Tree.m]at h
 cases h1:decide (r>=0)<;>rw[h1]at h
 ·cases h
 ·have h1:=oY h1
  have h:=oY h
  omega
theorem zW(hi:wrap .i64 i.cf=i.cf)(h:EG i=true):sA i:=by
 have no:false=true->sA i:=λh=>by cases h
 refine(Tree.post (NY i) (W:=λb=>b=true->sA i) ?_) h
 unfold NY
 refine aq λx0 h0=>ab (λ_=>no) (λ_=>aq λx1 h1=>ab (λ_=>no) (λb1=>aq λx2 h2=>ab (λ_=>no) (λb2=>aq λx3 h3=>ab (λ_=>no) (λb3=>aq λx4 h4=>ab (λ_=>no) (λb4=>ab (λ_=>no) (λb5=>?_))))))
 have b1:x1=true:=by simpa using b1
 have b2:x2=true:=by simpa using b2
 have b3:x3=true:=by simpa using b3
 have b4:=oN b4
 have b5:=oN b5
 rw[hi]at b4 b5
 have ok:sA i:=⟨xA (h1.symm.trans b1),xA (h2.symm.trans b2),xA (h3.symm.trans b3),λe=>by
  rw[e]at h0
  have h0:x0=8:=h0
  subst h0
  have h4:x4=(0,7):=h4
  subst h4
  simp at b4 b5;omega⟩
 repeat'(first
  |exactλ_=>ok
  |exact no
  |refine ab (λ_=>?_) (λ_=>?_))
theorem Zpc(w:Int):(K0 w).w (λr=>r.2=true->sA r.1):=by
 have no:∀{p:Prop},false=true->p:=λh=>by cases h
 have e:∀x,wrap .i64 (wrap .i32 x)=wrap .i32 x:=λx=>by rw[wrap_i64,wrap_i32];omega
 have ok:∀i,wrap .i64 i.cf=i.cf->∀x,x=EG i->(!x)=false->true=true->sA i:=λi hi x hx hb _=>zW hi (hx.symm.trans (by simpa using hb))
 unfold K0
 refine aq λx0 _=>?_
 have l:∀i,wrap .i64 i.cf=i.cf->(Tree.lv (EG i) λx=>.br (!x) (.lf ((⟨0,0,0,0,0⟩:ib),false)) (.lf (i,true))).w (λr=>r.2=true->sA r.1):=λi hi=>aq λx hx=>ab (λ_=>no) (λhb=>ok i hi x hx hb)
 refine ab (λ_=>no) (λ_=>ab (λ_=>l _ rfl) (λ_=>ab (λ_=>l _ (e _)) (λ_=>ab (λ_=>l _ (e _)) (λ_=>l _ (e _)))))
theorem Rk(b:Bool):U (Cb b):=by cases b<;>exact⟨by decide,by decide⟩
theorem Zpp{a b:Int}(ha:U a)(hb:U b):(Lg a b).w (λr=>U r.1/\U r.2):=by
 unfold Lg
 refine ab (λ_=>⟨⟨by omega,by omega⟩,ha⟩) (λh=>?_)
 have h:¬b=0:=by simpa using h
 obtain⟨b1,b2⟩:=hb
 have hc:decide (wrap i64 (wrap i32 b)≠0)=true:=dY (by rw[wrap_i64,wrap_i32];omega)
 exact ax hc (ax hc ⟨fp _,fp _⟩)
theorem Hu(op:Int){a b:Int}(ha:U a)(hb:U b):(Rl op a b).w (λr=>U r.1):=by
 unfold Rl
 refine aq λx0 _=>?_
 repeat'(first
  |exact fp _
  |exact Ak ha _
  |exact gj
  |refine ab (λ_=>?_) (λ_=>?_)
  |exact cv (Zpp ha hb) λx hx=>hx.1
  |exact cv (Zpp ha hb) λx hx=>hx.2
  |exact aq λx hx=>(by rw[hx];exact Rk _))
theorem zA(hx:U x):(Rm x 8).w U:=by
 unfold Rm
 have h0:decide (0<=wrap u64 8)=true:=by decide
 refine ab (λh=>absurd h (by decide)) λ_=>ab (λh=>absurd h (by decide)) λ_=>ax h0 (ax (by decide) (ab (λ_=>ax h0 (nE _ _)) (λ_=>K9 _ _)))
section
variable {c:bu} (h:iQ c) {i:ib} (hi:sA i)
include h hi
theorem yW:(Rn c i).w (λr=>iQ r.1/\U r.2.Value):=by
 unfold Rn
 refine ab (λ_=>aq λx hx=>⟨hx▸JF h _ gj,gj⟩) (λ_=>ab (λ_=>aq λx hx=>⟨hx▸xW h,gj⟩) (λ_=>ab (λe=>ax ?_ (cv (Et h _ (h.a _)) λx hx=>⟨hx.AE (fp _),gj⟩)) (λ_=>ab (λ_=>ax (rc hi.a) (cv (xay h _ (h.r _)) λx hx=>⟨hx.AE (fp _),gj⟩)) (λ_=>?_))))
 ·have:=hi.jr (by simpa using e)
  simp[bN];omega
 ·have k:=h.AE (fp (c.Pc+4))
  repeat'(first
   |exact⟨k,gj⟩
   |exact⟨k,h.r _⟩
   |refine ab (λ_=>?_) (λ_=>?_)
   |refine ax (rc hi.a) ?_)
theorem zaM:(Ro c i).w iQ:=by
 unfold Ro
 exact ab (λ_=>cv (Et h _ (fp _)) λx hx=>hx.AE (fp _)) (λ_=>ab (λ_=>ax (rc hi.b) (cv (Et h _ (fp _)) λx hx=>hx.AE (fp _))) (λ_=>ax (rc hi.a) (ax (rc hi.b) (aq λx _=>ab (λ_=>h.AE (fp _)) (λ_=>h.AE (fp _))))))
theorem Zsw(hm:ep P m):(Rp c m i).w (λr=>iQ r.1/\ep P r.2):=by
  unfold Rp
  refine ax (rc hi.b) ?_
  have e1:(1:Int)=1\/(1:Int)=4:= .inl rfl
  have e4:(4:Int)=1\/(4:Int)=4:= .inr rfl
  repeat'(first
    |refine ab (λ_=> ?_) (λ_=> ?_)
    | (refine cv (Tl hm h (fp _) e4 _) λx hx=> ?_
       obtain⟨m1,m2,m3⟩:=hx
       refine ab (λ_=>aq λy hy=>⟨hy▸JF h _ (fp _),m1⟩) (λhb=> ?_)
       have m3:=m3 (by simpa using hb)
       have m4:x.1<4*x.2.2.length:=by rw[m1.len];omega
       clear hb)
    | (refine cv (Tl hm h (fp _) e1 _) λx hx=> ?_
       obtain⟨m1,m2,m3⟩:=hx
       refine ab (λ_=>aq λy hy=>⟨hy▸JF h _ (fp _),m1⟩) (λhb=> ?_)
       have m3:=m3 (by simpa using hb)
       have m4:x.1<4*x.2.2.length:=by rw[m1.len];omega
       clear hb)
    |exact ax (rc hi.a) (cv (Rj (by assumption) (by assumption) (by assumption) (h.r _)) λy hy=>⟨h.AE (fp _),hy⟩)
    |(refine cv (Oh (by assumption) (by assumption) e4) λy hy=> ?_)
    |(refine cv (Oh (by assumption) (by assumption) e1) λy hy=> ?_)
    |exact cv (zA (by assumption)) λz hz=>cv (Et h _ hz) λu hu=>⟨hu.AE (fp _),by assumption⟩
    |exact cv (Et h _ (by assumption)) λu hu=>⟨hu.AE (fp _),by assumption⟩)
end
theorem Nn(h:iQ c)(hm:ep P m):(Rq c m).w (λr=>iQ r.1/\U r.2.1.Value/\ep P r.2.2):=by
 unfold Rq
 refine cv (Tl hm h h.pc (.inr rfl) 1) λx0 hx=>?_
 obtain⟨m1,m2,m3⟩:=hx
 refine ab (λ_=>aq λy hy=>⟨hy▸JF h _ h.pc,gj,m1⟩) (λhb=>?_)
 refine cv (Oh m1 m2 (.inr rfl)) λx2 h2=>SU (Zpc _) λx3 h3=>ab (λ_=>aq λy hy=>⟨hy▸JF h _ h2,gj,m1⟩) (λb3=>?_)
 have hi:=h3 (by simpa using b3)
 refine aq λx5 _=>?_
 repeat'(first
  |refine ab (λ_=>?_) (λ_=>?_)
  |exact aq λy hy=>⟨hy▸JF h _ h2,gj,m1⟩
  |exact cv (yW h hi) λy hy=>⟨hy.1,hy.2,m1⟩
  |exact cv (zaM h hi) λy hy=>⟨hy,gj,m1⟩
  |exact cv (Zsw h hi m1) λy hy=>⟨hy.1,gj,hy.2⟩
  |exact cv (Et h _ (fp _)) λy hy=>⟨hy.AE (fp _),gj,m1⟩
  |refine ax (rc hi.c) ?_
  |refine ax (rc hi.b) ?_
  |exact cv (Hu _ (h.r _) (h.r _)) λy hy=>cv (Et h _ hy) λz hz=>⟨hz.AE (fp _),gj,m1⟩
  |exact cv (Hu _ (h.r _) (fp _)) λy hy=>cv (Et h _ hy) λz hz=>⟨hz.AE (fp _),gj,m1⟩)
theorem EJ{q:Int}(h:U q):bb .u32 q 1=q%2:=by
 obtain⟨h1,h2⟩:=h
 unfold bb
 rw[wrap_u32]
 have e1:(dR 32 q).toNat=q.toNat:=by rw[BitVec.toNat_ofInt];omega
 have e2:(dR 32 1).toNat=1:=by decide
 have:(dR u32.bits q&&&dR u32.bits 1).toNat=q.toNat%2:=by
  show(dR 32 q&&&dR 32 1).toNat=_
  rw[dU,e1,e2,Nat.and_one_is_mod]
 rw[this];omega
theorem Rr(b:Bool)(n:Int):(Rs b n).w (λ_=>True):=by
 unfold Rs
 exact ab (λ_=>ax (dY (by rw[wrap_u64];omega)) trivial) (λ_=>trivial)
theorem qaz(m:bg):(Rt m).w (λ_=>True):=by
 unfold Rt
 exact aq λ_ _=>cv (Rr _ _) λ_ _=>aq λ_ _=>cv (Rr _ _) λ_ _=>aq λ_ _=>cv (Rr _ _) λ_ _=>aq λ_ _=>cv (Rr _ _) λ_ _=>aq λ_ _=>cv (Rr _ _) λ_ _=>trivial
theorem Zjx(m:bg):(Lx m).w U:=by
 unfold Lx
 exact cv (qaz m) λ_ _=>K9 _ _
theorem zab(m:bg):(Lz m).w (λ_=>True):=by
 unfold Lz
 exact ab (λ_=>cv (Zjx m) λ_ _=>trivial) (λ_=>trivial)
theorem zaz(m:bg):(IN m).w (λ_=>True):=by
 unfold IN
 exact aq λ_ _=>ab (λ_=>trivial) (λ_=>ab (λ_=>trivial) (λ_=>cv (zab m) λ_ _=>ab (λ_=>trivial) (λ_=>trivial)))
theorem Qwj{m:bg}(h:iQ m.B2):(LA m).w iQ:=by
 unfold LA
 refine cv (Zjx m) λx0 hx=>ab (λ_=>h) (λ_=>ab (λ_=>h) (λhb=>?_))
 have hb:x0≠0:=by simpa using hb
 have sh:∀z:Int,0<=z->z<=31->bc .u32 x0 (wrap .u64 z)=x0/2^z.toNat:=λz h1 h2=>by
  unfold bc
  have e:min (wrap .u64 z).toNat u32.bits=z.toNat:=by
   show min (wrap .u64 z).toNat 32=z.toNat
   rw[wrap_u64];omega
  rw[e,dJ _ (dK (dI (by decide)))]
 refine fj (inv:=λz=>0<=z/\z<=31/\x0/2^z.toNat≠0) (μ:=Qez m) ⟨by omega,by omega,by simpa using hb⟩ (cN _) (λz hz=>?_)
 obtain⟨z1,z2,z3⟩:=hz
 refine ax (dY (by rw[wrap_u64];omega)) (ab (λe=>ei ?_) (λ_=>aq λy hy=>hy▸JF h _ gj))
 have e:=eq_of_beq e
 have hq:=Ak hx (wrap .u64 z)
 rw[EJ hq,sh z z1 z2]at e
 rw[sh z z1 z2]at hq
 have bh:x0/2^z.toNat/2≠0:=by omega
 have z4:z<=30:=by
  rcases Int.lt_or_le z 31 with h|h
  ·omega
  ·have:z=31:=by omega
   subst this
   have:=hx.2
   have:=hx.1
   simp at z3 e bh
   omega
 show(0<=i64.wrap (z+1)/\i64.wrap (z+1)<=31/\x0/2^(i64.wrap (z+1)).toNat≠0)/\(32-i64.wrap (z+1)).toNat<(32-z).toNat
 have ew:i64.wrap (z+1)=z+1:=by rw[wrap_i64];omega
 rw[ew]
 refine⟨⟨by omega,by omega,?_⟩,by omega⟩
 have et:(z+1).toNat=z.toNat+1:=by omega
 rw[et,Int.pow_succ,<-Int.ediv_ediv_of_nonneg (dK (dI (by decide)))]
 exact bh
theorem xaz{m:bg}(h:iQ m.B2)(hm:ep P m.Mem):(Ru m).w (λ_=>True):=by
 unfold Ru
 refine cv (Qwj h) λx0 hx=>ab (λ_=>trivial) (λ_=>cv (Oh hm hx.pc (.inr rfl)) λx1 _=>aq λx2 _=>?_)
 exact ab (λ_=>ab (λ_=>ab (λ_=>trivial) (λ_=>trivial)) (λ_=>trivial)) (λ_=>trivial)
theorem NG(l:List Int):(bytesOf l).length=l.length:=by simp[bytesOf]
theorem Td(l:List UInt8):(o8 l).length=l.length:=by simp[o8]
theorem Rv(x:Int):(Mr x 4).w (λr=>r.length=4):=by
 unfold Mr
 refine fj (inv:=λz=>0<=z.1/\z.1<=4/\(z.2.length:Int)=z.1) (μ:=Vd x 4) ⟨by omega,by omega,rfl⟩ (cN _) (λz hz=>?_)
 obtain⟨z1,z2,z3⟩:=hz
 refine ab (λh=>ax (dY (by rw[wrap_u64];omega)) (ax (dY (by omega)) (ei ?_))) (λh=>?_)
 ·have h:=oY h
  show(0<=i64.wrap (z.1+1)/\i64.wrap (z.1+1)<=4/\((z.2++[_]).length:Int)=i64.wrap (z.1+1))/\(4-i64.wrap (z.1+1)).toNat<(4-z.1).toNat
  have ew:i64.wrap (z.1+1)=z.1+1:=by rw[wrap_i64];omega
  rw[ew]
  refine⟨⟨by omega,by omega,by simp;omega⟩,by omega⟩
 ·have h:=oN h
  show(bytesOf z.2).length=4
  rw[NG];omega
theorem xab(hm:ep P m)(frame:Int):(GC m frame).w (λr=>0<=frame->frame<P->r.1.length=128):=by
 have hp:=DG hm
 have hl:=hm.len
 have h2:=hm.p2
 unfold GC
 refine ab (λh=>λh0 _=>by have:=oY h;omega) (λh=>aq λx0 hx=>ab (λh1=>λ_ h2=>by have:=oY h1;rw[hx,hp]at this;omega) (λh1=>?_))
 have h:=oN h
 have h1:=oN h1
 rw[hx,hp]at h1
 refine fj (inv:=λz=>0<=z.1/\z.1<=32/\(z.2.length:Int)=4*z.1) (μ:=Xk m frame) ⟨by omega,by omega,rfl⟩ (cN _) (λz hz=>?_)
 obtain⟨z1,z2,z3⟩:=hz
 refine ab (λhb=>?_) (λhb=>?_)
 ·have hb:=oY hb
  have e:wrap i64 (wrap i64 (frame*32)+z.1)=frame*32+z.1:=by rw[wrap_i64,wrap_i64];omega
  refine ax (by rw[e];simp[bN];omega) (c6 (show(4:Int)<=1000000000000 by decide) (SU (Rv _) λx1 h4=>ax (dY (by rw[Td,h4];omega)) (ei ?_)))
  show(0<=i64.wrap (z.1+1)/\i64.wrap (z.1+1)<=32/\((z.2++o8 x1).length:Int)=4*i64.wrap (z.1+1))/\(32-i64.wrap (z.1+1)).toNat<(32-z.1).toNat
  have ew:i64.wrap (z.1+1)=z.1+1:=by rw[wrap_i64];omega
  rw[ew,lA,Td,h4]
  exact⟨⟨by omega,by omega,by omega⟩,by omega⟩
 ·have hb:=oN hb
  intro _ _
  show(bytesOf z.2).length=128
  rw[NG];omega
theorem yA(hm:ep P m)(hd:Ah d)(port:Int)(hv:U v)(gk:Int):(Lm d m port v gk).w (λr=>Ah r.1/\r.2.length<=1):=by
 have k:∀st,Ah {ae:=d.ae,C8:=d.C8,Frame:=d.Frame,C9:=st,F6:=d.F6,C5:=d.C5,C6:=d.C6,C7:=d.C7}:=λst=>⟨hd.block,hd.frame,hd.ko,hd.kp⟩
 have k2:∀c o,Ah {ae:=d.ae,C8:=d.C8,Frame:=d.Frame,C9:=1,F6:=c,C5:=d.C8,C6:=d.Frame,C7:=o}:=λc o=>⟨hd.block,hd.frame,hd.block,hd.frame⟩
 have k3:Ah {ae:=d.ae,C8:=v,Frame:=d.Frame,C9:=d.C9,F6:=d.F6,C5:=d.C5,C6:=d.C6,C7:=d.C7}:=⟨hv,hd.frame,hd.ko,hd.kp⟩
 have k4:Ah {ae:=d.ae,C8:=d.C8,Frame:=v,C9:=d.C9,F6:=d.F6,C5:=d.C5,C6:=d.C6,C7:=d.C7}:=⟨hd.block,hv,hd.ko,hd.kp⟩
 unfold Lm
 repeat'(first
  |refine ab (λ_=>?_) (λ_=>?_)
  |exact cv (xab hm _) λ_ _=>aq λ_ _=>⟨k2 _ _,aX _⟩
  |refine aq (λ_ _=>?_)
  |refine bj ?_)
 all_goals(first
  |exact⟨hd,bC _⟩
  |exact⟨k _,bC _⟩
  |exact⟨k2 _ _,aX _⟩
  |exact⟨k3,bC _⟩
  |exact⟨k4,bC _⟩)
theorem vW(hm:ep P m)(hn:uh n)(port:Int)(hv:U v)(gk:Int):(Ln n m port v gk).w (λr=>uh r.1/\r.2.length<=1):=by
 have k1:uh {Frame:=v,F7:=n.F7,D2:=n.D2,D4:=n.D4,C4:=n.C4,F8:=n.F8}:=⟨hv,hn.len,hn.buffer,hn.Gw⟩
 have k2:uh {Frame:=n.Frame,F7:=v,D2:=n.D2,D4:=n.D4,C4:=n.C4,F8:=n.F8}:=⟨hn.frame,hv,hn.buffer,hn.Gw⟩
 have k3:uh {Frame:=n.Frame,F7:=n.F7,D2:=n.D2,D4:=n.D4,C4:=false,F8:=0}:=⟨hn.frame,hn.len,hn.buffer,gj⟩
 have k4:∀p r,uh {Frame:=n.Frame,F7:=n.F7,D2:=p,D4:=n.Frame,C4:=r,F8:=n.F8}:=λp r=>⟨hn.frame,hn.len,hn.frame,hn.Gw⟩
 have send:∀K:List UInt8×Bool->Tree (gz×List iq),tB m n.Frame=true->(∀x:List UInt8×Bool,x.1.length=128->(K x).w (λr=>uh r.1/\r.2.length<=1))->(Tree.an (Qik m (wrap .i64 n.Frame)) (.lv (K1 m (wrap .i64 n.Frame)) K)).w (λr=>uh r.1/\r.2.length<=1):=λK hp hK=>by
  rw[Ty hm hn.frame]at hp
  have hp:=oY hp
  obtain⟨f1,f2⟩:=hn.frame
  have ew:i64.wrap n.Frame=n.Frame:=by rw[wrap_i64];omega
  exact cv (xab hm _) λx hx=>hK x (hx (by rw[ew];exact f1) (by rw[ew];exact hp))
 unfold Ln
 repeat'(first
  |refine ab (λ_=>?_) (λ_=>?_)
  |refine send _ (by simp_all) (λx hx=>ax (by simp_all;exact hn.len.1) ?_)
  |refine aq (λ_ _=>?_)
  |refine bj ?_)
 all_goals(first
  |exact⟨hn,bC _⟩
  |exact⟨hn,aX _⟩
  |exact⟨k1,bC _⟩
  |exact⟨k2,bC _⟩
  |exact⟨k3,bC _⟩
  |exact⟨k4 _ _,bC _⟩)
def okB(b:gm):Prop:=U b.A2/\U b.D0
theorem xaM(hm:ep P m){b:gm}(hb:okB b)(port:Int)(hv:U v):(AX b m port v).w (λr=>okB r.1/\ep P r.2):=by
 have Dz:decide (0<=v)=true:=dY hv.1
 have h2:=hm.p2
 have rest:(Tree.br (port==11) (.br (decide (v<32)) (.cn (decide (0<=v)) (.lf (({A2:=b.A2,D0:=oJ .u32 b.D0 (eu .u32 1 v)}:gm),m))) (.lf (b,m))) (.lf (b,m))).w (λr=>okB r.1/\ep P r.2):=
  ab (λ_=>ab (λ_=>ax Dz ⟨⟨hb.1,fp _⟩,hm⟩) (λ_=>⟨hb,hm⟩)) (λ_=>⟨hb,hm⟩)
 unfold AX
 refine ab (λ_=>aq λx0 hx=>ab (λhp=>ax Dz (ab (λ_=>ax Dz ?_) (λ_=>rest))) (λ_=>rest)) (λ_=>rest)
 have hp:tB m v=true:=hx.symm.trans hp
 rw[Ty hm hv]at hp
 have hp:=oY hp
 obtain⟨v1,v2⟩:=hv
 refine fj (inv:=λz=>0<=z.1/\z.1<=32/\ep P z.2) (μ:=XN b m port v) ⟨by omega,by omega,hm⟩ (cN _) (λz hz=>?_)
 obtain⟨z1,z2,z3⟩:=hz
 have hl:=z3.len
 refine ab (λh=>?_) (λ_=>⟨⟨hb.1,fp _⟩,z3⟩)
 have h:=oY h
 have e:wrap i64 (wrap i64 (wrap i64 v*32)+z.1)=v*32+z.1:=by rw[wrap_i64,wrap_i64,wrap_i64];omega
 refine ax (by rw[e];simp[bN];omega) (ei ?_)
 show(0<=i64.wrap (z.1+1)/\i64.wrap (z.1+1)<=32/\ep P (dB _ _ _))/\(32-i64.wrap (z.1+1)).toNat<(32-z.1).toNat
 have ew:i64.wrap (z.1+1)=z.1+1:=by rw[wrap_i64];omega
 rw[ew]
 exact⟨⟨by omega,by omega,⟨by simp[hl],z3.p1,z3.p2,Ew z3.u gj _⟩⟩,by omega⟩
structure rJ(P:Nat)(m:bg):Prop where
 oh:iQ m.B2
 mem:ep P m.Mem
 mn:Ah m.B5
 wm:uh m.D1
 target:okB m.A6
 tw:0<=m.B7
theorem Zok(c:iH)(port:Int):U (Ll c port).2:=by
 refine Tree.post (GI c port) (W:=λr=>U r.2) ?_
 have u1:U 4294967295:=⟨by omega,by omega⟩
 unfold GI
 refine ab (λ_=>ab (λ_=>u1) (λh=>ab (λ_=>ax ?_ (ax ?_ (fp _))) (λ_=>ab (λ_=>fp _) (λ_=>gj)))) (λh1=>ab (λh=>(by rw[h1]at h;cases h)) (λ_=>ab (λ_=>fp _) (λ_=>gj)))
 ·have h:¬(c.E0.length:Int)=0:=by simpa using h
  exact dY ⟨by omega,by omega,by omega⟩
 ·have h:¬(c.E0.length:Int)=0:=by simpa using h
  simp[bN];omega
theorem qaA(h:uh n)(port:Int):U (To n port):=by
 refine Tree.post (Oi n port) (W:=U) ?_
 have u1:U 1:=⟨by omega,by omega⟩
 unfold Oi
 exact ab (λ_=>h.frame) (λ_=>ab (λ_=>h.Gw) (λ_=>ab (λ_=>ab (λ_=>ab (λ_=>fp _) (λ_=>u1)) (λ_=>ab (λ_=>fp _) (λ_=>gj))) (λ_=>gj)))
theorem qX(h:Ah d)(port:Int):U (XX d port):=by
 refine Tree.post (Ve d port) (W:=U) ?_
 unfold Ve
 exact ab (λ_=>h.block) (λ_=>ab (λ_=>h.frame) (λ_=>ab (λ_=>fp _) (λ_=>gj)))
theorem vA(t:iV):U (XY t):=by
 refine Tree.post (Vf t) (W:=U) ?_
 unfold Vf
 exact ab (λ_=>⟨by omega,by omega⟩) (λ_=>gj)
theorem Znq{b:gm}(h:U b.A2)(port:Int):U (Lp b port):=by
 refine Tree.post (Lq b port) (W:=U) ?_
 unfold Lq
 exact ab (λ_=>h) (λ_=>ab (λ_=>aq λ_ _=>fp _) (λ_=>gj))
theorem w0(x:Int):0<=u64.wrap x:=by rw[wrap_u64];omega
section
end
section

import Derived.Test.YthjfindbamdacaaGreatDoorAuditFindsZx
open List renaming set->dG,mem_cons->cS,not_mem_nil->cU
open Nat renaming blt->bJ,beq->bT,lt_succ_self->cO,le_refl->aO,zero_le->aT
open Int renaming pow_pos->dO,le_of_lt->dQ,fdiv_eq_ediv_of_nonneg->dP,tmod->dE,mul_tmod_right->hH,mul_tdiv_cancel_left->hJ,tdiv->eU,tdiv_eq_ediv_of_nonneg->eV,emod_eq_of_lt->dM,lt_of_lt_of_le->hY,le_of_eq->hZ
open BitVec renaming ofInt->dW,toNat_and->eA
set_option maxRecDepth 100000
set_option linter.all false
namespace Go.Proofs.YthjfindbamdacaaGreatDoor
open Go Go.GD
open Go.IntKind(wrap i64 u32 u64 u8 i32 wrap_i64 wrap_u32 wrap_u64 wrap_u8 wrap_i32)
def U(x:Int):Prop:=0<=x/\x<4294967296
theorem fi(x:Int):U (u32.wrap x):=by rw[wrap_u32];unfold U;omega
theorem I7(x y:Int):U (bf .u32 x y):=fi _
theorem mY(x y:Int):U (iq .u32 x y):=fi _
theorem ej:U 0:=⟨by omega,by omega⟩
theorem Z7{m:List Int}(h:∀w∈m,U w){v:Int}(hv:U v)(i:Nat):∀w∈m.set i v,U w:=by
 intro w hw
 rcases List.mem_or_eq_of_mem_set hw with h1|h1
 ·exact h w h1
 ·rw[h1];exact hv
structure ek(P:Nat)(m:List Int):Prop where
 len:m.length=32*P
 p1:0<=P
 p2:P<=32
 u:∀w∈m,U w
structure ox(d:fp):Prop where
 block:U d.C1
 frame:U d.Frame
 kj:U d.B6
 ib:U d.B2
structure pq(n:ia):Prop where
 frame:U n.Frame
 len:U n.E0
 buffer:U n.B9
 GJ:U n.F1
theorem AE{l:List Int}(h:∀w∈l,U w)(i:Nat):U (l.getD i 0):=by
 by_cases hi:i<l.length
 ·have:l.getD i 0=l[i]:=by simp[List.getD,hi]
  rw[this];exact h _ (List.getElem_mem hi)
 ·have:l.getD i 0=0:=by simp[List.getD,List.getElem?_eq_none (by omega:l.length<=i)]
  rw[this];exact ej
structure iw(c:bh):Prop where
 x:∀w∈iS.l c.X,U w
 pc:U c.Pc
 jo:∀w∈A8.l c.B4,U w
theorem Xg{X:iS Int}(h:∀w∈iS.l X,U w){v:Int}(hv:U v)(i:Nat):∀w∈iS.l (iS.of 0 (dG (iS.l X) i v)),U w:=by
 have hs:=Z7 h hv i
 intro w hw
 simp only[iS.l,iS.of,cS,cU,or_false]at hw
 repeat(first|(rcases hw with rfl|hw;· exact AE hs _)|(subst hw;exact AE hs _))
theorem Zio{X:A8 Int}(h:∀w∈A8.l X,U w){v:Int}(hv:U v)(i:Nat):∀w∈A8.l (A8.of 0 (dG (A8.l X) i v)),U w:=by
 have hs:=Z7 h hv i
 intro w hw
 simp only[A8.l,A8.of,cS,cU,or_false]at hw
 repeat(first|(rcases hw with rfl|hw;· exact AE hs _)|(subst hw;exact AE hs _))
section
variable {c:bh} (h:iw c)
include h
theorem iw.a(i:Nat):U ((A8.l c.B4).getD i 0):=AE h.jo i
theorem iw.r(i:Nat):U ((iS.l c.X).getD i 0):=AE h.x i
theorem iw.a0:U c.B4.a0:=h.a 0
theorem iw.a1:U c.B4.a1:=h.a 1
theorem iw.a2:U c.B4.a2:=h.a 2
theorem iw.a3:U c.B4.a3:=h.a 3
theorem iw.a4:U c.B4.a4:=h.a 4
theorem iw.a5:U c.B4.a5:=h.a 5
theorem iw.a6:U c.B4.a6:=h.a 6
theorem iw.a7:U c.B4.a7:=h.a 7
theorem iw.Bc{p:Int}(hp:U p):iw {X:=c.X,Pc:=p,B4:=c.B4}:=⟨h.x,hp,h.jo⟩
end
section
variable {α β:Type} {W:β->Prop} {t:Tree α} {Q:α->Prop} {k:α->Tree β}
theorem bm(hq:t.w Q)(g:∀x,Q x->(k x).w W):(Tree.an t.p (Tree.lv t.m k)).w W:=⟨(Tree.pp hq).1,λy hy=>g y (by rw[hy];exact(Tree.pp hq).2)⟩
theorem ND(hq:t.w Q)(g:∀x,Q x->(k x).w W):(Tree.lv t.m k).w W:=λy hy=>g y (by rw[hy];exact t.post hq)
end
theorem rc{r:Int}(h:0<=r/\r<16):(bJ 0 1&&decide (0<=r/\r<((16:Nat):Int)))=true:=by simp[bJ];omega
theorem AD{a:Int}(h:U a)(b:Int):U (bg .u32 a b):=by
 unfold bg U
 obtain⟨h1,h2⟩:=h
 have hp:(0:Int)<2^(min b.toNat u32.bits):=dO (by decide)
 have:=Int.fdiv_nonneg h1 (dQ hp)
 refine⟨this,?_⟩
 rw[dP _ (dQ hp)]
 have h3:=Int.ediv_le_self (2^(min b.toNat u32.bits)) h1
 omega
structure sJ(i:gu):Prop where
 a:0<=i.A/\i.A<16
 b:0<=i.B/\i.B<16
 c:0<=i.C/\i.C<16
 jo:i.Op=58->0<=i.bn/\i.bn<8
theorem Xy{P:Nat}{m:List Int}(h:ek P m):lR m=P:=by
 obtain⟨h1,h2,h3,_⟩:=h
 simp only[lR,K4,Tree.m]
 have e:(m.length:Int)=32*P:=by omega
 rw[e]
 have e1:(dE (32*(P:Int)) 32 !=0)=false:=by simp[hH]
 have e2:decide ((32*(P:Int))>1024)=false:=dN (by omega)
 rw[e1,e2]
 simp only[cond_false]
 rw[hJ _ (by decide),wrap_i64];omega
theorem v8(n:Int):(Ri n).w (λ_=>True):=by
 unfold Ri
 exact aa (λ_=>trivial) (λ_=>ba (dY (by rw[wrap_u64];omega)) trivial)
theorem MH(w low n:Int):(Rj w low n).w U:=by
 unfold Rj
 exact aa (λ_=>ej) (λ_=>aa (λ_=>ej) (λ_=>aa (λ_=>ej) (λ_=>ba (dY (by rw[wrap_u64];omega)) (bm (v8 n) λ_ _=>I7 _ _))))
theorem Zp6{w:Int}(hw:U w)(low n v:Int):(Rk w low n v).w U:=by
 have h0:decide (0<=wrap u64 low)=true:=dY (by rw[wrap_u64];omega)
 unfold Rk
 exact aa (λ_=>hw) (λ_=>aa (λ_=>hw) (λ_=>aa (λ_=>hw) (λ_=>bm (v8 n) λ_ _=>ba h0 (ba h0 (mY _ _)))))
theorem W9{x:Int}(hx:U x)(n:Int):(Rl x n).w U:=by
 have h0:∀y,decide (0<=wrap u64 y)=true:=λy=>dY (by rw[wrap_u64];omega)
 unfold Rl
 exact aa (λ_=>ej) (λ_=>aa (λ_=>hx) (λ_=>ba (h0 _) (ba (h0 _) (fi _))))
section
variable {P:Nat} {m:List Int} (h:ek P m)
include h
theorem rR:mJ m:=by
 have:=h.len
 have:=h.p2
 show m.length<=35184372088832
 omega
theorem Zg8{a:Int}(ha:U a){size:Int}(hs:size=1\/size=4):(Ja m a size).w (λb=>b=true->a+size<=128*P):=by
 have hp:=Xy h
 have h2:=h.p2
 obtain⟨a1,a2⟩:=ha
 have e:decide (wrap u32 size≠0)=true:=by rcases hs with rfl|rfl<;>decide
 have l:∀x,x=lR m->decide (wrap u64 (wrap u64 a+wrap u64 size)<=wrap u64 (wrap u64 x*128))=true->a+size<=128*P:=λx hx hd=>by
  rw[hx,hp]at hd
  have:=oY hd
  simp only[wrap_u64]at this
  omega
 unfold Ja
 refine aa (λ_=>aa (λ_=>λh=>by cases h) (λ_=>?_)) (λ_=>?_)<;>
 exact ba e (aa (λ_=>λh=>by cases h) (λ_=>ar λx hx=>l x hx))
theorem F7{a:Int}(ha:U a)(hl:a<128*P):(bT 1 1&&bJ 0 1&&decide (0<=wrap u32 (eU a 4)/\wrap u32 (eU a 4)<(m.length:Int)))=true:=by
 obtain⟨a1,a2⟩:=ha
 have e:wrap u32 (eU a 4)=a/4:=by rw[wrap_u32,eV a1];omega
 have:=h.len
 rw[e];simp[bJ];omega
theorem I1{a:Int}(ha:U a){size:Int}(hs:size=1\/size=4):(Lt m a size).w (λr=>U r.1/\(r.2=true->a<128*P)):=by
 unfold Lt
 refine bm (Zg8 h ha hs) λx hx=>aa (λ_=>⟨ej,λh=>by cases h⟩) (λhb=>?_)
 have hl:=hx (by simpa using hb)
 have hl:a<128*P:=by omega
 exact ba (F7 h ha hl) (aa (λ_=>bm (MH _ _ _) λy hy=>⟨hy,λ_=>hl⟩) (λ_=>⟨AE h.u _,λ_=>hl⟩))
theorem Tn{a:Int}(ha:U a){size:Int}(hs:size=1\/size=4){v:Int}(hv:U v):(Lv m a size v).w (λr=>ek P r.1):=by
 have st:∀i v,U v->ek P (m.set i v):=λi v hv=>⟨by simp[h.len],h.p1,h.p2,Z7 h.u hv i⟩
 have gm:jC m=m:=rfl
 unfold Lv
 refine cz (rR h) (ar λx0 nI=>?_)
 rw[gm]at nI;subst nI
 refine bm (Zg8 h ha hs) λx hx=>aa (λ_=>h) (λhb=>?_)
 have hl:=hx (by simpa using hb)
 have hl:a<128*P:=by omega
 exact aa (λ_=>ba (F7 h ha hl) (bm (Zp6 (AE h.u _) _ _ _) λy hy=>ba (F7 h ha hl) (st _ _ hy))) (λ_=>ba (F7 h ha hl) (st _ _ hv))
end
theorem Zko{r:Int}{used:Bool}(h:Ln r used=true):0<=r/\r<16:=by
 simp only[Ln,Ts,Tree.m]at h
 cases used
 ·have h:(r==0)=true:=h
  have:=eq_of_beq h;omega
 ·cases h1:decide (r>=0)<;>rw[h1]at h
  ·cases h
  ·have h1:=oY h1
   have h:=oY h
   omega
theorem zz{i:gu}(h:I6 i=true):sJ i:=by
 have no:false=true->sJ i:=λh=>by cases h
 refine(Tree.post (Oh i) (W:=λb=>b=true->sJ i) ?_) h
 unfold Oh
 refine ar λx0 h0=>aa (λ_=>ar λx1 h1=>aa (λb1=>ar λx2 h2=>aa (λb2=>ar λx3 h3=>aa (λb3=>aa (λb4=>λb5=>?_) (λ_=>no)) (λ_=>no)) (λ_=>no)) (λ_=>no)) (λ_=>no)
 have b4:=oY b4
 have b5:=oY b5
 refine⟨Zko (h1.symm.trans b1),Zko (h2.symm.trans b2),Zko (h3.symm.trans b3),λe=>?_⟩
 rw[e]at h0
 have h0:x0=({a:=true,b:=false,c:=false,low:=0,D6:=7},true):=h0
 subst h0
 simp at b4 b5;omega
theorem Xa(w:Int):(Lp w).w (λr=>r.2=true->sJ r.1):=by
 have no:∀{p:Prop},false=true->p:=λh=>by cases h
 have l:∀i,(Tree.lv (I6 i) λx=>.br (!x) (.lf ((⟨0,0,0,0,0⟩:gu),false)) (.lf (i,true))).w (λr=>r.2=true->sJ r.1):=λi=>ar λx hx=>aa (λ_=>no) (λhb=>λ_=>zz (hx.symm.trans (by simpa using hb)))
 unfold Lp
 exact bm (MH _ _ _) λx0 _=>bm (MH _ _ _) λx1 _=>bm (MH _ _ _) λx2 _=>ar λx3 _=>aa (λ_=>no) (λ_=>bm (MH _ _ _) λx4 h4=>aa (λ_=>l _) (λ_=>aa (λ_=>bm (W9 h4 _) λx6 _=>l _) (λ_=>l _)))
section
variable {P:Nat} {m:List Int} (h:ek P m)
include h
theorem xT{f:Int}(hf:U f):Om m f=decide (f<P):=by
 have:=Xy h
 obtain⟨h1,h2⟩:=hf
 have h3:=h.p2
 simp only[Om,Qhi,Tree.m,dd,this]
 congr 1
 rw[wrap_u64,wrap_u64,dM h1 (by omega),dM (by omega) (by omega)]
theorem xay{root va:Int}(hv:U va)(access:Int):(Lx m root va access).w (λt=>U t.Addr/\U t.F3):=by
 have bad:U (0:Int)/\U (0:Int):=⟨ej,ej⟩
 have fr:∀x,(Rm x).w U:=λx=>by
  unfold Rm
  exact bm (MH _ _ _) λy hy=>hy
 unfold Lx
 exact ar λx0 _=>aa (λ_=>bad) (λ_=>aa (λ_=>bad) (λ_=>ar λx1 _=>aa (λ_=>bad) (λ_=>bm (I1 h (fi _) (.inr rfl)) λx2 _=>aa (λ_=>bad) (λ_=>ar λx3 _=>aa (λ_=>bad) (λ_=>bm (fr _) λx4 _=>ar λx5 _=>aa (λ_=>bad) (λ_=>bm (fr _) λx6 _=>⟨fi _,fi _⟩))))))
theorem zT{a:Int}(ha:U a)(access:Int):(Ly m a access).w (ek P):=by
 have gm:jC m=m:=rfl
 unfold Ly
 exact bm (I1 h ha (.inr rfl)) λx0 _=>aa (λ_=>cz (rR h) (ar λx1 h1=>by rw[h1,gm];exact h)) (λ_=>aa (λ_=>bm (Tn h ha (.inr rfl) (mY _ _)) λx hx=>hx) (λ_=>bm (Tn h ha (.inr rfl) (mY _ _)) λx hx=>hx))
theorem Oe{c:bh}{va:Int}(hv:U va){size:Int}(hs:size=1\/size=4)(access:Int):(LF c m va size access).w (λr=>U r.1/\ek P r.2.1):=by
 have gm:jC m=m:=rfl
 have e:decide (wrap u32 size≠0)=true:=by rcases hs with rfl|rfl<;>decide
 have cl:∀(K:List Int->Int×List Int×Int),(∀x,x=m->U (K x).1/\ek P (K x).2.1)->(Tree.an (mJ m) (.lv (jC m) λx=>.lf (K x))).w (λr=>U r.1/\ek P r.2.1):=λK hK=>cz (rR h) (ar λx hx=>hK x (hx.trans gm))
 have z:∀(k:Nat) (x:List Int),x=m->U (0:Int)/\ek P x:=λ_ x hx=>⟨ej,hx▸h⟩
 have v:∀x,x=m->U va/\ek P x:=λx hx=>⟨hv,hx▸h⟩
 have main:∀(x0:Int×Bool),(Tree.cn (decide (wrap u32 size≠0)) (.br (dE va (wrap u32 size) !=0) (.an (mJ m) (.lv (jC m) λx3=>.lf ((0:Int),x3,(3:Int)))) (.lv (G0 c) λx4=>.br (!x4) (.br (bf u32 c.B4.a0 4 !=0) (.an (Qhp m c.B4.a6 va access) (.lv (Ty m c.B4.a6 va access) λx5=>.br (x5.F0 !=0) (.an (mJ m) (.lv (jC m) λx6=>.lf (0,x6,x5.F0))) (.an (Qfo m x5.F3 access) (.lv (On m x5.F3 access) λx7=>.lf (x5.Addr,x7,0))))) (.an (Q4 m va size) (.lv (Cp m va size) λx8=>.br (!x8.2) (.an (mJ m) (.lv (jC m) λx9=>.lf (0,x9,x0.1))) (.an (mJ m) (.lv (jC m) λjM=>.lf (va,jM,0)))))) (.an (Q4 m va size) (.lv (Cp m va size) λmr=>.br (!mr.2) (.an (mJ m) (.lv (jC m) λkS=>.lf (0,kS,x0.1))) (.an (mJ m) (.lv (jC m) λlU=>.lf (va,lU,0)))))))).w (λr=>U r.1/\ek P r.2.1):=λx0=>
  ba e (aa (λ_=>cl _ (z 0)) (λ_=>ar λx4 _=>aa (λ_=>aa (λ_=>bm (xay h hv access) λx5 hx=>aa (λ_=>cl _ (z 0)) (λ_=>bm (zT h hx.2 access) λx7 h7=>⟨hx.1,h7⟩)) (λ_=>bm (I1 h hv hs) λx8 _=>aa (λ_=>cl _ (z 0)) (λ_=>cl _ v))) (λ_=>bm (I1 h hv hs) λx8 _=>aa (λ_=>cl _ (z 0)) (λ_=>cl _ v))))
 unfold LF
 exact ar λx0 _=>aa (λ_=>cl _ (z 0)) (λ_=>aa (λ_=>aa (λ_=>cl _ (z 0)) (λ_=>main x0)) (λ_=>main x0))
theorem Zd{c:bh}(hc:iw c):(Rn c m).w (λr=>U r.1/\ek P r.2.1):=by
 unfold Rn
 exact bm (Oe h hc.pc (.inr rfl) 1) λx0 h0=>aa (λ_=>⟨ej,h0.2⟩) (λ_=>bm (I1 h0.2 h0.1 (.inr rfl)) λx1 h1=>⟨h1.1,h0.2⟩)
end
theorem qaz{s a b:Int}:U (AA s a b):=by
 refine Tree.post (Qq s a b) (W:=U) ?_
 unfold Qq
 exact aa (λ_=>fi _) (λ_=>fi _)
section
variable {c:bh} (h:iw c)
include h
theorem GO(k:Int){b:Int}(hb:U b):iw (rk c k b):=by
 refine(Tree.post (Oq c k b) (W:=iw) ?_)
 unfold Oq
 refine ar λ_ _=>ar λ_ _=>⟨h.x,h.a1,?_⟩
 intro w hw
 simp only[A8.l,cS,cU,or_false]at hw
 rcases hw with rfl|rfl|rfl|rfl|rfl|rfl|rfl|rfl
 ·exact fi _
 ·exact h.a1
 ·exact h.pc
 ·exact fi _
 ·exact hb
 ·exact h.a5
 ·exact h.a6
 ·exact h.a7
theorem yz:iw (Li c):=by
 refine(Tree.post (Ou c) (W:=iw) ?_)
 unfold Ou
 refine ar λx0 _=>ar λx1 h1=>⟨h.x,h.a2,?_⟩
 intro w hw
 simp only[A8.l,cS,cU,or_false]at hw
 rcases hw with rfl|rfl|rfl|rfl|rfl|rfl|rfl|rfl
 ·rw[h1];exact qaz
 ·exact h.a1
 ·exact h.a2
 ·exact h.a3
 ·exact h.a4
 ·exact h.a5
 ·exact h.a6
 ·exact h.a7
theorem DS{r:Int}(hr:0<=r/\r<16){v:Int}(hv:U v):(Fm c r v).w iw:=by
 unfold Fm
 exact aa (λ_=>ba (rc hr) ⟨Xg h.x hv _,h.pc,h.jo⟩) (λ_=>h)
theorem Zm8(k:Int){v:Int}(hv:U v):(IZ c k v).w iw:=by
 have ok:∀i v,U v->iw {X:=c.X,Pc:=c.Pc,B4:=A8.of 0 (dG (A8.l c.B4) i v)}:=λi v hv=>⟨h.x,h.pc,Zio h.jo hv i⟩
 unfold IZ
 repeat'(first
  |exact h
  |exact ok _ _ (fi _)
  |exact ok _ _ hv
  |refine aa (λhk=>?_) (λ_=>?_)
  |refine ba (by rw[eq_of_beq (by assumption:(k==_)=true)];decide) ?_)
end
theorem Zf8{a b:Int}(ha:U a)(hb:U b):(LC a b).w (λr=>U r.1/\U r.2):=by
 have u1:U 4294967295:=⟨by omega,by omega⟩
 unfold LC
 refine aa (λ_=>⟨u1,ha⟩) (λh=>?_)
 have h:¬b=0:=by simpa using h
 obtain⟨b1,b2⟩:=hb
 have hc:decide (wrap i32 b≠0)=true:=dY (by rw[wrap_i32];omega)
 exact aa (λ_=>aa (λ_=>⟨ha,ej⟩) (λ_=>ba hc (ba hc ⟨fi _,fi _⟩))) (λ_=>ba hc (ba hc ⟨fi _,fi _⟩))
theorem zaz(b:Bool):U (Vh b):=by cases b<;>exact⟨by decide,by decide⟩
theorem Lk(op:Int){a b:Int}(ha:U a)(hb:U b):(Ro op a b).w (λr=>U r.1):=by
 unfold Ro
 repeat'(first
  |refine aa (λ_=>?_) (λ_=>?_)
  |exact bm (Zf8 ha hb) λx hx=>hx.1
  |exact bm (Zf8 ha hb) λx hx=>hx.2
  |exact ar λx hx=>(by rw[hx];exact zaz _)
  |refine ey ?_)
 all_goals(first
  |exact fi _
  |exact AD ha _
  |exact ej)
theorem Tm(op:Int):J4 op=1\/J4 op=4:=by
 simp only[J4,Qt0,Tree.m]
 cases op==32<;>cases op==35<;>simp
section
variable {c:bh} (h:iw c) {i:gu} (hi:sJ i)
include h hi
theorem Zpt:(Fo c i).w (λr=>iw r.1/\U r.2.Value):=by
 have k:∀{x:bh} {p:Int},iw x->U p->iw {X:=x.X,Pc:=p,B4:=x.B4}:=λhx hp=>⟨hx.x,hp,hx.jo⟩
 unfold Fo
 refine ba (rc hi.a) (ba (rc hi.b) ?_)
 repeat'(first
  |refine aa (λ_=>?_) (λ_=>?_)
  |exact bm (DS h hi.a (fi _)) λx hx=>⟨k hx (fi _),ej⟩
  |exact ar λx _=>aa (λ_=>⟨k h (fi _),ej⟩) (λ_=>⟨k h (fi _),ej⟩)
  |exact ar λx hx=>⟨by rw[hx];exact GO h _ ej,ej⟩
  |exact ar λx hx=>⟨by rw[hx];exact yz h,ej⟩
  |exact ba (by have:=hi.jo (by simp_all);simp[bJ];omega) (bm (DS h hi.a (h.a _)) λx hx=>⟨k hx (fi _),ej⟩)
  |exact bm (Zm8 h _ (h.r _)) λx hx=>⟨k hx (fi _),ej⟩
  |refine ba (rc hi.c) ?_
  |exact bm (Lk _ (h.r _) (fi _)) λy hy=>bm (DS h hi.a hy) λx hx=>⟨k hx (fi _),ej⟩
  |exact bm (Lk _ (h.r _) (h.r _)) λy hy=>bm (DS h hi.a hy) λx hx=>⟨k hx (fi _),ej⟩
  |refine ey ?_)
 all_goals(first
  |exact⟨k h (fi _),ej⟩
  |exact⟨k h (fi _),h.r _⟩)
theorem Z1p{P:Nat}{m:List Int}(hm:ek P m):(I0 c m i).w (λr=>iw r.1/\ek P r.2):=by
 have w:=Tm i.Op
 unfold I0
 refine ba (rc hi.b) (ar λx0 h0=>?_)
 rw[<-h0]at w
 refine bm (Oe hm (fi _) w 2) λx1 h1=>aa (λ_=>ar λy hy=>⟨by rw[hy];exact GO h _ (fi _),h1.2⟩) (λ_=>ar λx3 h3=>?_)
 rw[h0,<-h3]at w
 exact bm (I1 h1.2 h1.1 w) λx4 h4=>aa (λ_=>bm (W9 h4.1 8) λy hy=>bm (DS h hi.a hy) λx hx=>⟨⟨hx.x,fi _,hx.jo⟩,h1.2⟩) (λ_=>bm (DS h hi.a h4.1) λx hx=>⟨⟨hx.x,fi _,hx.jo⟩,h1.2⟩)
theorem Qyd{P:Nat}{m:List Int}(hm:ek P m):(I2 c m i).w (λr=>iw r.1/\ek P r.2):=by
 have w:=Tm i.Op
 unfold I2
 refine ba (rc hi.b) (ar λx0 h0=>?_)
 rw[<-h0]at w
 refine bm (Oe hm (fi _) w 3) λx1 h1=>aa (λ_=>ar λy hy=>⟨by rw[hy];exact GO h _ (fi _),h1.2⟩) (λ_=>ar λx3 h3=>ba (rc hi.a) ?_)
 rw[h0,<-h3]at w
 exact bm (Tn h1.2 h1.1 w (h.r _)) λx hx=>⟨⟨h.x,fi _,h.jo⟩,hx⟩
end
theorem vz{c:bh}(h:iw c){P:Nat}{m:List Int}(hm:ek P m):(Fp c m).w (λr=>iw r.1/\ek P r.2.1/\U r.2.2.Value):=by
 unfold Fp
 refine bm (Zd hm h) λx0 h0=>aa (λ_=>ar λy hy=>⟨by rw[hy];exact GO h _ h.pc,h0.2,ej⟩) (λ_=>bm (Xa _) λx2 h2=>aa (λ_=>ar λy hy=>⟨by rw[hy];exact GO h _ h0.1,h0.2,ej⟩) (λhb=>?_))
 have hi:=h2 (by simpa using hb)
 refine ar λx4 _=>?_
 repeat'(first
  |refine aa (λ_=>?_) (λ_=>?_)
  |exact bm (Z1p h hi h0.2) λx hx=>⟨hx.1,hx.2,ej⟩
  |exact bm (Qyd h hi h0.2) λx hx=>⟨hx.1,hx.2,ej⟩
  |exact bm (Zpt h hi) λx hx=>⟨hx.1,h0.2,hx.2⟩
  |exact ar λy hy=>⟨by rw[hy];exact GO h _ h0.1,h0.2,ej⟩
  |refine ar λ_ _=>?_)
theorem Vi{a:Int}(h:U a)(k:Nat)(hk:k<=32):0<=bg .u32 a k/\bg .u32 a k*2^k<=a:=by
 obtain⟨h1,h2⟩:=h
 unfold bg
 have e:min (k:Int).toNat u32.bits=k:=by show min (k:Int).toNat 32=k;omega
 have hp:(0:Int)<2^k:=dO (by decide)
 rw[e,dP _ (dQ hp)]
 exact⟨Int.ediv_nonneg h1 (dQ hp),Int.ediv_mul_le a (Int.ne_of_gt hp)⟩
theorem Zm1(x:Int):0<=u8.wrap x/\u8.wrap x<256:=by rw[wrap_u8];omega
theorem xaz{x:Int}(h:U x):(DQ x).w (λ_=>True):=by
 have Bk:=Vi h 16 (by omega)
 have s8:=Vi h 8 (by omega)
 have um:=Vi (AD h 16) 8 (by omega)
 obtain⟨h1,h2⟩:=h
 unfold DQ
 repeat'(first
  |refine aa (λ_=>?_) (λ_=>?_)
  |refine ba (dY ⟨?_,hY (b:=256) ?_ (hZ (by kernel_rfl))⟩) ?_
  |exact trivial
  |refine ey ?_)
 all_goals(first
  |trivial
  |exact(Zm1 _).1
  |exact(Zm1 _).2
  |(simp only[decide_eq_true_eq,decide_eq_false_iff_not]at*;simp at Bk s8 um;omega))
theorem Ci(a:Int):bf .u32 a 255<256:=by
 unfold bf
 rw[wrap_u32]
 have:(dW u32.bits a&&&dW u32.bits 255).toNat<=255:=by
  show(dW 32 a&&&dW 32 255).toNat<=255
  rw[eA]
  exact Nat.le_trans Nat.and_le_right (by decide)
 omega
theorem qaQ{x:Int}(h:U x):(Rp x).w (λ_=>True):=by
 have um:=Vi h 24 (by omega)
 obtain⟨h1,h2⟩:=h
 have i24:bg .u32 x 24<256:=by simp at um;omega
 unfold Rp
 repeat'(first
  |refine ba (dY ⟨?_,hY (b:=256) ?_ (hZ (by kernel_rfl))⟩) ?_
  |exact trivial
  |refine ey ?_)
 all_goals(first
  |trivial
  |exact(fi _).1
  |exact um.1
  |exact i24
  |exact Ci _)
structure rj(P:Nat)(m:au):Prop where
 lY:iw m.B1
 mem:ek P m.Mem
 kR:ox m.A7
 sK:pq m.C3
 target:U m.A2.C6
 given:U m.A2.C2
theorem Zn2{b:gv}(h:U b.C2):(Rq b).w (λ_=>True):=by
 unfold Rq
 exact bm (qaQ h) λ_ _=>trivial
theorem Tp{m:au}(h:U m.A2.C2):(J5 m).w (λ_=>True):=by
 have b:∀x,(GH m.A2 x).w (λ_=>True):=λx=>by
  unfold GH
  exact bm (xaz h) λ_ _=>trivial
 have d:(DO m).w (λ_=>True):=by
  unfold DO
  exact ar λ_ _=>ar λ_ _=>aa (λ_=>ar λ_ _=>aa (λ_=>ar λ_ _=>aa (λ_=>ar λ_ _=>aa (λ_=>bm (b _) λ_ _=>trivial) (λ_=>trivial)) (λ_=>trivial)) (λ_=>trivial)) (λ_=>trivial)
 unfold J5
 repeat'(first
  |refine aa (λ_=>?_) (λ_=>?_)
  |exact bm d λ_ _=>trivial
  |refine ar λ_ _=>?_
  |exact trivial)
theorem Zme{m:au}(h:U m.A2.C2):(Q7 m).w (λ_=>True):=by
 have p:(LO m.A2).w (λ_=>True):=by
  unfold LO
  exact bm (Zn2 h) λ_ _=>trivial
 unfold Q7
 refine ar λx0 _=>ar λx1 _=>ar λx2 _=>ar λx3 _=>bm p λx4 _=>fy (inv:=λz=>0<=z.2/\z.2<=5) (μ:=Qhu m) ⟨by omega,by omega⟩ (cO _) (λz hz=>?_)
 obtain⟨z1,z2⟩:=hz
 have ew:z.2<5->i64.wrap (z.2+1)=z.2+1:=λ_=>by rw[wrap_i64];omega
 refine aa (λhb=>?_) (λ_=>trivial)
 have hb:=oY hb
 have nx:(0<=i64.wrap (z.2+1)/\i64.wrap (z.2+1)<=5)/\(5-i64.wrap (z.2+1)).toNat<(5-z.2).toNat:=by rw[ew hb];omega
 refine ba (by simp;omega) (aa (λ_=>ba (dY z1) (fg nx)) (λ_=>fg nx))
theorem Xc{m:au}(h:U m.A2.C2):(G9 m).w U:=by
 unfold G9
 exact bm (Zme h) λ_ _=>I7 _ _
theorem Xe{m:au}(h:U m.A2.C2):(I3 m).w (λ_=>True):=by
 have i:(Ha m).w (λ_=>True):=by
  unfold Ha
  exact aa (λ_=>bm (Xc h) λ_ _=>trivial) (λ_=>trivial)
 unfold I3
 exact bm (Tp h) λ_ _=>aa (λ_=>aa (λ_=>bm i λ_ _=>aa (λ_=>trivial) (λ_=>trivial)) (λ_=>trivial)) (λ_=>trivial)
theorem yT{P:Nat}{m:au}(h:rj P m):(GN m).w (rj P):=by
 obtain⟨h1,h2,h3,h4,h5,h6⟩:=h
 unfold GN
 refine aa (λ_=>⟨h1,h2,h3,h4,h5,h6⟩) (λ_=>bm (Xc (m:=⟨_,_,_,_,_,_,m.A2,_,_,_⟩) h6) λx0 _=>fy (inv:=λz=>0<=z/\z<=5) (μ:=Xd m) ⟨by omega,by omega⟩ (cO _) (λz hz=>?_))
 obtain⟨z1,z2⟩:=hz
 refine aa (λhb=>ba (dY z1) (aa (λ_=>ar λx1 hx=>⟨by rw[hx];exact GO h1 _ ej,h2,h3,h4,h5,h6⟩) (λ_=>fg ?_))) (λ_=>⟨h1,h2,h3,h4,h5,h6⟩)
 have hb:=oY hb
 show(0<=i64.wrap (z+1)/\i64.wrap (z+1)<=5)/\(5-i64.wrap (z+1)).toNat<(5-z).toNat
 have ew:i64.wrap (z+1)=z+1:=by rw[wrap_i64];omega
 rw[ew];omega
theorem DV{P:Nat}{m:List Int}(h:ek P m):wE m=P:=by
 obtain⟨h1,h2,h3,_⟩:=h
 simp only[wE,Qp1,Tree.m]
 have e:(m.length:Int)=32*P:=by omega
 rw[e]
 have e1:(dE (32*(P:Int)) 32 !=0)=false:=by simp[hH]
 have e2:decide ((32*(P:Int))>1024)=false:=dN (by omega)
 rw[e1,e2]
 simp only[cond_false]
 rw[hJ _ (by decide),wrap_i64];omega
theorem Fu{P:Nat}{m:List Int}(h:ek P m){f:Int}(hf:U f):nS m f=decide (f<P):=by
 have:=DV h
 obtain⟨h1,h2⟩:=hf
 have h3:=h.p2
 simp only[nS,OH,Tree.m,dd,this]
 congr 1
 rw[wrap_u64,wrap_u64,dM h1 (by omega),dM (by omega) (by omega)]
theorem y9{P:Nat}{m:List Int}(h:ek P m):(LX m).w (λr=>r=m):=by
 obtain⟨h1,h2,h3,_⟩:=h
 unfold LX
 refine ba ?_ ?_
 ·simp[bJ,D.plain];omega
 ·show _=_
  simp
theorem Co{P:Nat}{m:List Int}(h:ek P m){addr size v:Int}(ha:U addr)(hl:addr<4*m.length)(hv:U v):(I8 m addr size v).w (ek P):=by
 obtain⟨h1,h2,h3,h4⟩:=h
 obtain⟨a1,a2⟩:=ha
 have e:wrap u32 (eU addr 4)=addr/4:=by rw[wrap_u32,eV a1];omega
 have hc:(bT 1 1&&bJ 0 1&&decide (0<=wrap u32 (eU addr 4)/\wrap u32 (eU addr 4)<(m.length:Int)))=true:=by
  rw[e];simp[bJ];omega
 have h0:∀x,decide (0<=wrap u32 x)=true:=λx=>dY (fi x).1
 have hs:∀i v,U v->ek P (m.set i v):=λi v hv=>⟨by simp[h1],h2,h3,Z7 h4 hv i⟩
 unfold I8
 exact aa (λ_=>ba hc (hs _ _ hv)) (λ_=>ba hc (ba (h0 _) (ba (h0 _) (ba hc (hs _ _ (mY _ _))))))
theorem qaa{P:Nat}{m:List Int}(h:ek P m){frame:Int}(f0:0<=frame)(f1:frame<P)(s:List UInt8):(GV m frame s).w (ek P):=by
 unfold GV
 have h3:=h.p2
 refine fy (inv:=λz=>0<=z.1/\z.1<=128/\ek P z.2) (μ:=Xr m frame s) ⟨by omega,by omega,h⟩ (cO _) (λv0 wx=>?_)
 obtain⟨i0,i1,hm⟩:=wx
 refine aa (λh1=>aa (λh2=>ba ?_ ?_) (λ_=>hm)) (λ_=>hm)
 ·have:=oY h1
  simp[bJ];omega
 ·have h2:=oY h2
  have e:wrap u32 (wrap i64 (wrap i64 (frame*128)+v0.1))=frame*128+v0.1:=by
   rw[wrap_u32,wrap_i64,wrap_i64];omega
  rw[e]
  obtain⟨g1,g2⟩:=Tree.pp (Co hm (size:=1) (addr:=frame*128+v0.1) ⟨by omega,by omega⟩ (by rw[hm.len];omega) (fi (UInt8.toNat (s.getD v0.1.toNat 0))))
  refine cz g1 (ar λx0 nI=>?_)
  rw[nI]
  have ew:i64.wrap (v0.1+1)=v0.1+1:=by rw[wrap_i64];omega
  refine fg ?_
  show(0<=i64.wrap (v0.1+1)/\i64.wrap (v0.1+1)<=128/\ek P _)/\(128-i64.wrap (v0.1+1)).toNat<(128-v0.1).toNat
  rw[ew]
  exact⟨⟨by omega,by omega,g2⟩,by omega⟩
theorem Zlw{P:Nat}{m:List Int}(h:ek P m){d:fp}(hd:ox d)(e:gx):(G7 d m e).w (λr=>ox r.1/\ek P r.2.2):=by
 have fl:nS m d.B2=true->(GV m (i64.wrap d.B2) e.C9).w (ek P):=λhp=>by
   rw[Fu h hd.ib]at hp
   have:=oY hp
   have h1:=hd.ib.1
   have h3:=h.p2
   have ew:i64.wrap d.B2=d.B2:=by rw[wrap_i64];omega
   rw[ew]
   exact qaa h h1 this _
 have l0:ox d/\ek P m:=⟨hd,h⟩
 have l1: ∀st,ox {ag:=d.ag,C1:=d.C1,Frame:=d.Frame,B7:=st,D5:=0,B6:=0,B2:=0,B8:=[]}:=λst=>⟨hd.block,hd.frame,ej,ej⟩
 unfold G7
 repeat'(first
   |exact l0
   |exact⟨l1 _,h⟩
   |refine aa (λ_=> ?_) (λ_=> ?_)
   |refine ar (λ_ _=> ?_))
 all_goals(
   first
     | (have hp:nS m d.B2=true:=by simp_all
        obtain⟨g1,g2⟩:=Tree.pp (fl hp)
        refine cz g1 (ar λx hx=> ?_)
        rw[hx]
        exact aa (λ_=>⟨l1 _,g2⟩) (λ_=>⟨l1 _,g2⟩))
     |(exfalso;simp_all;done))
section
variable {c:bh} (h:iw c)
include h
theorem J6(k:Int){b:Int}(hb:U b):iw (pP c k b):=by
 refine(Tree.post (Ot c k b) (W:=iw) ?_)
 unfold Ot
 refine ar λ_ _=>ar λ_ _=>⟨h.x,h.a1,?_⟩
 intro w hw
 simp only[A8.l,cS,cU,or_false]at hw
 rcases hw with rfl|rfl|rfl|rfl|rfl|rfl|rfl|rfl
 ·exact mY _ _
 ·exact h.a1
 ·exact h.pc
 ·exact fi _
 ·exact hb
 ·exact h.a5
 ·exact h.a6
 ·exact h.a7
theorem vT:iw (TB c):=by
 refine(Tree.post (Ov c) (W:=iw) ?_)
 unfold Ov
 refine ar λ_ _=>ar λ_ _=>⟨h.x,h.a2,?_⟩
 intro w hw
 simp only[A8.l,cS,cU,or_false]at hw
 rcases hw with rfl|rfl|rfl|rfl|rfl|rfl|rfl|rfl
 ·exact mY _ _
 ·exact h.a1
 ·exact h.a2
 ·exact h.a3
 ·exact h.a4
 ·exact h.a5
 ·exact h.a6
 ·exact h.a7
theorem DL(r:Int){v:Int}(hv:U v):(Jb c r v).w iw:=by
 unfold Jb
 refine aa (λh1=>aa (λh2=>ba ?_ ⟨Xg h.x hv _,h.pc,h.jo⟩) (λ_=>h)) (λ_=>h)
 have h1:=oY h1
 have h2:=oY h2
 simp[bJ];omega
theorem qaA(k:Int){v:Int}(hv:U v):(LH c k v).w iw:=by
 have ok:∀i v,U v->iw {X:=c.X,Pc:=c.Pc,B4:=A8.of 0 (dG (A8.l c.B4) i v)}:=λi v hv=>⟨h.x,h.pc,Zio h.jo hv i⟩
 unfold LH
 repeat'(first
  |exact h
  |exact ok _ _ (fi _)
  |exact ok _ _ hv
  |refine aa (λhk=>?_) (λ_=>?_)
  |refine ba (by rw[eq_of_beq (by assumption:(k==_)=true)];decide) ?_)
end
section
variable {P:Nat} {m:List Int} (h:ek P m)
include h
theorem Zb7(a:Int){size:Int}(hs:size=1\/size=4):(I9 m a size).w (λb=>b=true->a<128*P):=by
 have hp:=DV h
 have h2:=h.p2
 have e:decide (wrap u32 size≠0)=true:=by rcases hs with rfl|rfl<;>decide
 have l:∀x,x=wE m->decide (a<wrap u32 (wrap i64 (128*x)))=true->a<128*P:=λx hx hd=>by
  rw[hx,hp,wrap_u32,wrap_i64]at hd
  have:=oY hd
  omega
 unfold I9
 refine aa (λ_=>aa (λ_=>λh=>by cases h) (λ_=>?_)) (λ_=>?_)<;>
 exact ba e (aa (λ_=>ar λx hx=>l x hx) (λ_=>λh=>by cases h))
theorem idx{a:Int}(ha:U a)(hl:a<128*P):(bT 1 1&&bJ 0 1&&decide (0<=wrap u32 (eU a 4)/\wrap u32 (eU a 4)<(m.length:Int)))=true:=by
 obtain⟨a1,a2⟩:=ha
 have e:wrap u32 (eU a 4)=a/4:=by rw[wrap_u32,eV a1];omega
 have:=h.len
 rw[e];simp[bJ];omega
theorem OC{a:Int}(ha:U a){size:Int}(hs:size=1\/size=4):(AG m a size).w (λr=>U r.1):=by
 obtain⟨g1,g2⟩:=Tree.pp (Zb7 h a hs)
 unfold AG
 refine cz g1 (ar λx hx=>aa (λ_=>ej) (λhb=>?_))
 have hb:x=true:=by simpa using hb
 have hl:=g2 (hx.symm.trans hb)
 refine ba (idx h ha hl) (aa (λ_=>ba (dY (fi _).1) (fi _)) (λ_=>AE h.u _))
theorem zaQ{a:Int}(ha:U a)(access:Int):(Lz m a access).w (ek P):=by
 obtain⟨g1,g2⟩:=Tree.pp (Zb7 h a (size:=4) (.inr rfl))
 have hs:∀{m:List Int} i v,ek P m->U v->ek P (m.set i v):=λi v h hv=>⟨by simp[h.len],h.p1,h.p2,Z7 h.u hv i⟩
 unfold Lz
 refine cz g1 (ar λx hx=>aa (λ_=>h) (λhb=>?_))
 have hb:x=true:=by simpa using hb
 have hl:=g2 (hx.symm.trans hb)
 have i0:=idx h ha hl
 have h':=hs (Int.toNat (wrap u32 (eU a 4))) (iq u32 (m.getD (Int.toNat (wrap u32 (eU a 4))) 0) 8) h (mY _ _)
 have i1:=idx h' ha hl
 exact ba i0 (ba i0 (aa (λ_=>ba i1 (ba i1 (hs _ _ h' (mY _ _)))) (λ_=>h')))
theorem zaa{root va:Int}(hr:U root)(hv:U va)(access:Int):(GZ m root va access).w (λt=>U t.Addr/\U t.F3/\(t.F0=0->t.Addr<128*P)):=by
 have hp:=DV h
 have h2:=h.p2
 have hlen:=h.len
 obtain⟨r1,r2⟩:=hr
 obtain⟨v1,v2⟩:=hv
 unfold GZ
 refine ar λx0 nI=>ar λx1 nJ=>ar λx2 _=>?_
 have hc:x0≠0:=by
  rw[nI]
  simp only[tE,LG,Tree.m]
  cases access==1<;>cases access==3<;>simp
 rw[hp]at nJ
 have bad:U (0:Int)/\U (0:Int)/\(x0=0->(0:Int)<128*P):=⟨ej,ej,λe=>absurd e hc⟩
 refine aa (λ_=>bad) (λ_=>aa (λ_=>bad) (λEa=>aa (λ_=>bad) (λDI=>?_)))
 have Ea:=oN Ea
 have DI:=oN DI
 have e1:wrap u32 x1=P:=by rw[nJ,wrap_u32];omega
 rw[e1]at DI
 have e2:wrap u32 (wrap u32 (root*128)+wrap u32 (4*wrap u32 (eU va 128)))=root*128+4*(va/128):=by
  rw[eV v1,wrap_u32,wrap_u32,wrap_u32,wrap_u32];omega
 have hU:U (wrap u32 (wrap u32 (root*128)+wrap u32 (4*wrap u32 (eU va 128)))):=fi _
 have ci:=idx h hU (by rw[e2];omega)
 have ff:∀w:Int,decide (bf u32 w 255>=wrap u32 x1)=false->(U (wrap u32 (wrap u32 (bf u32 w 255*128)+dE va 128))/\U (wrap u32 (wrap u32 (root*128)+wrap u32 (4*wrap u32 (eU va 128))))/\((0:Int)=0->wrap u32 (wrap u32 (bf u32 w 255*128)+dE va 128)<128*P)):=λw hw=>by
  have hw:=oN hw
  rw[e1]at hw
  have hn:=(I7 w 255).1
  refine⟨fi _,fi _,λ_=>?_⟩
  rw[Int.tmod_eq_emod_of_nonneg v1,wrap_u32,wrap_u32]
  generalize bf u32 w 255=q at*
  omega
 refine ba ci ?_
 repeat'(first
  |exact bad
  |exact ff _ (by assumption)
  |refine aa (λ_=>?_) (λ_=>?_)
  |refine ba ci ?_)
theorem TJ{c:bh}(hc:iw c){va:Int}(hv:U va){size:Int}(hs:size=1\/size=4)(access:Int):(G1 c m va size access).w (λr=>ek P r.2.2/\U r.1/\(r.2.1=0->r.1<128*P)):=by
 have e:decide (wrap u32 size≠0)=true:=by rcases hs with rfl|rfl<;>decide
 obtain⟨g1,g2⟩:=Tree.pp (Zb7 h va hs)
 obtain⟨k1,k2⟩:=Tree.pp (zaa h hc.a6 hv access)
 have bad:∀k:Int,k≠0->ek P m/\U (0:Int)/\(k=0->(0:Int)<128*P):=λk hk=>⟨h,ej,λe=>absurd e hk⟩
 have hca:tE access≠0:=by
  simp only[tE,LG,Tree.m]
  cases access==1<;>cases access==3<;>simp
 unfold G1
 refine ar λx0 _=>aa (λ_=>bad 5 (by decide)) (λ_=>aa (λh1=>aa (λh2=>?_) (λ_=>?_)) (λ_=>?_))
 ·exact bad 5 (by decide)
 all_goals(
  refine ba e (aa (λ_=>bad 3 (by decide)) (λ_=>ar λx1 _=>aa (λ_=>cz g1 (ar λx2 I4=>aa (λ_=>ar λx3 DK=>bad x3 (by rw[DK];exact hca)) (λhb=>?_))) (λ_=>cz k1 (ar λx4 NZ=>aa (λhb=>?_) (λhb=>?_)))))
  ·have hb:x2=true:=by simpa using hb
   exact⟨h,hv,λ_=>g2 (I4.symm.trans hb)⟩
  ·exact bad _ (by simpa using hb)
  ·obtain⟨t1,t2,t3⟩:=k2
   rw[show(GZ m c.B4.a6 va access).m=x4 from NZ.symm]at t1 t2 t3
   obtain⟨m1,m2⟩:=Tree.pp (zaQ h t2 access)
   refine cz m1 (ar λx5 hx5=>?_)
   exact⟨hx5▸m2,t1,λ_=>t3 (by simpa using hb)⟩)
end
theorem qA{r:Int}(h:Lo r=true):0<=r/\r<16:=by
 simp only[Lo,Tt,Tree.m]at h
 cases h1:decide (r>=0)<;>rw[h1]at h
 ·cases h
 ·have h1:=oY h1
  have h:=oY h
  omega
theorem qU{i:gu}(hi:wrap .i64 i.bn=i.bn)(h:DT i=true):sJ i:=by
 have no:false=true->sJ i:=λh=>by cases h
 refine(Tree.post (Oi i) (W:=λb=>b=true->sJ i) ?_) h
 unfold Oi
 refine ar λx0 h0=>aa (λ_=>no) (λ_=>ar λx1 h1=>aa (λ_=>no) (λb1=>ar λx2 h2=>aa (λ_=>no) (λb2=>ar λx3 h3=>aa (λ_=>no) (λb3=>ar λx4 h4=>aa (λ_=>no) (λb4=>aa (λ_=>no) (λb5=>?_))))))
 have b1:x1=true:=by simpa using b1
 have b2:x2=true:=by simpa using b2
 have b3:x3=true:=by simpa using b3
 have b4:=oN b4
 have b5:=oN b5
 rw[hi]at b4 b5
 have ok:sJ i:=⟨qA (h1.symm.trans b1),qA (h2.symm.trans b2),qA (h3.symm.trans b3),λe=>by
  rw[e]at h0
  have h0:x0=8:=h0
  subst h0
  have h4:x4=(0,7):=h4
  subst h4
  simp at b4 b5;omega⟩
 repeat'(first
  |exactλ_=>ok
  |exact no
  |refine aa (λ_=>?_) (λ_=>?_))
theorem Zm4(w:Int):(GU w).w (λr=>r.2=true->sJ r.1):=by
 have no:∀{p:Prop},false=true->p:=λh=>by cases h
 have e:∀x,wrap .i64 (wrap .i32 x)=wrap .i32 x:=λx=>by rw[wrap_i64,wrap_i32];omega
 have ok:∀i,wrap .i64 i.bn=i.bn->∀x,x=DT i->(!x)=false->true=true->sJ i:=λi hi x hx hb _=>qU hi (hx.symm.trans (by simpa using hb))
 unfold GU
 refine ar λx0 _=>?_
 have l:∀i,wrap .i64 i.bn=i.bn->(Tree.lv (DT i) λx=>.br (!x) (.lf ((⟨0,0,0,0,0⟩:gu),false)) (.lf (i,true))).w (λr=>r.2=true->sJ r.1):=λi hi=>ar λx hx=>aa (λ_=>no) (λhb=>ok i hi x hx hb)
 refine aa (λ_=>no) (λ_=>aa (λ_=>l _ rfl) (λ_=>aa (λ_=>l _ (e _)) (λ_=>aa (λ_=>l _ (e _)) (λ_=>l _ (e _)))))
theorem Rr(b:Bool):U (Cq b):=by cases b<;>exact⟨by decide,by decide⟩
theorem Zmk{a b:Int}(ha:U a)(hb:U b):(LD a b).w (λr=>U r.1/\U r.2):=by
 unfold LD
 refine aa (λ_=>⟨⟨by omega,by omega⟩,ha⟩) (λh=>?_)
 have h:¬b=0:=by simpa using h
 obtain⟨b1,b2⟩:=hb
 have hc:decide (wrap i64 (wrap i32 b)≠0)=true:=dY (by rw[wrap_i64,wrap_i32];omega)
 exact ba hc (ba hc ⟨fi _,fi _⟩)
theorem HU(op:Int){a b:Int}(ha:U a)(hb:U b):(Rs op a b).w (λr=>U r.1):=by
 unfold Rs
 refine ar λx0 _=>?_
 repeat'(first
  |exact fi _
  |exact AD ha _
  |exact ej
  |refine aa (λ_=>?_) (λ_=>?_)
  |exact bm (Zmk ha hb) λx hx=>hx.1
  |exact bm (Zmk ha hb) λx hx=>hx.2
  |exact ar λx hx=>(by rw[hx];exact Rr _))
theorem xA{x:Int}(hx:U x):(Rt x 8).w U:=by
 unfold Rt
 have h0:decide (0<=wrap u64 8)=true:=by decide
 refine aa (λh=>absurd h (by decide)) λ_=>aa (λh=>absurd h (by decide)) λ_=>ba h0 (ba (by decide) (aa (λ_=>ba h0 (mY _ _)) (λ_=>I7 _ _)))
section
variable {c:bh} (h:iw c) {i:gu} (hi:sJ i)
include h hi
theorem xU:(Jn c i).w (λr=>iw r.1/\U r.2.Value):=by
 unfold Jn
 refine aa (λ_=>ar λx hx=>⟨hx▸J6 h _ ej,ej⟩) (λ_=>aa (λ_=>ar λx hx=>⟨hx▸vT h,ej⟩) (λ_=>aa (λe=>ba ?_ (bm (DL h _ (h.a _)) λx hx=>⟨hx.Bc (fi _),ej⟩)) (λ_=>aa (λ_=>ba (rc hi.a) (bm (qaA h _ (h.r _)) λx hx=>⟨hx.Bc (fi _),ej⟩)) (λ_=>?_))))
 ·have:=hi.jo (by simpa using e)
  simp[bJ];omega
 ·have k:=h.Bc (fi (c.Pc+4))
  repeat'(first
   |exact⟨k,ej⟩
   |exact⟨k,h.r _⟩
   |refine aa (λ_=>?_) (λ_=>?_)
   |refine ba (rc hi.a) ?_)
theorem xaQ:(Ru c i).w iw:=by
 unfold Ru
 exact aa (λ_=>bm (DL h _ (fi _)) λx hx=>hx.Bc (fi _)) (λ_=>aa (λ_=>ba (rc hi.b) (bm (DL h _ (fi _)) λx hx=>hx.Bc (fi _))) (λ_=>ba (rc hi.a) (ba (rc hi.b) (ar λx _=>aa (λ_=>h.Bc (fi _)) (λ_=>h.Bc (fi _))))))
theorem Zor{P:Nat}{m:List Int}(hm:ek P m):(Rv c m i).w (λr=>iw r.1/\ek P r.2):=by
  unfold Rv
  refine ba (rc hi.b) ?_
  have e1:(1:Int)=1\/(1:Int)=4:= .inl rfl
  have e4:(4:Int)=1\/(4:Int)=4:= .inr rfl
  repeat'(first
    |refine aa (λ_=> ?_) (λ_=> ?_)
    | (refine bm (TJ hm h (fi _) e4 _) λx hx=> ?_
       obtain⟨m1,m2,m3⟩:=hx
       refine aa (λ_=>ar λy hy=>⟨hy▸J6 h _ (fi _),m1⟩) (λhb=> ?_)
       have m3:=m3 (by simpa using hb)
       have m4:x.1<4*x.2.2.length:=by rw[m1.len];omega
       clear hb)
    | (refine bm (TJ hm h (fi _) e1 _) λx hx=> ?_
       obtain⟨m1,m2,m3⟩:=hx
       refine aa (λ_=>ar λy hy=>⟨hy▸J6 h _ (fi _),m1⟩) (λhb=> ?_)
       have m3:=m3 (by simpa using hb)
       have m4:x.1<4*x.2.2.length:=by rw[m1.len];omega
       clear hb)
    |exact ba (rc hi.a) (bm (Co (by assumption) (by assumption) (by assumption) (h.r _)) λy hy=>⟨h.Bc (fi _),hy⟩)
    |(refine bm (OC (by assumption) (by assumption) e4) λy hy=> ?_)
    |(refine bm (OC (by assumption) (by assumption) e1) λy hy=> ?_)
    |exact bm (xA (by assumption)) λz hz=>bm (DL h _ hz) λu hu=>⟨hu.Bc (fi _),by assumption⟩
    |exact bm (DL h _ (by assumption)) λu hu=>⟨hu.Bc (fi _),by assumption⟩)
end
theorem Fb{c:bh}(h:iw c){P:Nat}{m:List Int}(hm:ek P m):(Rw c m).w (λr=>iw r.1/\U r.2.1.Value/\ek P r.2.2):=by
 unfold Rw
 refine bm (TJ hm h h.pc (.inr rfl) 1) λx0 hx=>?_
 obtain⟨m1,m2,m3⟩:=hx
 refine aa (λ_=>ar λy hy=>⟨hy▸J6 h _ h.pc,ej,m1⟩) (λhb=>?_)
 refine bm (OC m1 m2 (.inr rfl)) λx2 h2=>ND (Zm4 _) λx3 h3=>aa (λ_=>ar λy hy=>⟨hy▸J6 h _ h2,ej,m1⟩) (λb3=>?_)
 have hi:=h3 (by simpa using b3)
 refine ar λx5 _=>?_
 repeat'(first
  |refine aa (λ_=>?_) (λ_=>?_)
  |exact ar λy hy=>⟨hy▸J6 h _ h2,ej,m1⟩
  |exact bm (xU h hi) λy hy=>⟨hy.1,hy.2,m1⟩
  |exact bm (xaQ h hi) λy hy=>⟨hy,ej,m1⟩
  |exact bm (Zor h hi m1) λy hy=>⟨hy.1,ej,hy.2⟩
  |exact bm (DL h _ (fi _)) λy hy=>⟨hy.Bc (fi _),ej,m1⟩
  |refine ba (rc hi.c) ?_
  |refine ba (rc hi.b) ?_
  |exact bm (HU _ (h.r _) (h.r _)) λy hy=>bm (DL h _ hy) λz hz=>⟨hz.Bc (fi _),ej,m1⟩
  |exact bm (HU _ (h.r _) (fi _)) λy hy=>bm (DL h _ hy) λz hz=>⟨hz.Bc (fi _),ej,m1⟩)
theorem Ft{q:Int}(h:U q):bf .u32 q 1=q%2:=by
 obtain⟨h1,h2⟩:=h
 unfold bf
 rw[wrap_u32]
 have e1:(dW 32 q).toNat=q.toNat:=by rw[BitVec.toNat_ofInt];omega
 have e2:(dW 32 1).toNat=1:=by decide
 have:(dW u32.bits q&&&dW u32.bits 1).toNat=q.toNat%2:=by
  show(dW 32 q&&&dW 32 1).toNat=_
  rw[eA,e1,e2,Nat.and_one_is_mod]
 rw[this];omega
theorem Rx(b:Bool)(n:Int):(Ry b n).w (λ_=>True):=by
 unfold Ry
 exact aa (λ_=>ba (dY (by rw[wrap_u64];omega)) trivial) (λ_=>trivial)
theorem zaA(m:au):(Rz m).w (λ_=>True):=by
 unfold Rz
 exact ar λ_ _=>bm (Rx _ _) λ_ _=>ar λ_ _=>bm (Rx _ _) λ_ _=>ar λ_ _=>bm (Rx _ _) λ_ _=>ar λ_ _=>bm (Rx _ _) λ_ _=>ar λ_ _=>bm (Rx _ _) λ_ _=>trivial
theorem Zil(m:au):(LU m).w U:=by
 unfold LU
 exact bm (zaA m) λ_ _=>I7 _ _
theorem xaa(m:au):(LV m).w (λ_=>True):=by
 unfold LV
 exact aa (λ_=>bm (Zil m) λ_ _=>trivial) (λ_=>trivial)
theorem WT(m:au):(Ji m).w (λ_=>True):=by
 unfold Ji
 exact ar λ_ _=>aa (λ_=>trivial) (λ_=>aa (λ_=>trivial) (λ_=>bm (xaa m) λ_ _=>aa (λ_=>trivial) (λ_=>trivial)))
theorem S6{m:au}(h:iw m.B1):(LW m).w iw:=by
 unfold LW
 refine bm (Zil m) λx0 hx=>aa (λ_=>h) (λ_=>aa (λ_=>h) (λhb=>?_))
 have hb:x0≠0:=by simpa using hb
 have sh:∀z:Int,0<=z->z<=31->bg .u32 x0 (wrap .u64 z)=x0/2^z.toNat:=λz h1 h2=>by
  unfold bg
  have e:min (wrap .u64 z).toNat u32.bits=z.toNat:=by
   show min (wrap .u64 z).toNat 32=z.toNat
   rw[wrap_u64];omega
  rw[e,dP _ (dQ (dO (by decide)))]
 refine fy (inv:=λz=>0<=z/\z<=31/\x0/2^z.toNat≠0) (μ:=Qd6 m) ⟨by omega,by omega,by simpa using hb⟩ (cO _) (λz hz=>?_)
 obtain⟨z1,z2,z3⟩:=hz
 refine ba (dY (by rw[wrap_u64];omega)) (aa (λe=>fg ?_) (λ_=>ar λy hy=>hy▸J6 h _ ej))
 have e:=eq_of_beq e
 have hq:=AD hx (wrap .u64 z)
 rw[Ft hq,sh z z1 z2]at e
 rw[sh z z1 z2]at hq
 have cf:x0/2^z.toNat/2≠0:=by omega
 have z4:z<=30:=by
  rcases Int.lt_or_le z 31 with h|h
  ·omega
  ·have:z=31:=by omega
   subst this
   have:=hx.2
   have:=hx.1
   simp at z3 e cf
   omega
 show(0<=i64.wrap (z+1)/\i64.wrap (z+1)<=31/\x0/2^(i64.wrap (z+1)).toNat≠0)/\(32-i64.wrap (z+1)).toNat<(32-z).toNat
 have ew:i64.wrap (z+1)=z+1:=by rw[wrap_i64];omega
 rw[ew]
 refine⟨⟨by omega,by omega,?_⟩,by omega⟩
 have et:(z+1).toNat=z.toNat+1:=by omega
 rw[et,Int.pow_succ,<-Int.ediv_ediv_of_nonneg (dQ (dO (by decide)))]
 exact cf
theorem zA{P:Nat}{m:au}(h:iw m.B1)(hm:ek P m.Mem):(Qf m).w (λ_=>True):=by
 unfold Qf
 refine bm (S6 h) λx0 hx=>aa (λ_=>trivial) (λ_=>bm (OC hm hx.pc (.inr rfl)) λx1 _=>ar λx2 _=>?_)
 exact aa (λ_=>aa (λ_=>aa (λ_=>trivial) (λ_=>trivial)) (λ_=>trivial)) (λ_=>trivial)
theorem Qyp{P:Nat}{m:au}(h:iw m.B1)(hm:ek P m.Mem):(RA m).w (λ_=>True):=by
 unfold RA
 exact bm (WT m) λ_ _=>aa (λ_=>trivial) (λ_=>bm (zA h hm) λ_ _=>trivial)
theorem NY(l:List Int):(bytesOf l).length=l.length:=by simp[bytesOf]
theorem Tx(l:List UInt8):(Q2 l).length=l.length:=by simp[Q2]
theorem RB(x:Int):(MI x 4).w (λr=>r.length=4):=by
 unfold MI
 refine fy (inv:=λz=>0<=z.1/\z.1<=4/\(z.2.length:Int)=z.1) (μ:=Vj x 4) ⟨by omega,by omega,rfl⟩ (cO _) (λz hz=>?_)
 obtain⟨z1,z2,z3⟩:=hz
 refine aa (λh=>ba (dY (by rw[wrap_u64];omega)) (ba (dY (by omega)) (fg ?_))) (λh=>?_)
 ·have h:=oY h
  show(0<=i64.wrap (z.1+1)/\i64.wrap (z.1+1)<=4/\((z.2++[_]).length:Int)=i64.wrap (z.1+1))/\(4-i64.wrap (z.1+1)).toNat<(4-z.1).toNat
  have ew:i64.wrap (z.1+1)=z.1+1:=by rw[wrap_i64];omega
  rw[ew]
  refine⟨⟨by omega,by omega,by simp;omega⟩,by omega⟩
 ·have h:=oN h
  show(bytesOf z.2).length=4
  rw[NY];omega
theorem qab{P:Nat}{m:List Int}(hm:ek P m)(frame:Int):(GY m frame).w (λr=>0<=frame->frame<P->r.1.length=128):=by
 have hp:=DV hm
 have hl:=hm.len
 have h2:=hm.p2
 unfold GY
 refine aa (λh=>λh0 _=>by have:=oY h;omega) (λh=>ar λx0 hx=>aa (λh1=>λ_ h2=>by have:=oY h1;rw[hx,hp]at this;omega) (λh1=>?_))
 have h:=oN h
 have h1:=oN h1
 rw[hx,hp]at h1
 refine fy (inv:=λz=>0<=z.1/\z.1<=32/\(z.2.length:Int)=4*z.1) (μ:=Xw m frame) ⟨by omega,by omega,rfl⟩ (cO _) (λz hz=>?_)
 obtain⟨z1,z2,z3⟩:=hz
 refine aa (λhb=>?_) (λhb=>?_)
 ·have hb:=oY hb
  have e:wrap i64 (wrap i64 (frame*32)+z.1)=frame*32+z.1:=by rw[wrap_i64,wrap_i64];omega
  refine ba (by rw[e];simp[bJ];omega) (cz (show(4:Int)<=1000000000000 by decide) (ND (RB _) λx1 h4=>ba (dY (by rw[Tx,h4];omega)) (fg ?_)))
  show(0<=i64.wrap (z.1+1)/\i64.wrap (z.1+1)<=32/\((z.2++Q2 x1).length:Int)=4*i64.wrap (z.1+1))/\(32-i64.wrap (z.1+1)).toNat<(32-z.1).toNat
  have ew:i64.wrap (z.1+1)=z.1+1:=by rw[wrap_i64];omega
  rw[ew,lA,Tx,h4]
  exact⟨⟨by omega,by omega,by omega⟩,by omega⟩
 ·have hb:=oN hb
  intro _ _
  show(bytesOf z.2).length=128
  rw[NY];omega
theorem Zem{P:Nat}{m:List Int}(hm:ek P m){d:fp}(hd:ox d)(port:Int){v:Int}(hv:U v)(dh:Int):(G6 d m port v dh).w (λr=>ox r.1/\r.2.length<=1):=by
 have k:∀st,ox {ag:=d.ag,C1:=d.C1,Frame:=d.Frame,B7:=st,D5:=d.D5,B6:=d.B6,B2:=d.B2,B8:=d.B8}:=λst=>⟨hd.block,hd.frame,hd.kj,hd.ib⟩
 have k2:∀c o,ox {ag:=d.ag,C1:=d.C1,Frame:=d.Frame,B7:=1,D5:=c,B6:=d.C1,B2:=d.Frame,B8:=o}:=λc o=>⟨hd.block,hd.frame,hd.block,hd.frame⟩
 have k3:ox {ag:=d.ag,C1:=v,Frame:=d.Frame,B7:=d.B7,D5:=d.D5,B6:=d.B6,B2:=d.B2,B8:=d.B8}:=⟨hv,hd.frame,hd.kj,hd.ib⟩
 have k4:ox {ag:=d.ag,C1:=d.C1,Frame:=v,B7:=d.B7,D5:=d.D5,B6:=d.B6,B2:=d.B2,B8:=d.B8}:=⟨hd.block,hv,hd.kj,hd.ib⟩
 unfold G6
 repeat'(first
  |refine aa (λ_=>?_) (λ_=>?_)
  |exact bm (qab hm _) λ_ _=>ar λ_ _=>⟨k2 _ _,aO _⟩
  |refine ar (λ_ _=>?_)
  |refine ey ?_)
 all_goals(first
  |exact⟨hd,aT _⟩
  |exact⟨k _,aT _⟩
  |exact⟨k2 _ _,aO _⟩
  |exact⟨k3,aT _⟩
  |exact⟨k4,aT _⟩)
theorem Zlr{P:Nat}{m:List Int}(hm:ek P m){n:ia}(hn:pq n)(port:Int){v:Int}(hv:U v)(dh:Int):(LK n m port v dh).w (λr=>pq r.1/\r.2.length<=1):=by
 have k1:pq {Frame:=v,E0:=n.E0,C5:=n.C5,B9:=n.B9,B5:=n.B5,F1:=n.F1}:=⟨hv,hn.len,hn.buffer,hn.GJ⟩
 have k2:pq {Frame:=n.Frame,E0:=v,C5:=n.C5,B9:=n.B9,B5:=n.B5,F1:=n.F1}:=⟨hn.frame,hv,hn.buffer,hn.GJ⟩
 have k3:pq {Frame:=n.Frame,E0:=n.E0,C5:=n.C5,B9:=n.B9,B5:=false,F1:=0}:=⟨hn.frame,hn.len,hn.buffer,ej⟩
 have k4:∀p r,pq {Frame:=n.Frame,E0:=n.E0,C5:=p,B9:=n.Frame,B5:=r,F1:=n.F1}:=λp r=>⟨hn.frame,hn.len,hn.frame,hn.GJ⟩
 have send:∀K:List UInt8×Bool->Tree (ia×List dx),nS m n.Frame=true->(∀x:List UInt8×Bool,x.1.length=128->(K x).w (λr=>pq r.1/\r.2.length<=1))->(Tree.an (Qgf m (wrap .i64 n.Frame)) (.lv (Lq m (wrap .i64 n.Frame)) K)).w (λr=>pq r.1/\r.2.length<=1):=λK hp hK=>by
  rw[Fu hm hn.frame]at hp
  have hp:=oY hp
  obtain⟨f1,f2⟩:=hn.frame
  have ew:i64.wrap n.Frame=n.Frame:=by rw[wrap_i64];omega
  exact bm (qab hm _) λx hx=>hK x (hx (by rw[ew];exact f1) (by rw[ew];exact hp))
 unfold LK
 repeat'(first
  |refine aa (λ_=>?_) (λ_=>?_)
  |refine send _ (by simp_all) (λx hx=>ba (by simp_all;exact hn.len.1) ?_)
  |refine ar (λ_ _=>?_)
  |refine ey ?_)
 all_goals(first
  |exact⟨hn,aT _⟩
  |exact⟨hn,aO _⟩
  |exact⟨k1,aT _⟩
  |exact⟨k2,aT _⟩
  |exact⟨k3,aT _⟩
  |exact⟨k4 _ _,aT _⟩)
def okB(b:gv):Prop:=U b.C6/\U b.C2
theorem zab{P:Nat}{m:List Int}(hm:ek P m){b:gv}(hb:okB b)(port:Int){v:Int}(hv:U v):(Bm b m port v).w (λr=>okB r.1/\ek P r.2):=by
 have wx:decide (0<=v)=true:=dY hv.1
 have h2:=hm.p2
 have rest:(Tree.br (port==11) (.br (decide (v<32)) (.cn (decide (0<=v)) (.lf (({C6:=b.C6,C2:=nQ .u32 b.C2 (eg .u32 1 v)}:gv),m))) (.lf (b,m))) (.lf (b,m))).w (λr=>okB r.1/\ek P r.2):=
  aa (λ_=>aa (λ_=>ba wx ⟨⟨hb.1,fi _⟩,hm⟩) (λ_=>⟨hb,hm⟩)) (λ_=>⟨hb,hm⟩)
 unfold Bm
 refine aa (λ_=>ar λx0 hx=>aa (λhp=>ba wx (aa (λ_=>ba wx ?_) (λ_=>rest))) (λ_=>rest)) (λ_=>rest)
 have hp:nS m v=true:=hx.symm.trans hp
 rw[Fu hm hv]at hp
 have hp:=oY hp
 obtain⟨v1,v2⟩:=hv
 refine fy (inv:=λz=>0<=z.1/\z.1<=32/\ek P z.2) (μ:=XX b m port v) ⟨by omega,by omega,hm⟩ (cO _) (λz hz=>?_)
 obtain⟨z1,z2,z3⟩:=hz
 have hl:=z3.len
 refine aa (λh=>?_) (λ_=>⟨⟨hb.1,fi _⟩,z3⟩)
 have h:=oY h
 have e:wrap i64 (wrap i64 (wrap i64 v*32)+z.1)=v*32+z.1:=by rw[wrap_i64,wrap_i64,wrap_i64];omega
 refine ba (by rw[e];simp[bJ];omega) (fg ?_)
 show(0<=i64.wrap (z.1+1)/\i64.wrap (z.1+1)<=32/\ek P (dG _ _ _))/\(32-i64.wrap (z.1+1)).toNat<(32-z.1).toNat
 have ew:i64.wrap (z.1+1)=z.1+1:=by rw[wrap_i64];omega
 rw[ew]
 exact⟨⟨by omega,by omega,⟨by simp[hl],z3.p1,z3.p2,Z7 z3.u ej _⟩⟩,by omega⟩
structure nH(P:Nat)(m:au):Prop where
 lY:iw m.B1
 mem:ek P m.Mem
 kR:ox m.A7
 sK:pq m.C3
 target:okB m.A2
 lS:0<=m.A1
theorem Z35(c:iT)(port:Int):U (Jd c port).2:=by
 refine Tree.post (G5 c port) (W:=λr=>U r.2) ?_
 have u1:U 4294967295:=⟨by omega,by omega⟩
 unfold G5
 refine aa (λ_=>aa (λ_=>u1) (λh=>aa (λ_=>ba ?_ (ba ?_ (fi _))) (λ_=>aa (λ_=>fi _) (λ_=>ej)))) (λh1=>aa (λh=>(by rw[h1]at h;cases h)) (λ_=>aa (λ_=>fi _) (λ_=>ej)))
 ·have h:¬(c.D1.length:Int)=0:=by simpa using h
  exact dY ⟨by omega,by omega,by omega⟩
 ·have h:¬(c.D1.length:Int)=0:=by simpa using h
  simp[bJ];omega
theorem yA{n:ia}(h:pq n)(port:Int):U (OD n port):=by
 refine Tree.post (OE n port) (W:=U) ?_
 have u1:U 1:=⟨by omega,by omega⟩
 unfold OE
 exact aa (λ_=>h.frame) (λ_=>aa (λ_=>h.GJ) (λ_=>aa (λ_=>aa (λ_=>aa (λ_=>fi _) (λ_=>u1)) (λ_=>aa (λ_=>fi _) (λ_=>ej))) (λ_=>ej)))
theorem Zms{d:fp}(h:ox d)(port:Int):U (TX d port):=by
 refine Tree.post (Vk d port) (W:=U) ?_
 unfold Vk
 exact aa (λ_=>h.block) (λ_=>aa (λ_=>h.frame) (λ_=>aa (λ_=>fi _) (λ_=>ej)))
theorem Zfd(t:iU):U (TY t):=by
 refine Tree.post (Vl t) (W:=U) ?_
 unfold Vl
 exact aa (λ_=>⟨by omega,by omega⟩) (λ_=>ej)
theorem Z2k{b:gv}(h:U b.C6)(port:Int):U (Jf b port):=by
 refine Tree.post (LP b port) (W:=U) ?_
 unfold LP
 exact aa (λ_=>h) (λ_=>aa (λ_=>ar λ_ _=>fi _) (λ_=>ej))
structure pn(P:Nat)(r:cw):Prop where
 m:nH P r.A0
 clock:U r.B3
structure HV(P:Nat)(r x:cw):Prop where
 ok:pn P x
 log:x.C7=r.C7
 queue:x.B0=r.B0
theorem w0(x:Int):0<=u64.wrap x:=by rw[wrap_u64];omega
section
variable {P:Nat} {r:cw} (h:pn P r)
include h
theorem Jah(port:Int){clock:Int}(hc:U clock):(OS r port clock).w (λx=>U x.1/\HV P r x.2):=by
 have k:HV P r r:=⟨h,rfl,rfl⟩
 obtain⟨⟨h1,h2,h3,h4,h5,h7⟩,h6⟩:=h
 unfold OS
 exact aa (λ_=>ar λx hx=>⟨hx▸Z35 _ _,⟨⟨⟨h1,h2,h3,h4,h5,h7⟩,h6⟩,rfl,rfl⟩⟩) (λ_=>aa (λ_=>⟨hc,k⟩) (λ_=>aa (λ_=>ar λx hx=>⟨hx▸Zfd _,k⟩) (λ_=>aa (λ_=>ar λx hx=>⟨hx▸Zms h3 _,k⟩) (λ_=>aa (λ_=>ar λx hx=>⟨hx▸yA h4 _,k⟩) (λ_=>ar λx hx=>⟨hx▸Z2k h5.1 _,k⟩)))))
theorem RC(port:Int){v:Int}(hv:U v):(L0 r port v).w (λx=>x.1.length<=1/\HV P r x.2):=by
 have k:HV P r r:=⟨h,rfl,rfl⟩
 obtain⟨⟨h1,h2,h3,h4,h5,h7⟩,h6⟩:=h
 unfold L0
 exact aa (λ_=>⟨aO _,k⟩) (λ_=>aa (λ_=>⟨aT _,k⟩) (λ_=>aa (λ_=>ar λ_ _=>⟨aT _,⟨⟨⟨h1,h2,h3,h4,h5,h7⟩,h6⟩,rfl,rfl⟩⟩) (λ_=>aa (λ_=>bm (Zem h2 h3 _ hv _) λx hx=>⟨hx.2,⟨⟨⟨h1,h2,hx.1,h4,h5,h7⟩,h6⟩,rfl,rfl⟩⟩) (λ_=>aa (λ_=>bm (Zlr h2 h4 _ hv _) λx hx=>⟨hx.2,⟨⟨⟨h1,h2,h3,hx.1,h5,h7⟩,h6⟩,rfl,rfl⟩⟩) (λ_=>bm (zab h2 h5 _ hv) λx hx=>⟨aT _,⟨⟨⟨h1,hx.2,h3,h4,hx.1,h7⟩,h6⟩,rfl,rfl⟩⟩)))))
theorem S5{clock:Int}(hc:U clock):(L3 r clock).w (λx=>x.1.length<=1/\HV P r x.2):=by
 obtain⟨⟨h1,h2,h3,h4,h5,h7⟩,h6⟩:=h
 unfold L3
 refine bm (S6 h1) λx0 c0=>bm (Fb c0 h2) λx1 hx=>?_
 obtain⟨c1,v1,m1⟩:=hx
 refine aa (λ_=>ND (Jah (r:=⟨⟨_,_,_,_,_,_,_,_,_,_⟩,_,_,_⟩) ⟨⟨c1,m1,h3,h4,h5,h7⟩,h6⟩ _ hc) λx2 hx=>?_) (λ_=>aa (λ_=>bm (RC (r:=⟨⟨_,_,_,_,_,_,_,_,_,_⟩,_,_,_⟩) ⟨⟨c1,m1,h3,h4,h5,h7⟩,h6⟩ _ v1) λx4 hx=>?_) (λ_=>?_))
 ·obtain⟨u,⟨⟨⟨k1,k2,k3,k4,k5,k7⟩,k6⟩,e1,e2⟩⟩:=hx
  exact bm (DL k1 _ u) λx3 h3=>⟨aT _,⟨⟨⟨h3,k2,k3,k4,k5,w0 _⟩,k6⟩,e1,e2⟩⟩
 ·obtain⟨u,⟨⟨⟨k1,k2,k3,k4,k5,k7⟩,k6⟩,e1,e2⟩⟩:=hx
  exact⟨u,⟨⟨⟨k1,k2,k3,k4,k5,w0 _⟩,k6⟩,e1,e2⟩⟩
 ·repeat'(first
   |exact⟨aT _,⟨⟨⟨c1,m1,h3,h4,h5,w0 _⟩,h6⟩,rfl,rfl⟩⟩
   |refine aa (λ_=>?_) (λ_=>?_))
end
theorem xab(c:iT)(b:Int):(RD c b).w (λ_=>True):=by
 unfold RD
 refine aa (λ_=>trivial) (λh=>ba (dY ?_) trivial)
 have h:=oN h
 simp[maxLen];omega
theorem Zmx{P:Nat}{m:List Int}(hm:ek P m){n:ia}(hn:pq n)(frame:List UInt8):(LN n m frame).w (λr=>pq r.1/\ek P r.2.2):=by
 unfold LN
 refine aa (λ_=>⟨hn,hm⟩) (λ_=>aa (λ_=>⟨hn,hm⟩) (λ_=>aa (λ_=>⟨hn,hm⟩) (λ_=>ar λx0 hx=>aa (λ_=>⟨hn,hm⟩) (λhb=>?_))))
 have hp:nS m n.B9=true:=hx.symm.trans (by simpa using hb)
 rw[Fu hm hn.buffer]at hp
 have hp:=oY hp
 obtain⟨b1,b2⟩:=hn.buffer
 have ew:i64.wrap n.B9=n.B9:=by rw[wrap_i64];omega
 exact bm (qaa hm (frame:=i64.wrap n.B9) (by rw[ew];exact b1) (by rw[ew];exact hp) frame) λx hx=>⟨⟨hn.frame,hn.len,ej,fi _⟩,hx⟩
section
variable {P:Nat} {r:cw} (h:pn P r)
include h
theorem xaA{e:gx}(he:U e.N):(L1 r e).w (λx=>HV P r x.2):=by
 have k:HV P r r:=⟨h,rfl,rfl⟩
 obtain⟨⟨h1,h2,h3,h4,h5,h7⟩,h6⟩:=h
 unfold L1
 repeat'(first
  |exact k
  |exact⟨⟨⟨h1,h2,h3,h4,⟨he,h5.2⟩,h7⟩,h6⟩,rfl,rfl⟩
  |exact ar λ_ _=>⟨⟨⟨h1,h2,h3,h4,h5,h7⟩,h6⟩,rfl,rfl⟩
  |exact bm (xab _ _) λ_ _=>⟨⟨⟨h1,h2,h3,h4,h5,h7⟩,h6⟩,rfl,rfl⟩
  |exact bm (Zlw h2 h3 _) λx hx=>⟨⟨⟨h1,hx.2,hx.1,h4,h5,h7⟩,h6⟩,rfl,rfl⟩
  |exact bm (Zmx h2 h4 _) λx hx=>⟨⟨⟨h1,hx.2,h3,hx.1,h5,h7⟩,h6⟩,rfl,rfl⟩
  |refine aa (λ_=>?_) (λ_=>?_))
theorem vA{e:gx}(he:U e.N)(hl:r.C7.length<=1000000):(L5 r e).w (λx=>pn P x/\x.C7.length<=r.C7.length+1/\x.B0=r.B0):=by
 have acc:(L4 r e).w (λx=>HV P r x.2):=by
  unfold L4
  exact bm (xaA h he) λx hx=>hx
 unfold L5
 refine bm acc λx hx=>?_
 obtain⟨⟨k1,k2⟩,e1,e2⟩:=hx
 refine aa (λ_=>ba (dY (by rw[e1];omega)) ⟨⟨k1,k2⟩,by simp[e1],e2⟩) (λ_=>⟨⟨k1,k2⟩,by rw[e1];omega,e2⟩)
theorem Gy(hl:r.C7.length<=1000000)(hq:r.B0.length<=1000000):(L6 r).w (λx=>pn P x/\x.C7=r.C7/\x.B0=r.B0):=by
 have ow:(GA r.A0).w (λm=>nH P m):=by
  obtain⟨⟨h1,h2,h3,h4,h5,h7⟩,h6⟩:=h
  unfold GA
  exact bm (y9 h2) λx hx=>⟨h1,by rw[hx];exact h2,h3,h4,h5,h7⟩
 unfold L6
 refine bm ow λx hx=>ba (dY (by simp;omega)) (ba (dY (by simp;omega)) ⟨⟨hx,h.clock⟩,rfl,rfl⟩)
theorem zU(e:gx)(hl:r.C7.length<=1000000)(hq:r.B0.length<=16)(hu:∀q∈r.B0,U q.N)(he:U e.N):(Q8 r e).w (λx=>pn P x.1/\x.1.C7=r.C7/\x.1.B0.length<=16/\∀q∈x.1.B0,U q.N):=by
 unfold Q8
 refine bm (Gy h hl (by omega)) λx hx=>?_
 obtain⟨k1,k2,k3⟩:=hx
 have g:pn P x/\x.C7=r.C7/\x.B0.length<=16/\∀q∈x.B0,U q.N:=⟨k1,k2,by rw[k3];exact hq,by rw[k3];exact hu⟩
 refine ar λx1 _=>aa (λ_=>g) (λ_=>aa (λ_=>g) (λ_=>aa (λ_=>g) (λhb=>ba (dY (by rw[k3];omega)) ?_)))
 have hb:=oN hb
 refine⟨⟨k1.m,k1.clock⟩,k2,?_,?_⟩
 ·show(x.B0++[e]).length<=16
  rw[lA];simp at hb⊢;omega
 ·intro q hq
  have hq:q∈x.B0++[e]:=hq
  rw[List.mem_append]at hq
  rcases hq with hq|hq
  ·exact hu q (k3▸hq)
  ·rw[List.mem_singleton.1 hq];exact he
end
theorem qB(n:Int):(RE n).w (λe=>U e.N):=by
 have u1:U 1:=⟨by omega,by omega⟩
 have Jai:∀x y,MJ x (wrap .i64 (1+dE y 40)):=λx y=>by
  show wrap .i64 (1+dE y 40)<=1000000000000
  have h1:=Int.tmod_lt_of_pos y (b:=40) (by decide)
  have h2:=Int.lt_tmod_of_pos y (b:=40) (by decide)
  rw[wrap_i64];omega
 unfold RE
 refine ar λx0 _=>?_
 repeat'(first
  |exact ej
  |exact u1
  |exact fi _
  |exact cz (show(128:Int)<=1000000000000 by decide) (ar λ_ _=>u1)
  |exact cz (Jai _ _) (ar λ_ _=>ej)
  |refine aa (λ_=>?_) (λ_=>?_))

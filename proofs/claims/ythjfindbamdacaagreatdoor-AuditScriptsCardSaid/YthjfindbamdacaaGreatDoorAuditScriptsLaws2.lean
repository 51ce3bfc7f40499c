import Derived.Test.YthjfindbamdacaaGreatDoorAuditScriptsZx
open List renaming set->dG,mem_cons->cS,not_mem_nil->cU
open Nat renaming blt->bJ,beq->bT,lt_succ_self->cO,le_refl->aO,zero_le->aT
open Int renaming pow_pos->dO,le_of_lt->dQ,fdiv_eq_ediv_of_nonneg->dP,tmod->dE,mul_tmod_right->hH,mul_tdiv_cancel_left->hJ,tdiv->eU,tdiv_eq_ediv_of_nonneg->eV,emod_eq_of_lt->dM,lt_of_lt_of_le->hY,le_of_eq->hZ
open BitVec renaming ofInt->dW,toNat_and->eA
set_option maxRecDepth 100000
set_option linter.all false
namespace Go.Proofs.YthjfindbamdacaaGreatDoor
open Go Go.GD
open Go.IntKind(wrap i64 u32 u64 u8 i32 wrap_i64 wrap_u32 wrap_u64 wrap_u8 wrap_i32)
def U(x:Int):Prop:=0<=x/\x<4294967296
theorem fg(x:Int):U (u32.wrap x):=by rw[wrap_u32];unfold U;omega
theorem I9(x y:Int):U (bf .u32 x y):=fg _
theorem nb(x y:Int):U (ir .u32 x y):=fg _
theorem ek:U 0:=⟨by omega,by omega⟩
theorem DR{m:List Int}(h:∀w∈m,U w){v:Int}(hv:U v)(i:Nat):∀w∈m.set i v,U w:=by
 intro w hw
 rcases List.mem_or_eq_of_mem_set hw with h1|h1
 ·exact h w h1
 ·rw[h1];exact hv
structure ep(P:Nat)(m:List Int):Prop where
 len:m.length=32*P
 p1:0<=P
 p2:P<=32
 u:∀w∈m,U w
structure ox(d:fp):Prop where
 block:U d.C1
 frame:U d.Frame
 kh:U d.B6
 ib:U d.B2
structure pr(n:ia):Prop where
 frame:U n.Frame
 len:U n.E0
 buffer:U n.C0
 GJ:U n.F1
theorem AK{l:List Int}(h:∀w∈l,U w)(i:Nat):U (l.getD i 0):=by
 by_cases hi:i<l.length
 ·have:l.getD i 0=l[i]:=by simp[List.getD,hi]
  rw[this];exact h _ (List.getElem_mem hi)
 ·have:l.getD i 0=0:=by simp[List.getD,List.getElem?_eq_none (by omega:l.length<=i)]
  rw[this];exact ek
structure iy(c:bh):Prop where
 x:∀w∈iU.l c.X,U w
 pc:U c.Pc
 jo:∀w∈A8.l c.B4,U w
theorem Xp{X:iU Int}(h:∀w∈iU.l X,U w){v:Int}(hv:U v)(i:Nat):∀w∈iU.l (iU.of 0 (dG (iU.l X) i v)),U w:=by
 have hs:=DR h hv i
 intro w hw
 simp only[iU.l,iU.of,cS,cU,or_false]at hw
 repeat(first|(rcases hw with rfl|hw;· exact AK hs _)|(subst hw;exact AK hs _))
theorem Zhs{X:A8 Int}(h:∀w∈A8.l X,U w){v:Int}(hv:U v)(i:Nat):∀w∈A8.l (A8.of 0 (dG (A8.l X) i v)),U w:=by
 have hs:=DR h hv i
 intro w hw
 simp only[A8.l,A8.of,cS,cU,or_false]at hw
 repeat(first|(rcases hw with rfl|hw;· exact AK hs _)|(subst hw;exact AK hs _))
section
variable {c:bh} (h:iy c)
include h
theorem iy.a(i:Nat):U ((A8.l c.B4).getD i 0):=AK h.jo i
theorem iy.r(i:Nat):U ((iU.l c.X).getD i 0):=AK h.x i
theorem iy.a0:U c.B4.a0:=h.a 0
theorem iy.a1:U c.B4.a1:=h.a 1
theorem iy.a2:U c.B4.a2:=h.a 2
theorem iy.a3:U c.B4.a3:=h.a 3
theorem iy.a4:U c.B4.a4:=h.a 4
theorem iy.a5:U c.B4.a5:=h.a 5
theorem iy.a6:U c.B4.a6:=h.a 6
theorem iy.a7:U c.B4.a7:=h.a 7
theorem iy.Bh{p:Int}(hp:U p):iy {X:=c.X,Pc:=p,B4:=c.B4}:=⟨h.x,hp,h.jo⟩
end
section
variable {α β:Type} {W:β->Prop} {t:Tree α} {Q:α->Prop} {k:α->Tree β}
theorem bm(hq:t.w Q)(g:∀x,Q x->(k x).w W):(Tree.an t.p (Tree.lv t.m k)).w W:=⟨(Tree.pp hq).1,λy hy=>g y (by rw[hy];exact(Tree.pp hq).2)⟩
theorem NO(hq:t.w Q)(g:∀x,Q x->(k x).w W):(Tree.lv t.m k).w W:=λy hy=>g y (by rw[hy];exact t.post hq)
end
theorem rc{r:Int}(h:0<=r/\r<16):(bJ 0 1&&decide (0<=r/\r<((16:Nat):Int)))=true:=by simp[bJ];omega
theorem AJ{a:Int}(h:U a)(b:Int):U (bg .u32 a b):=by
 unfold bg U
 obtain⟨h1,h2⟩:=h
 have hp:(0:Int)<2^(min b.toNat u32.bits):=dO (by decide)
 have:=Int.fdiv_nonneg h1 (dQ hp)
 refine⟨this,?_⟩
 rw[dP _ (dQ hp)]
 have h3:=Int.ediv_le_self (2^(min b.toNat u32.bits)) h1
 omega
structure sM(i:gu):Prop where
 a:0<=i.A/\i.A<16
 b:0<=i.B/\i.B<16
 c:0<=i.C/\i.C<16
 jo:i.Op=58->0<=i.bn/\i.bn<8
theorem XH{P:Nat}{m:List Int}(h:ep P m):lT m=P:=by
 obtain⟨h1,h2,h3,_⟩:=h
 simp only[lT,Lb,Tree.m]
 have e:(m.length:Int)=32*P:=by omega
 rw[e]
 have e1:(dE (32*(P:Int)) 32 !=0)=false:=by simp[hH]
 have e2:decide ((32*(P:Int))>1024)=false:=dN (by omega)
 rw[e1,e2]
 simp only[cond_false]
 rw[hJ _ (by decide),wrap_i64];omega
theorem xaa(n:Int):(Ro n).w (λ_=>True):=by
 unfold Ro
 exact aa (λ_=>trivial) (λ_=>ba (dY (by rw[wrap_u64];omega)) trivial)
theorem MN(w low n:Int):(Rp w low n).w U:=by
 unfold Rp
 exact aa (λ_=>ek) (λ_=>aa (λ_=>ek) (λ_=>aa (λ_=>ek) (λ_=>ba (dY (by rw[wrap_u64];omega)) (bm (xaa n) λ_ _=>I9 _ _))))
theorem Zop{w:Int}(hw:U w)(low n v:Int):(Rq w low n v).w U:=by
 have h0:decide (0<=wrap u64 low)=true:=dY (by rw[wrap_u64];omega)
 unfold Rq
 exact aa (λ_=>hw) (λ_=>aa (λ_=>hw) (λ_=>aa (λ_=>hw) (λ_=>bm (xaa n) λ_ _=>ba h0 (ba h0 (nb _ _)))))
theorem Xi{x:Int}(hx:U x)(n:Int):(Rr x n).w U:=by
 have h0:∀y,decide (0<=wrap u64 y)=true:=λy=>dY (by rw[wrap_u64];omega)
 unfold Rr
 exact aa (λ_=>ek) (λ_=>aa (λ_=>hx) (λ_=>ba (h0 _) (ba (h0 _) (fg _))))
section
variable {P:Nat} {m:List Int} (h:ep P m)
include h
theorem rU:mL m:=by
 have:=h.len
 have:=h.p2
 show m.length<=35184372088832
 omega
theorem Zeb{a:Int}(ha:U a){size:Int}(hs:size=1\/size=4):(Jc m a size).w (λb=>b=true->a+size<=128*P):=by
 have hp:=XH h
 have h2:=h.p2
 obtain⟨a1,a2⟩:=ha
 have e:decide (wrap u32 size≠0)=true:=by rcases hs with rfl|rfl<;>decide
 have l:∀x,x=lT m->decide (wrap u64 (wrap u64 a+wrap u64 size)<=wrap u64 (wrap u64 x*128))=true->a+size<=128*P:=λx hx hd=>by
  rw[hx,hp]at hd
  have:=oY hd
  simp only[wrap_u64]at this
  omega
 unfold Jc
 refine aa (λ_=>aa (λ_=>λh=>by cases h) (λ_=>?_)) (λ_=>?_)<;>
 exact ba e (aa (λ_=>λh=>by cases h) (λ_=>ar λx hx=>l x hx))
theorem F6{a:Int}(ha:U a)(hl:a<128*P):(bT 1 1&&bJ 0 1&&decide (0<=wrap u32 (eU a 4)/\wrap u32 (eU a 4)<(m.length:Int)))=true:=by
 obtain⟨a1,a2⟩:=ha
 have e:wrap u32 (eU a 4)=a/4:=by rw[wrap_u32,eV a1];omega
 have:=h.len
 rw[e];simp[bJ];omega
theorem I3{a:Int}(ha:U a){size:Int}(hs:size=1\/size=4):(LA m a size).w (λr=>U r.1/\(r.2=true->a<128*P)):=by
 unfold LA
 refine bm (Zeb h ha hs) λx hx=>aa (λ_=>⟨ek,λh=>by cases h⟩) (λhb=>?_)
 have hl:=hx (by simpa using hb)
 have hl:a<128*P:=by omega
 exact ba (F6 h ha hl) (aa (λ_=>bm (MN _ _ _) λy hy=>⟨hy,λ_=>hl⟩) (λ_=>⟨AK h.u _,λ_=>hl⟩))
theorem Ts{a:Int}(ha:U a){size:Int}(hs:size=1\/size=4){v:Int}(hv:U v):(Q8 m a size v).w (λr=>ep P r.1):=by
 have st:∀i v,U v->ep P (m.set i v):=λi v hv=>⟨by simp[h.len],h.p1,h.p2,DR h.u hv i⟩
 have gn:jD m=m:=rfl
 unfold Q8
 refine cz (rU h) (ar λx0 nJ=>?_)
 rw[gn]at nJ;subst nJ
 refine bm (Zeb h ha hs) λx hx=>aa (λ_=>h) (λhb=>?_)
 have hl:=hx (by simpa using hb)
 have hl:a<128*P:=by omega
 exact aa (λ_=>ba (F6 h ha hl) (bm (Zop (AK h.u _) _ _ _) λy hy=>ba (F6 h ha hl) (st _ _ hy))) (λ_=>ba (F6 h ha hl) (st _ _ hv))
end
theorem Zjl{r:Int}{used:Bool}(h:Lu r used=true):0<=r/\r<16:=by
 simp only[Lu,Tw,Tree.m]at h
 cases used
 ·have h:(r==0)=true:=h
  have:=eq_of_beq h;omega
 ·cases h1:decide (r>=0)<;>rw[h1]at h
  ·cases h
  ·have h1:=oY h1
   have h:=oY h
   omega
theorem yz{i:gu}(h:I8 i=true):sM i:=by
 have no:false=true->sM i:=λh=>by cases h
 refine(Tree.post (Ou i) (W:=λb=>b=true->sM i) ?_) h
 unfold Ou
 refine ar λx0 h0=>aa (λ_=>ar λx1 h1=>aa (λb1=>ar λx2 h2=>aa (λb2=>ar λx3 h3=>aa (λb3=>aa (λb4=>λb5=>?_) (λ_=>no)) (λ_=>no)) (λ_=>no)) (λ_=>no)) (λ_=>no)
 have b4:=oY b4
 have b5:=oY b5
 refine⟨Zjl (h1.symm.trans b1),Zjl (h2.symm.trans b2),Zjl (h3.symm.trans b3),λe=>?_⟩
 rw[e]at h0
 have h0:x0=({a:=true,b:=false,c:=false,low:=0,D7:=7},true):=h0
 subst h0
 simp at b4 b5;omega
theorem Xj(w:Int):(Lw w).w (λr=>r.2=true->sM r.1):=by
 have no:∀{p:Prop},false=true->p:=λh=>by cases h
 have l:∀i,(Tree.lv (I8 i) λx=>.br (!x) (.lf ((⟨0,0,0,0,0⟩:gu),false)) (.lf (i,true))).w (λr=>r.2=true->sM r.1):=λi=>ar λx hx=>aa (λ_=>no) (λhb=>λ_=>yz (hx.symm.trans (by simpa using hb)))
 unfold Lw
 exact bm (MN _ _ _) λx0 _=>bm (MN _ _ _) λx1 _=>bm (MN _ _ _) λx2 _=>ar λx3 _=>aa (λ_=>no) (λ_=>bm (MN _ _ _) λx4 h4=>aa (λ_=>l _) (λ_=>aa (λ_=>bm (Xi h4 _) λx6 _=>l _) (λ_=>l _)))
section
variable {P:Nat} {m:List Int} (h:ep P m)
include h
theorem yT{f:Int}(hf:U f):Oy m f=decide (f<P):=by
 have:=XH h
 obtain⟨h1,h2⟩:=hf
 have h3:=h.p2
 simp only[Oy,Qhs,Tree.m,dd,this]
 congr 1
 rw[wrap_u64,wrap_u64,dM h1 (by omega),dM (by omega) (by omega)]
theorem qaA{root va:Int}(hv:U va)(access:Int):(LD m root va access).w (λt=>U t.Addr/\U t.F3):=by
 have bad:U (0:Int)/\U (0:Int):=⟨ek,ek⟩
 have fr:∀x,(Rs x).w U:=λx=>by
  unfold Rs
  exact bm (MN _ _ _) λy hy=>hy
 unfold LD
 exact ar λx0 _=>aa (λ_=>bad) (λ_=>aa (λ_=>bad) (λ_=>ar λx1 _=>aa (λ_=>bad) (λ_=>bm (I3 h (fg _) (.inr rfl)) λx2 _=>aa (λ_=>bad) (λ_=>ar λx3 _=>aa (λ_=>bad) (λ_=>bm (fr _) λx4 _=>ar λx5 _=>aa (λ_=>bad) (λ_=>bm (fr _) λx6 _=>⟨fg _,fg _⟩))))))
theorem vT{a:Int}(ha:U a)(access:Int):(LF m a access).w (ep P):=by
 have gn:jD m=m:=rfl
 unfold LF
 exact bm (I3 h ha (.inr rfl)) λx0 _=>aa (λ_=>cz (rU h) (ar λx1 h1=>by rw[h1,gn];exact h)) (λ_=>aa (λ_=>bm (Ts h ha (.inr rfl) (nb _ _)) λx hx=>hx) (λ_=>bm (Ts h ha (.inr rfl) (nb _ _)) λx hx=>hx))
theorem Oo{c:bh}{va:Int}(hv:U va){size:Int}(hs:size=1\/size=4)(access:Int):(LK c m va size access).w (λr=>U r.1/\ep P r.2.1):=by
 have gn:jD m=m:=rfl
 have e:decide (wrap u32 size≠0)=true:=by rcases hs with rfl|rfl<;>decide
 have cl:∀(K:List Int->Int×List Int×Int),(∀x,x=m->U (K x).1/\ep P (K x).2.1)->(Tree.an (mL m) (.lv (jD m) λx=>.lf (K x))).w (λr=>U r.1/\ep P r.2.1):=λK hK=>cz (rU h) (ar λx hx=>hK x (hx.trans gn))
 have z:∀(k:Nat) (x:List Int),x=m->U (0:Int)/\ep P x:=λ_ x hx=>⟨ek,hx▸h⟩
 have v:∀x,x=m->U va/\ep P x:=λx hx=>⟨hv,hx▸h⟩
 have main:∀(x0:Int×Bool),(Tree.cn (decide (wrap u32 size≠0)) (.br (dE va (wrap u32 size) !=0) (.an (mL m) (.lv (jD m) λx3=>.lf ((0:Int),x3,(3:Int)))) (.lv (GZ c) λx4=>.br (!x4) (.br (bf u32 c.B4.a0 4 !=0) (.an (Qh m c.B4.a6 va access) (.lv (TC m c.B4.a6 va access) λx5=>.br (x5.F0 !=0) (.an (mL m) (.lv (jD m) λx6=>.lf (0,x6,x5.F0))) (.an (Qfp m x5.F3 access) (.lv (Oz m x5.F3 access) λx7=>.lf (x5.Addr,x7,0))))) (.an (Kb m va size) (.lv (Cu m va size) λx8=>.br (!x8.2) (.an (mL m) (.lv (jD m) λx9=>.lf (0,x9,x0.1))) (.an (mL m) (.lv (jD m) λkI=>.lf (va,kI,0)))))) (.an (Kb m va size) (.lv (Cu m va size) λmz=>.br (!mz.2) (.an (mL m) (.lv (jD m) λlH=>.lf (0,lH,x0.1))) (.an (mL m) (.lv (jD m) λlW=>.lf (va,lW,0)))))))).w (λr=>U r.1/\ep P r.2.1):=λx0=>
  ba e (aa (λ_=>cl _ (z 0)) (λ_=>ar λx4 _=>aa (λ_=>aa (λ_=>bm (qaA h hv access) λx5 hx=>aa (λ_=>cl _ (z 0)) (λ_=>bm (vT h hx.2 access) λx7 h7=>⟨hx.1,h7⟩)) (λ_=>bm (I3 h hv hs) λx8 _=>aa (λ_=>cl _ (z 0)) (λ_=>cl _ v))) (λ_=>bm (I3 h hv hs) λx8 _=>aa (λ_=>cl _ (z 0)) (λ_=>cl _ v))))
 unfold LK
 exact ar λx0 _=>aa (λ_=>cl _ (z 0)) (λ_=>aa (λ_=>aa (λ_=>cl _ (z 0)) (λ_=>main x0)) (λ_=>main x0))
theorem Zc{c:bh}(hc:iy c):(Rt c m).w (λr=>U r.1/\ep P r.2.1):=by
 unfold Rt
 exact bm (Oo h hc.pc (.inr rfl) 1) λx0 h0=>aa (λ_=>⟨ek,h0.2⟩) (λ_=>bm (I3 h0.2 h0.1 (.inr rfl)) λx1 h1=>⟨h1.1,h0.2⟩)
end
theorem zaA{s a b:Int}:U (AH s a b):=by
 refine Tree.post (Vp s a b) (W:=U) ?_
 unfold Vp
 exact aa (λ_=>fg _) (λ_=>fg _)
section
variable {c:bh} (h:iy c)
include h
theorem GO(k:Int){b:Int}(hb:U b):iy (rl c k b):=by
 refine(Tree.post (OB c k b) (W:=iy) ?_)
 unfold OB
 refine ar λ_ _=>ar λ_ _=>⟨h.x,h.a1,?_⟩
 intro w hw
 simp only[A8.l,cS,cU,or_false]at hw
 rcases hw with rfl|rfl|rfl|rfl|rfl|rfl|rfl|rfl
 ·exact fg _
 ·exact h.a1
 ·exact h.pc
 ·exact fg _
 ·exact hb
 ·exact h.a5
 ·exact h.a6
 ·exact h.a7
theorem vz:iy (Lq c):=by
 refine(Tree.post (OD c) (W:=iy) ?_)
 unfold OD
 refine ar λx0 _=>ar λx1 h1=>⟨h.x,h.a2,?_⟩
 intro w hw
 simp only[A8.l,cS,cU,or_false]at hw
 rcases hw with rfl|rfl|rfl|rfl|rfl|rfl|rfl|rfl
 ·rw[h1];exact zaA
 ·exact h.a1
 ·exact h.a2
 ·exact h.a3
 ·exact h.a4
 ·exact h.a5
 ·exact h.a6
 ·exact h.a7
theorem DW{r:Int}(hr:0<=r/\r<16){v:Int}(hv:U v):(Fl c r v).w iy:=by
 unfold Fl
 exact aa (λ_=>ba (rc hr) ⟨Xp h.x hv _,h.pc,h.jo⟩) (λ_=>h)
theorem Znf(k:Int){v:Int}(hv:U v):(I1 c k v).w iy:=by
 have ok:∀i v,U v->iy {X:=c.X,Pc:=c.Pc,B4:=A8.of 0 (dG (A8.l c.B4) i v)}:=λi v hv=>⟨h.x,h.pc,Zhs h.jo hv i⟩
 unfold I1
 repeat'(first
  |exact h
  |exact ok _ _ (fg _)
  |exact ok _ _ hv
  |refine aa (λhk=>?_) (λ_=>?_)
  |refine ba (by rw[eq_of_beq (by assumption:(k==_)=true)];decide) ?_)
end
theorem Zea{a b:Int}(ha:U a)(hb:U b):(LJ a b).w (λr=>U r.1/\U r.2):=by
 have u1:U 4294967295:=⟨by omega,by omega⟩
 unfold LJ
 refine aa (λ_=>⟨u1,ha⟩) (λh=>?_)
 have h:¬b=0:=by simpa using h
 obtain⟨b1,b2⟩:=hb
 have hc:decide (wrap i32 b≠0)=true:=dY (by rw[wrap_i32];omega)
 exact aa (λ_=>aa (λ_=>⟨ha,ek⟩) (λ_=>ba hc (ba hc ⟨fg _,fg _⟩))) (λ_=>ba hc (ba hc ⟨fg _,fg _⟩))
theorem xaA(b:Bool):U (Vq b):=by cases b<;>exact⟨by decide,by decide⟩
theorem Lr(op:Int){a b:Int}(ha:U a)(hb:U b):(Ru op a b).w (λr=>U r.1):=by
 unfold Ru
 repeat'(first
  |refine aa (λ_=>?_) (λ_=>?_)
  |exact bm (Zea ha hb) λx hx=>hx.1
  |exact bm (Zea ha hb) λx hx=>hx.2
  |exact ar λx hx=>(by rw[hx];exact xaA _)
  |refine ez ?_)
 all_goals(first
  |exact fg _
  |exact AJ ha _
  |exact ek)
theorem Tq(op:Int):Kc op=1\/Kc op=4:=by
 simp only[Kc,Qt0,Tree.m]
 cases op==32<;>cases op==35<;>simp
section
variable {c:bh} (h:iy c) {i:gu} (hi:sM i)
include h hi
theorem Zob:(Fm c i).w (λr=>iy r.1/\U r.2.Value):=by
 have k:∀{x:bh} {p:Int},iy x->U p->iy {X:=x.X,Pc:=p,B4:=x.B4}:=λhx hp=>⟨hx.x,hp,hx.jo⟩
 unfold Fm
 refine ba (rc hi.a) (ba (rc hi.b) ?_)
 repeat'(first
  |refine aa (λ_=>?_) (λ_=>?_)
  |exact bm (DW h hi.a (fg _)) λx hx=>⟨k hx (fg _),ek⟩
  |exact ar λx _=>aa (λ_=>⟨k h (fg _),ek⟩) (λ_=>⟨k h (fg _),ek⟩)
  |exact ar λx hx=>⟨by rw[hx];exact GO h _ ek,ek⟩
  |exact ar λx hx=>⟨by rw[hx];exact vz h,ek⟩
  |exact ba (by have:=hi.jo (by simp_all);simp[bJ];omega) (bm (DW h hi.a (h.a _)) λx hx=>⟨k hx (fg _),ek⟩)
  |exact bm (Znf h _ (h.r _)) λx hx=>⟨k hx (fg _),ek⟩
  |refine ba (rc hi.c) ?_
  |exact bm (Lr _ (h.r _) (fg _)) λy hy=>bm (DW h hi.a hy) λx hx=>⟨k hx (fg _),ek⟩
  |exact bm (Lr _ (h.r _) (h.r _)) λy hy=>bm (DW h hi.a hy) λx hx=>⟨k hx (fg _),ek⟩
  |refine ez ?_)
 all_goals(first
  |exact⟨k h (fg _),ek⟩
  |exact⟨k h (fg _),h.r _⟩)
theorem Z3k{P:Nat}{m:List Int}(hm:ep P m):(I2 c m i).w (λr=>iy r.1/\ep P r.2):=by
 have w:=Tq i.Op
 unfold I2
 refine ba (rc hi.b) (ar λx0 h0=>?_)
 rw[<-h0]at w
 refine bm (Oo hm (fg _) w 2) λx1 h1=>aa (λ_=>ar λy hy=>⟨by rw[hy];exact GO h _ (fg _),h1.2⟩) (λ_=>ar λx3 h3=>?_)
 rw[h0,<-h3]at w
 exact bm (I3 h1.2 h1.1 w) λx4 h4=>aa (λ_=>bm (Xi h4.1 8) λy hy=>bm (DW h hi.a hy) λx hx=>⟨⟨hx.x,fg _,hx.jo⟩,h1.2⟩) (λ_=>bm (DW h hi.a h4.1) λx hx=>⟨⟨hx.x,fg _,hx.jo⟩,h1.2⟩)
theorem Qz9{P:Nat}{m:List Int}(hm:ep P m):(I4 c m i).w (λr=>iy r.1/\ep P r.2):=by
 have w:=Tq i.Op
 unfold I4
 refine ba (rc hi.b) (ar λx0 h0=>?_)
 rw[<-h0]at w
 refine bm (Oo hm (fg _) w 3) λx1 h1=>aa (λ_=>ar λy hy=>⟨by rw[hy];exact GO h _ (fg _),h1.2⟩) (λ_=>ar λx3 h3=>ba (rc hi.a) ?_)
 rw[h0,<-h3]at w
 exact bm (Ts h1.2 h1.1 w (h.r _)) λx hx=>⟨⟨h.x,fg _,h.jo⟩,hx⟩
end
theorem qA{c:bh}(h:iy c){P:Nat}{m:List Int}(hm:ep P m):(Fo c m).w (λr=>iy r.1/\ep P r.2.1/\U r.2.2.Value):=by
 unfold Fo
 refine bm (Zc hm h) λx0 h0=>aa (λ_=>ar λy hy=>⟨by rw[hy];exact GO h _ h.pc,h0.2,ek⟩) (λ_=>bm (Xj _) λx2 h2=>aa (λ_=>ar λy hy=>⟨by rw[hy];exact GO h _ h0.1,h0.2,ek⟩) (λhb=>?_))
 have hi:=h2 (by simpa using hb)
 refine ar λx4 _=>?_
 repeat'(first
  |refine aa (λ_=>?_) (λ_=>?_)
  |exact bm (Z3k h hi h0.2) λx hx=>⟨hx.1,hx.2,ek⟩
  |exact bm (Qz9 h hi h0.2) λx hx=>⟨hx.1,hx.2,ek⟩
  |exact bm (Zob h hi) λx hx=>⟨hx.1,h0.2,hx.2⟩
  |exact ar λy hy=>⟨by rw[hy];exact GO h _ h0.1,h0.2,ek⟩
  |refine ar λ_ _=>?_)
theorem Vr{a:Int}(h:U a)(k:Nat)(hk:k<=32):0<=bg .u32 a k/\bg .u32 a k*2^k<=a:=by
 obtain⟨h1,h2⟩:=h
 unfold bg
 have e:min (k:Int).toNat u32.bits=k:=by show min (k:Int).toNat 32=k;omega
 have hp:(0:Int)<2^k:=dO (by decide)
 rw[e,dP _ (dQ hp)]
 exact⟨Int.ediv_nonneg h1 (dQ hp),Int.ediv_mul_le a (Int.ne_of_gt hp)⟩
theorem Zmg(x:Int):0<=u8.wrap x/\u8.wrap x<256:=by rw[wrap_u8];omega
theorem qaB{x:Int}(h:U x):(DU x).w (λ_=>True):=by
 have Bp:=Vr h 16 (by omega)
 have s8:=Vr h 8 (by omega)
 have uv:=Vr (AJ h 16) 8 (by omega)
 obtain⟨h1,h2⟩:=h
 unfold DU
 repeat'(first
  |refine aa (λ_=>?_) (λ_=>?_)
  |refine ba (dY ⟨?_,hY (b:=256) ?_ (hZ (by kernel_rfl))⟩) ?_
  |exact trivial
  |refine ez ?_)
 all_goals(first
  |trivial
  |exact(Zmg _).1
  |exact(Zmg _).2
  |(simp only[decide_eq_true_eq,decide_eq_false_iff_not]at*;simp at Bp s8 uv;omega))
theorem Co(a:Int):bf .u32 a 255<256:=by
 unfold bf
 rw[wrap_u32]
 have:(dW u32.bits a&&&dW u32.bits 255).toNat<=255:=by
  show(dW 32 a&&&dW 32 255).toNat<=255
  rw[eA]
  exact Nat.le_trans Nat.and_le_right (by decide)
 omega
theorem xaQ{x:Int}(h:U x):(Rv x).w (λ_=>True):=by
 have uv:=Vr h 24 (by omega)
 obtain⟨h1,h2⟩:=h
 have i24:bg .u32 x 24<256:=by simp at uv;omega
 unfold Rv
 repeat'(first
  |refine ba (dY ⟨?_,hY (b:=256) ?_ (hZ (by kernel_rfl))⟩) ?_
  |exact trivial
  |refine ez ?_)
 all_goals(first
  |trivial
  |exact(fg _).1
  |exact uv.1
  |exact i24
  |exact Co _)
structure rj(P:Nat)(m:au):Prop where
 me:iy m.B1
 mem:ep P m.Mem
 kS:ox m.A7
 sN:pr m.C3
 target:U m.A2.C7
 given:U m.A2.C2
theorem Zlx{b:gv}(h:U b.C2):(Rw b).w (λ_=>True):=by
 unfold Rw
 exact bm (xaQ h) λ_ _=>trivial
theorem Tu{m:au}(h:U m.A2.C2):(Kd m).w (λ_=>True):=by
 have b:∀x,(GH m.A2 x).w (λ_=>True):=λx=>by
  unfold GH
  exact bm (qaB h) λ_ _=>trivial
 have d:(DS m).w (λ_=>True):=by
  unfold DS
  exact ar λ_ _=>ar λ_ _=>aa (λ_=>ar λ_ _=>aa (λ_=>ar λ_ _=>aa (λ_=>ar λ_ _=>aa (λ_=>bm (b _) λ_ _=>trivial) (λ_=>trivial)) (λ_=>trivial)) (λ_=>trivial)) (λ_=>trivial)
 unfold Kd
 repeat'(first
  |refine aa (λ_=>?_) (λ_=>?_)
  |exact bm d λ_ _=>trivial
  |refine ar λ_ _=>?_
  |exact trivial)
theorem Zm1{m:au}(h:U m.A2.C2):(LY m).w (λ_=>True):=by
 have p:(LU m.A2).w (λ_=>True):=by
  unfold LU
  exact bm (Zlx h) λ_ _=>trivial
 unfold LY
 refine ar λx0 _=>ar λx1 _=>ar λx2 _=>ar λx3 _=>bm p λx4 _=>ga (inv:=λz=>0<=z.2/\z.2<=5) (μ:=Qid m) ⟨by omega,by omega⟩ (cO _) (λz hz=>?_)
 obtain⟨z1,z2⟩:=hz
 have ew:z.2<5->i64.wrap (z.2+1)=z.2+1:=λ_=>by rw[wrap_i64];omega
 refine aa (λhb=>?_) (λ_=>trivial)
 have hb:=oY hb
 have nx:(0<=i64.wrap (z.2+1)/\i64.wrap (z.2+1)<=5)/\(5-i64.wrap (z.2+1)).toNat<(5-z.2).toNat:=by rw[ew hb];omega
 refine ba (by simp;omega) (aa (λ_=>ba (dY z1) (fh nx)) (λ_=>fh nx))
theorem Xl{m:au}(h:U m.A2.C2):(G8 m).w U:=by
 unfold G8
 exact bm (Zm1 h) λ_ _=>I9 _ _
theorem Xn{m:au}(h:U m.A2.C2):(I5 m).w (λ_=>True):=by
 have i:(G9 m).w (λ_=>True):=by
  unfold G9
  exact aa (λ_=>bm (Xl h) λ_ _=>trivial) (λ_=>trivial)
 unfold I5
 exact bm (Tu h) λ_ _=>aa (λ_=>aa (λ_=>bm i λ_ _=>aa (λ_=>trivial) (λ_=>trivial)) (λ_=>trivial)) (λ_=>trivial)
theorem qU{P:Nat}{m:au}(h:rj P m):(GN m).w (rj P):=by
 obtain⟨h1,h2,h3,h4,h5,h6⟩:=h
 unfold GN
 refine aa (λ_=>⟨h1,h2,h3,h4,h5,h6⟩) (λ_=>bm (Xl (m:=⟨_,_,_,_,_,_,m.A2,_,_,_⟩) h6) λx0 _=>ga (inv:=λz=>0<=z/\z<=5) (μ:=Xm m) ⟨by omega,by omega⟩ (cO _) (λz hz=>?_))
 obtain⟨z1,z2⟩:=hz
 refine aa (λhb=>ba (dY z1) (aa (λ_=>ar λx1 hx=>⟨by rw[hx];exact GO h1 _ ek,h2,h3,h4,h5,h6⟩) (λ_=>fh ?_))) (λ_=>⟨h1,h2,h3,h4,h5,h6⟩)
 have hb:=oY hb
 show(0<=i64.wrap (z+1)/\i64.wrap (z+1)<=5)/\(5-i64.wrap (z+1)).toNat<(5-z).toNat
 have ew:i64.wrap (z+1)=z+1:=by rw[wrap_i64];omega
 rw[ew];omega
theorem DZ{P:Nat}{m:List Int}(h:ep P m):wI m=P:=by
 obtain⟨h1,h2,h3,_⟩:=h
 simp only[wI,Qom,Tree.m]
 have e:(m.length:Int)=32*P:=by omega
 rw[e]
 have e1:(dE (32*(P:Int)) 32 !=0)=false:=by simp[hH]
 have e2:decide ((32*(P:Int))>1024)=false:=dN (by omega)
 rw[e1,e2]
 simp only[cond_false]
 rw[hJ _ (by decide),wrap_i64];omega
theorem Ft{P:Nat}{m:List Int}(h:ep P m){f:Int}(hf:U f):Q2 m f=decide (f<P):=by
 have:=DZ h
 obtain⟨h1,h2⟩:=hf
 have h3:=h.p2
 simp only[Q2,OQ,Tree.m,dd,this]
 congr 1
 rw[wrap_u64,wrap_u64,dM h1 (by omega),dM (by omega) (by omega)]
theorem qab{P:Nat}{m:List Int}(h:ep P m):(L3 m).w (λr=>r=m):=by
 obtain⟨h1,h2,h3,_⟩:=h
 unfold L3
 refine ba ?_ ?_
 ·simp[bJ,D.plain];omega
 ·show _=_
  simp
theorem Ct{P:Nat}{m:List Int}(h:ep P m){addr size v:Int}(ha:U addr)(hl:addr<4*m.length)(hv:U v):(Ja m addr size v).w (ep P):=by
 obtain⟨h1,h2,h3,h4⟩:=h
 obtain⟨a1,a2⟩:=ha
 have e:wrap u32 (eU addr 4)=addr/4:=by rw[wrap_u32,eV a1];omega
 have hc:(bT 1 1&&bJ 0 1&&decide (0<=wrap u32 (eU addr 4)/\wrap u32 (eU addr 4)<(m.length:Int)))=true:=by
  rw[e];simp[bJ];omega
 have h0:∀x,decide (0<=wrap u32 x)=true:=λx=>dY (fg x).1
 have hs:∀i v,U v->ep P (m.set i v):=λi v hv=>⟨by simp[h1],h2,h3,DR h4 hv i⟩
 unfold Ja
 exact aa (λ_=>ba hc (hs _ _ hv)) (λ_=>ba hc (ba (h0 _) (ba (h0 _) (ba hc (hs _ _ (nb _ _))))))
theorem zab{P:Nat}{m:List Int}(h:ep P m){frame:Int}(f0:0<=frame)(f1:frame<P)(s:List UInt8):(GU m frame s).w (ep P):=by
 unfold GU
 have h3:=h.p2
 refine ga (inv:=λz=>0<=z.1/\z.1<=128/\ep P z.2) (μ:=XA m frame s) ⟨by omega,by omega,h⟩ (cO _) (λv0 wC=>?_)
 obtain⟨i0,i1,hm⟩:=wC
 refine aa (λh1=>aa (λh2=>ba ?_ ?_) (λ_=>hm)) (λ_=>hm)
 ·have:=oY h1
  simp[bJ];omega
 ·have h2:=oY h2
  have e:wrap u32 (wrap i64 (wrap i64 (frame*128)+v0.1))=frame*128+v0.1:=by
   rw[wrap_u32,wrap_i64,wrap_i64];omega
  rw[e]
  obtain⟨g1,g2⟩:=Tree.pp (Ct hm (size:=1) (addr:=frame*128+v0.1) ⟨by omega,by omega⟩ (by rw[hm.len];omega) (fg (UInt8.toNat (s.getD v0.1.toNat 0))))
  refine cz g1 (ar λx0 nJ=>?_)
  rw[nJ]
  have ew:i64.wrap (v0.1+1)=v0.1+1:=by rw[wrap_i64];omega
  refine fh ?_
  show(0<=i64.wrap (v0.1+1)/\i64.wrap (v0.1+1)<=128/\ep P _)/\(128-i64.wrap (v0.1+1)).toNat<(128-v0.1).toNat
  rw[ew]
  exact⟨⟨by omega,by omega,g2⟩,by omega⟩
theorem Znv{P:Nat}{m:List Int}(h:ep P m){d:fp}(hd:ox d)(e:gx):(G6 d m e).w (λr=>ox r.1/\ep P r.2.2):=by
 have fl:Q2 m d.B2=true->(GU m (i64.wrap d.B2) e.C9).w (ep P):=λhp=>by
   rw[Ft h hd.ib]at hp
   have:=oY hp
   have h1:=hd.ib.1
   have h3:=h.p2
   have ew:i64.wrap d.B2=d.B2:=by rw[wrap_i64];omega
   rw[ew]
   exact zab h h1 this _
 have l0:ox d/\ep P m:=⟨hd,h⟩
 have l1: ∀st,ox {ae:=d.ae,C1:=d.C1,Frame:=d.Frame,B7:=st,D6:=0,B6:=0,B2:=0,B8:=[]}:=λst=>⟨hd.block,hd.frame,ek,ek⟩
 unfold G6
 repeat'(first
   |exact l0
   |exact⟨l1 _,h⟩
   |refine aa (λ_=> ?_) (λ_=> ?_)
   |refine ar (λ_ _=> ?_))
 all_goals(
   first
     | (have hp:Q2 m d.B2=true:=by simp_all
        obtain⟨g1,g2⟩:=Tree.pp (fl hp)
        refine cz g1 (ar λx hx=> ?_)
        rw[hx]
        exact aa (λ_=>⟨l1 _,g2⟩) (λ_=>⟨l1 _,g2⟩))
     |(exfalso;simp_all;done))
section
variable {c:bh} (h:iy c)
include h
theorem Ke(k:Int){b:Int}(hb:U b):iy (pQ c k b):=by
 refine(Tree.post (OC c k b) (W:=iy) ?_)
 unfold OC
 refine ar λ_ _=>ar λ_ _=>⟨h.x,h.a1,?_⟩
 intro w hw
 simp only[A8.l,cS,cU,or_false]at hw
 rcases hw with rfl|rfl|rfl|rfl|rfl|rfl|rfl|rfl
 ·exact nb _ _
 ·exact h.a1
 ·exact h.pc
 ·exact fg _
 ·exact hb
 ·exact h.a5
 ·exact h.a6
 ·exact h.a7
theorem xU:iy (TG c):=by
 refine(Tree.post (OE c) (W:=iy) ?_)
 unfold OE
 refine ar λ_ _=>ar λ_ _=>⟨h.x,h.a2,?_⟩
 intro w hw
 simp only[A8.l,cS,cU,or_false]at hw
 rcases hw with rfl|rfl|rfl|rfl|rfl|rfl|rfl|rfl
 ·exact nb _ _
 ·exact h.a1
 ·exact h.a2
 ·exact h.a3
 ·exact h.a4
 ·exact h.a5
 ·exact h.a6
 ·exact h.a7
theorem DO(r:Int){v:Int}(hv:U v):(Jd c r v).w iy:=by
 unfold Jd
 refine aa (λh1=>aa (λh2=>ba ?_ ⟨Xp h.x hv _,h.pc,h.jo⟩) (λ_=>h)) (λ_=>h)
 have h1:=oY h1
 have h2:=oY h2
 simp[bJ];omega
theorem zaB(k:Int){v:Int}(hv:U v):(LN c k v).w iy:=by
 have ok:∀i v,U v->iy {X:=c.X,Pc:=c.Pc,B4:=A8.of 0 (dG (A8.l c.B4) i v)}:=λi v hv=>⟨h.x,h.pc,Zhs h.jo hv i⟩
 unfold LN
 repeat'(first
  |exact h
  |exact ok _ _ (fg _)
  |exact ok _ _ hv
  |refine aa (λhk=>?_) (λ_=>?_)
  |refine ba (by rw[eq_of_beq (by assumption:(k==_)=true)];decide) ?_)
end
section
variable {P:Nat} {m:List Int} (h:ep P m)
include h
theorem Zbm(a:Int){size:Int}(hs:size=1\/size=4):(Jb m a size).w (λb=>b=true->a<128*P):=by
 have hp:=DZ h
 have h2:=h.p2
 have e:decide (wrap u32 size≠0)=true:=by rcases hs with rfl|rfl<;>decide
 have l:∀x,x=wI m->decide (a<wrap u32 (wrap i64 (128*x)))=true->a<128*P:=λx hx hd=>by
  rw[hx,hp,wrap_u32,wrap_i64]at hd
  have:=oY hd
  omega
 unfold Jb
 refine aa (λ_=>aa (λ_=>λh=>by cases h) (λ_=>?_)) (λ_=>?_)<;>
 exact ba e (aa (λ_=>ar λx hx=>l x hx) (λ_=>λh=>by cases h))
theorem idx{a:Int}(ha:U a)(hl:a<128*P):(bT 1 1&&bJ 0 1&&decide (0<=wrap u32 (eU a 4)/\wrap u32 (eU a 4)<(m.length:Int)))=true:=by
 obtain⟨a1,a2⟩:=ha
 have e:wrap u32 (eU a 4)=a/4:=by rw[wrap_u32,eV a1];omega
 have:=h.len
 rw[e];simp[bJ];omega
theorem OL{a:Int}(ha:U a){size:Int}(hs:size=1\/size=4):(AM m a size).w (λr=>U r.1):=by
 obtain⟨g1,g2⟩:=Tree.pp (Zbm h a hs)
 unfold AM
 refine cz g1 (ar λx hx=>aa (λ_=>ek) (λhb=>?_))
 have hb:x=true:=by simpa using hb
 have hl:=g2 (hx.symm.trans hb)
 refine ba (idx h ha hl) (aa (λ_=>ba (dY (fg _).1) (fg _)) (λ_=>AK h.u _))
theorem qaR{a:Int}(ha:U a)(access:Int):(LG m a access).w (ep P):=by
 obtain⟨g1,g2⟩:=Tree.pp (Zbm h a (size:=4) (.inr rfl))
 have hs:∀{m:List Int} i v,ep P m->U v->ep P (m.set i v):=λi v h hv=>⟨by simp[h.len],h.p1,h.p2,DR h.u hv i⟩
 unfold LG
 refine cz g1 (ar λx hx=>aa (λ_=>h) (λhb=>?_))
 have hb:x=true:=by simpa using hb
 have hl:=g2 (hx.symm.trans hb)
 have i0:=idx h ha hl
 have h':=hs (Int.toNat (wrap u32 (eU a 4))) (ir u32 (m.getD (Int.toNat (wrap u32 (eU a 4))) 0) 8) h (nb _ _)
 have i1:=idx h' ha hl
 exact ba i0 (ba i0 (aa (λ_=>ba i1 (ba i1 (hs _ _ h' (nb _ _)))) (λ_=>h')))
theorem xab{root va:Int}(hr:U root)(hv:U va)(access:Int):(GY m root va access).w (λt=>U t.Addr/\U t.F3/\(t.F0=0->t.Addr<128*P)):=by
 have hp:=DZ h
 have h2:=h.p2
 have hlen:=h.len
 obtain⟨r1,r2⟩:=hr
 obtain⟨v1,v2⟩:=hv
 unfold GY
 refine ar λx0 nJ=>ar λx1 nK=>ar λx2 _=>?_
 have hc:x0≠0:=by
  rw[nJ]
  simp only[tK,LM,Tree.m]
  cases access==1<;>cases access==3<;>simp
 rw[hp]at nK
 have bad:U (0:Int)/\U (0:Int)/\(x0=0->(0:Int)<128*P):=⟨ek,ek,λe=>absurd e hc⟩
 refine aa (λ_=>bad) (λ_=>aa (λ_=>bad) (λEe=>aa (λ_=>bad) (λDL=>?_)))
 have Ee:=oN Ee
 have DL:=oN DL
 have e1:wrap u32 x1=P:=by rw[nK,wrap_u32];omega
 rw[e1]at DL
 have e2:wrap u32 (wrap u32 (root*128)+wrap u32 (4*wrap u32 (eU va 128)))=root*128+4*(va/128):=by
  rw[eV v1,wrap_u32,wrap_u32,wrap_u32,wrap_u32];omega
 have hU:U (wrap u32 (wrap u32 (root*128)+wrap u32 (4*wrap u32 (eU va 128)))):=fg _
 have ci:=idx h hU (by rw[e2];omega)
 have ey:∀w:Int,decide (bf u32 w 255>=wrap u32 x1)=false->(U (wrap u32 (wrap u32 (bf u32 w 255*128)+dE va 128))/\U (wrap u32 (wrap u32 (root*128)+wrap u32 (4*wrap u32 (eU va 128))))/\((0:Int)=0->wrap u32 (wrap u32 (bf u32 w 255*128)+dE va 128)<128*P)):=λw hw=>by
  have hw:=oN hw
  rw[e1]at hw
  have hn:=(I9 w 255).1
  refine⟨fg _,fg _,λ_=>?_⟩
  rw[Int.tmod_eq_emod_of_nonneg v1,wrap_u32,wrap_u32]
  generalize bf u32 w 255=q at*
  omega
 refine ba ci ?_
 repeat'(first
  |exact bad
  |exact ey _ (by assumption)
  |refine aa (λ_=>?_) (λ_=>?_)
  |refine ba ci ?_)
theorem TO{c:bh}(hc:iy c){va:Int}(hv:U va){size:Int}(hs:size=1\/size=4)(access:Int):(G0 c m va size access).w (λr=>ep P r.2.2/\U r.1/\(r.2.1=0->r.1<128*P)):=by
 have e:decide (wrap u32 size≠0)=true:=by rcases hs with rfl|rfl<;>decide
 obtain⟨g1,g2⟩:=Tree.pp (Zbm h va hs)
 obtain⟨k1,k2⟩:=Tree.pp (xab h hc.a6 hv access)
 have bad:∀k:Int,k≠0->ep P m/\U (0:Int)/\(k=0->(0:Int)<128*P):=λk hk=>⟨h,ek,λe=>absurd e hk⟩
 have hca:tK access≠0:=by
  simp only[tK,LM,Tree.m]
  cases access==1<;>cases access==3<;>simp
 unfold G0
 refine ar λx0 _=>aa (λ_=>bad 5 (by decide)) (λ_=>aa (λh1=>aa (λh2=>?_) (λ_=>?_)) (λ_=>?_))
 ·exact bad 5 (by decide)
 all_goals(
  refine ba e (aa (λ_=>bad 3 (by decide)) (λ_=>ar λx1 _=>aa (λ_=>cz g1 (ar λx2 I6=>aa (λ_=>ar λx3 DN=>bad x3 (by rw[DN];exact hca)) (λhb=>?_))) (λ_=>cz k1 (ar λx4 N9=>aa (λhb=>?_) (λhb=>?_)))))
  ·have hb:x2=true:=by simpa using hb
   exact⟨h,hv,λ_=>g2 (I6.symm.trans hb)⟩
  ·exact bad _ (by simpa using hb)
  ·obtain⟨t1,t2,t3⟩:=k2
   rw[show(GY m c.B4.a6 va access).m=x4 from N9.symm]at t1 t2 t3
   obtain⟨m1,m2⟩:=Tree.pp (qaR h t2 access)
   refine cz m1 (ar λx5 hx5=>?_)
   exact⟨hx5▸m2,t1,λ_=>t3 (by simpa using hb)⟩)
end
theorem xA{r:Int}(h:Lv r=true):0<=r/\r<16:=by
 simp only[Lv,Tx,Tree.m]at h
 cases h1:decide (r>=0)<;>rw[h1]at h
 ·cases h
 ·have h1:=oY h1
  have h:=oY h
  omega
theorem zU{i:gu}(hi:wrap .i64 i.bn=i.bn)(h:DX i=true):sM i:=by
 have no:false=true->sM i:=λh=>by cases h
 refine(Tree.post (Ov i) (W:=λb=>b=true->sM i) ?_) h
 unfold Ov
 refine ar λx0 h0=>aa (λ_=>no) (λ_=>ar λx1 h1=>aa (λ_=>no) (λb1=>ar λx2 h2=>aa (λ_=>no) (λb2=>ar λx3 h3=>aa (λ_=>no) (λb3=>ar λx4 h4=>aa (λ_=>no) (λb4=>aa (λ_=>no) (λb5=>?_))))))
 have b1:x1=true:=by simpa using b1
 have b2:x2=true:=by simpa using b2
 have b3:x3=true:=by simpa using b3
 have b4:=oN b4
 have b5:=oN b5
 rw[hi]at b4 b5
 have ok:sM i:=⟨xA (h1.symm.trans b1),xA (h2.symm.trans b2),xA (h3.symm.trans b3),λe=>by
  rw[e]at h0
  have h0:x0=8:=h0
  subst h0
  have h4:x4=(0,7):=h4
  subst h4
  simp at b4 b5;omega⟩
 repeat'(first
  |exactλ_=>ok
  |exact no
  |refine aa (λ_=>?_) (λ_=>?_))
theorem Znr(w:Int):(Q6 w).w (λr=>r.2=true->sM r.1):=by
 have no:∀{p:Prop},false=true->p:=λh=>by cases h
 have e:∀x,wrap .i64 (wrap .i32 x)=wrap .i32 x:=λx=>by rw[wrap_i64,wrap_i32];omega
 have ok:∀i,wrap .i64 i.bn=i.bn->∀x,x=DX i->(!x)=false->true=true->sM i:=λi hi x hx hb _=>zU hi (hx.symm.trans (by simpa using hb))
 unfold Q6
 refine ar λx0 _=>?_
 have l:∀i,wrap .i64 i.bn=i.bn->(Tree.lv (DX i) λx=>.br (!x) (.lf ((⟨0,0,0,0,0⟩:gu),false)) (.lf (i,true))).w (λr=>r.2=true->sM r.1):=λi hi=>ar λx hx=>aa (λ_=>no) (λhb=>ok i hi x hx hb)
 refine aa (λ_=>no) (λ_=>aa (λ_=>l _ rfl) (λ_=>aa (λ_=>l _ (e _)) (λ_=>aa (λ_=>l _ (e _)) (λ_=>l _ (e _)))))
theorem Rx(b:Bool):U (Cv b):=by cases b<;>exact⟨by decide,by decide⟩
theorem Zls{a b:Int}(ha:U a)(hb:U b):(Qa a b).w (λr=>U r.1/\U r.2):=by
 unfold Qa
 refine aa (λ_=>⟨⟨by omega,by omega⟩,ha⟩) (λh=>?_)
 have h:¬b=0:=by simpa using h
 obtain⟨b1,b2⟩:=hb
 have hc:decide (wrap i64 (wrap i32 b)≠0)=true:=dY (by rw[wrap_i64,wrap_i32];omega)
 exact ba hc (ba hc ⟨fg _,fg _⟩)
theorem HV(op:Int){a b:Int}(ha:U a)(hb:U b):(Ry op a b).w (λr=>U r.1):=by
 unfold Ry
 refine ar λx0 _=>?_
 repeat'(first
  |exact fg _
  |exact AJ ha _
  |exact ek
  |refine aa (λ_=>?_) (λ_=>?_)
  |exact bm (Zls ha hb) λx hx=>hx.1
  |exact bm (Zls ha hb) λx hx=>hx.2
  |exact ar λx hx=>(by rw[hx];exact Rx _))
theorem zA{x:Int}(hx:U x):(Rz x 8).w U:=by
 unfold Rz
 have h0:decide (0<=wrap u64 8)=true:=by decide
 refine aa (λh=>absurd h (by decide)) λ_=>aa (λh=>absurd h (by decide)) λ_=>ba h0 (ba (by decide) (aa (λ_=>ba h0 (nb _ _)) (λ_=>I9 _ _)))
section
variable {c:bh} (h:iy c) {i:gu} (hi:sM i)
include h hi
theorem yU:(Jr c i).w (λr=>iy r.1/\U r.2.Value):=by
 unfold Jr
 refine aa (λ_=>ar λx hx=>⟨hx▸Ke h _ ek,ek⟩) (λ_=>aa (λ_=>ar λx hx=>⟨hx▸xU h,ek⟩) (λ_=>aa (λe=>ba ?_ (bm (DO h _ (h.a _)) λx hx=>⟨hx.Bh (fg _),ek⟩)) (λ_=>aa (λ_=>ba (rc hi.a) (bm (zaB h _ (h.r _)) λx hx=>⟨hx.Bh (fg _),ek⟩)) (λ_=>?_))))
 ·have:=hi.jo (by simpa using e)
  simp[bJ];omega
 ·have k:=h.Bh (fg (c.Pc+4))
  repeat'(first
   |exact⟨k,ek⟩
   |exact⟨k,h.r _⟩
   |refine aa (λ_=>?_) (λ_=>?_)
   |refine ba (rc hi.a) ?_)
theorem zaR:(RA c i).w iy:=by
 unfold RA
 exact aa (λ_=>bm (DO h _ (fg _)) λx hx=>hx.Bh (fg _)) (λ_=>aa (λ_=>ba (rc hi.b) (bm (DO h _ (fg _)) λx hx=>hx.Bh (fg _))) (λ_=>ba (rc hi.a) (ba (rc hi.b) (ar λx _=>aa (λ_=>h.Bh (fg _)) (λ_=>h.Bh (fg _))))))
theorem Zoo{P:Nat}{m:List Int}(hm:ep P m):(RB c m i).w (λr=>iy r.1/\ep P r.2):=by
  unfold RB
  refine ba (rc hi.b) ?_
  have e1:(1:Int)=1\/(1:Int)=4:= .inl rfl
  have e4:(4:Int)=1\/(4:Int)=4:= .inr rfl
  repeat'(first
    |refine aa (λ_=> ?_) (λ_=> ?_)
    | (refine bm (TO hm h (fg _) e4 _) λx hx=> ?_
       obtain⟨m1,m2,m3⟩:=hx
       refine aa (λ_=>ar λy hy=>⟨hy▸Ke h _ (fg _),m1⟩) (λhb=> ?_)
       have m3:=m3 (by simpa using hb)
       have m4:x.1<4*x.2.2.length:=by rw[m1.len];omega
       clear hb)
    | (refine bm (TO hm h (fg _) e1 _) λx hx=> ?_
       obtain⟨m1,m2,m3⟩:=hx
       refine aa (λ_=>ar λy hy=>⟨hy▸Ke h _ (fg _),m1⟩) (λhb=> ?_)
       have m3:=m3 (by simpa using hb)
       have m4:x.1<4*x.2.2.length:=by rw[m1.len];omega
       clear hb)
    |exact ba (rc hi.a) (bm (Ct (by assumption) (by assumption) (by assumption) (h.r _)) λy hy=>⟨h.Bh (fg _),hy⟩)
    |(refine bm (OL (by assumption) (by assumption) e4) λy hy=> ?_)
    |(refine bm (OL (by assumption) (by assumption) e1) λy hy=> ?_)
    |exact bm (zA (by assumption)) λz hz=>bm (DO h _ hz) λu hu=>⟨hu.Bh (fg _),by assumption⟩
    |exact bm (DO h _ (by assumption)) λu hu=>⟨hu.Bh (fg _),by assumption⟩)
end
theorem Fa{c:bh}(h:iy c){P:Nat}{m:List Int}(hm:ep P m):(RC c m).w (λr=>iy r.1/\U r.2.1.Value/\ep P r.2.2):=by
 unfold RC
 refine bm (TO hm h h.pc (.inr rfl) 1) λx0 hx=>?_
 obtain⟨m1,m2,m3⟩:=hx
 refine aa (λ_=>ar λy hy=>⟨hy▸Ke h _ h.pc,ek,m1⟩) (λhb=>?_)
 refine bm (OL m1 m2 (.inr rfl)) λx2 h2=>NO (Znr _) λx3 h3=>aa (λ_=>ar λy hy=>⟨hy▸Ke h _ h2,ek,m1⟩) (λb3=>?_)
 have hi:=h3 (by simpa using b3)
 refine ar λx5 _=>?_
 repeat'(first
  |refine aa (λ_=>?_) (λ_=>?_)
  |exact ar λy hy=>⟨hy▸Ke h _ h2,ek,m1⟩
  |exact bm (yU h hi) λy hy=>⟨hy.1,hy.2,m1⟩
  |exact bm (zaR h hi) λy hy=>⟨hy,ek,m1⟩
  |exact bm (Zoo h hi m1) λy hy=>⟨hy.1,ek,hy.2⟩
  |exact bm (DO h _ (fg _)) λy hy=>⟨hy.Bh (fg _),ek,m1⟩
  |refine ba (rc hi.c) ?_
  |refine ba (rc hi.b) ?_
  |exact bm (HV _ (h.r _) (h.r _)) λy hy=>bm (DO h _ hy) λz hz=>⟨hz.Bh (fg _),ek,m1⟩
  |exact bm (HV _ (h.r _) (fg _)) λy hy=>bm (DO h _ hy) λz hz=>⟨hz.Bh (fg _),ek,m1⟩)
theorem Fs{q:Int}(h:U q):bf .u32 q 1=q%2:=by
 obtain⟨h1,h2⟩:=h
 unfold bf
 rw[wrap_u32]
 have e1:(dW 32 q).toNat=q.toNat:=by rw[BitVec.toNat_ofInt];omega
 have e2:(dW 32 1).toNat=1:=by decide
 have:(dW u32.bits q&&&dW u32.bits 1).toNat=q.toNat%2:=by
  show(dW 32 q&&&dW 32 1).toNat=_
  rw[eA,e1,e2,Nat.and_one_is_mod]
 rw[this];omega
theorem RD(b:Bool)(n:Int):(RE b n).w (λ_=>True):=by
 unfold RE
 exact aa (λ_=>ba (dY (by rw[wrap_u64];omega)) trivial) (λ_=>trivial)
theorem xaB(m:au):(RG m).w (λ_=>True):=by
 unfold RG
 exact ar λ_ _=>bm (RD _ _) λ_ _=>ar λ_ _=>bm (RD _ _) λ_ _=>ar λ_ _=>bm (RD _ _) λ_ _=>ar λ_ _=>bm (RD _ _) λ_ _=>ar λ_ _=>bm (RD _ _) λ_ _=>trivial
theorem Zgr(m:au):(L0 m).w U:=by
 unfold L0
 exact bm (xaB m) λ_ _=>I9 _ _
theorem qac(m:au):(L1 m).w (λ_=>True):=by
 unfold L1
 exact aa (λ_=>bm (Zgr m) λ_ _=>trivial) (λ_=>trivial)
theorem W4(m:au):(Jk m).w (λ_=>True):=by
 unfold Jk
 exact ar λ_ _=>aa (λ_=>trivial) (λ_=>aa (λ_=>trivial) (λ_=>bm (qac m) λ_ _=>aa (λ_=>trivial) (λ_=>trivial)))
theorem Tc{m:au}(h:iy m.B1):(L2 m).w iy:=by
 unfold L2
 refine bm (Zgr m) λx0 hx=>aa (λ_=>h) (λ_=>aa (λ_=>h) (λhb=>?_))
 have hb:x0≠0:=by simpa using hb
 have sh:∀z:Int,0<=z->z<=31->bg .u32 x0 (wrap .u64 z)=x0/2^z.toNat:=λz h1 h2=>by
  unfold bg
  have e:min (wrap .u64 z).toNat u32.bits=z.toNat:=by
   show min (wrap .u64 z).toNat 32=z.toNat
   rw[wrap_u64];omega
  rw[e,dP _ (dQ (dO (by decide)))]
 refine ga (inv:=λz=>0<=z/\z<=31/\x0/2^z.toNat≠0) (μ:=Qd7 m) ⟨by omega,by omega,by simpa using hb⟩ (cO _) (λz hz=>?_)
 obtain⟨z1,z2,z3⟩:=hz
 refine ba (dY (by rw[wrap_u64];omega)) (aa (λe=>fh ?_) (λ_=>ar λy hy=>hy▸Ke h _ ek))
 have e:=eq_of_beq e
 have hq:=AJ hx (wrap .u64 z)
 rw[Fs hq,sh z z1 z2]at e
 rw[sh z z1 z2]at hq
 have cg:x0/2^z.toNat/2≠0:=by omega
 have z4:z<=30:=by
  rcases Int.lt_or_le z 31 with h|h
  ·omega
  ·have:z=31:=by omega
   subst this
   have:=hx.2
   have:=hx.1
   simp at z3 e cg
   omega
 show(0<=i64.wrap (z+1)/\i64.wrap (z+1)<=31/\x0/2^(i64.wrap (z+1)).toNat≠0)/\(32-i64.wrap (z+1)).toNat<(32-z).toNat
 have ew:i64.wrap (z+1)=z+1:=by rw[wrap_i64];omega
 rw[ew]
 refine⟨⟨by omega,by omega,?_⟩,by omega⟩
 have et:(z+1).toNat=z.toNat+1:=by omega
 rw[et,Int.pow_succ,<-Int.ediv_ediv_of_nonneg (dQ (dO (by decide)))]
 exact cg
theorem yA{P:Nat}{m:au}(h:iy m.B1)(hm:ep P m.Mem):(RH m).w (λ_=>True):=by
 unfold RH
 refine bm (Tc h) λx0 hx=>aa (λ_=>trivial) (λ_=>bm (OL hm hx.pc (.inr rfl)) λx1 _=>ar λx2 _=>?_)
 exact aa (λ_=>aa (λ_=>aa (λ_=>trivial) (λ_=>trivial)) (λ_=>trivial)) (λ_=>trivial)
theorem Qzh{P:Nat}{m:au}(h:iy m.B1)(hm:ep P m.Mem):(RI m).w (λ_=>True):=by
 unfold RI
 exact bm (W4 m) λ_ _=>aa (λ_=>trivial) (λ_=>bm (yA h hm) λ_ _=>trivial)
theorem N8(l:List Int):(bytesOf l).length=l.length:=by simp[bytesOf]
theorem TB(l:List UInt8):(jx l).length=l.length:=by simp[jx]
theorem RJ(x:Int):(MO x 4).w (λr=>r.length=4):=by
 unfold MO
 refine ga (inv:=λz=>0<=z.1/\z.1<=4/\(z.2.length:Int)=z.1) (μ:=Vs x 4) ⟨by omega,by omega,rfl⟩ (cO _) (λz hz=>?_)
 obtain⟨z1,z2,z3⟩:=hz
 refine aa (λh=>ba (dY (by rw[wrap_u64];omega)) (ba (dY (by omega)) (fh ?_))) (λh=>?_)
 ·have h:=oY h
  show(0<=i64.wrap (z.1+1)/\i64.wrap (z.1+1)<=4/\((z.2++[_]).length:Int)=i64.wrap (z.1+1))/\(4-i64.wrap (z.1+1)).toNat<(4-z.1).toNat
  have ew:i64.wrap (z.1+1)=z.1+1:=by rw[wrap_i64];omega
  rw[ew]
  refine⟨⟨by omega,by omega,by simp;omega⟩,by omega⟩
 ·have h:=oN h
  show(bytesOf z.2).length=4
  rw[N8];omega
theorem zac{P:Nat}{m:List Int}(hm:ep P m)(frame:Int):(GX m frame).w (λr=>0<=frame->frame<P->r.1.length=128):=by
 have hp:=DZ hm
 have hl:=hm.len
 have h2:=hm.p2
 unfold GX
 refine aa (λh=>λh0 _=>by have:=oY h;omega) (λh=>ar λx0 hx=>aa (λh1=>λ_ h2=>by have:=oY h1;rw[hx,hp]at this;omega) (λh1=>?_))
 have h:=oN h
 have h1:=oN h1
 rw[hx,hp]at h1
 refine ga (inv:=λz=>0<=z.1/\z.1<=32/\(z.2.length:Int)=4*z.1) (μ:=XF m frame) ⟨by omega,by omega,rfl⟩ (cO _) (λz hz=>?_)
 obtain⟨z1,z2,z3⟩:=hz
 refine aa (λhb=>?_) (λhb=>?_)
 ·have hb:=oY hb
  have e:wrap i64 (wrap i64 (frame*32)+z.1)=frame*32+z.1:=by rw[wrap_i64,wrap_i64];omega
  refine ba (by rw[e];simp[bJ];omega) (cz (show(4:Int)<=1000000000000 by decide) (NO (RJ _) λx1 h4=>ba (dY (by rw[TB,h4];omega)) (fh ?_)))
  show(0<=i64.wrap (z.1+1)/\i64.wrap (z.1+1)<=32/\((z.2++jx x1).length:Int)=4*i64.wrap (z.1+1))/\(32-i64.wrap (z.1+1)).toNat<(32-z.1).toNat
  have ew:i64.wrap (z.1+1)=z.1+1:=by rw[wrap_i64];omega
  rw[ew,lA,TB,h4]
  exact⟨⟨by omega,by omega,by omega⟩,by omega⟩
 ·have hb:=oN hb
  intro _ _
  show(bytesOf z.2).length=128
  rw[N8];omega
theorem Zf5{P:Nat}{m:List Int}(hm:ep P m){d:fp}(hd:ox d)(port:Int){v:Int}(hv:U v)(dh:Int):(G5 d m port v dh).w (λr=>ox r.1/\r.2.length<=1):=by
 have k:∀st,ox {ae:=d.ae,C1:=d.C1,Frame:=d.Frame,B7:=st,D6:=d.D6,B6:=d.B6,B2:=d.B2,B8:=d.B8}:=λst=>⟨hd.block,hd.frame,hd.kh,hd.ib⟩
 have k2:∀c o,ox {ae:=d.ae,C1:=d.C1,Frame:=d.Frame,B7:=1,D6:=c,B6:=d.C1,B2:=d.Frame,B8:=o}:=λc o=>⟨hd.block,hd.frame,hd.block,hd.frame⟩
 have k3:ox {ae:=d.ae,C1:=v,Frame:=d.Frame,B7:=d.B7,D6:=d.D6,B6:=d.B6,B2:=d.B2,B8:=d.B8}:=⟨hv,hd.frame,hd.kh,hd.ib⟩
 have k4:ox {ae:=d.ae,C1:=d.C1,Frame:=v,B7:=d.B7,D6:=d.D6,B6:=d.B6,B2:=d.B2,B8:=d.B8}:=⟨hd.block,hv,hd.kh,hd.ib⟩
 unfold G5
 repeat'(first
  |refine aa (λ_=>?_) (λ_=>?_)
  |exact bm (zac hm _) λ_ _=>ar λ_ _=>⟨k2 _ _,aO _⟩
  |refine ar (λ_ _=>?_)
  |refine ez ?_)
 all_goals(first
  |exact⟨hd,aT _⟩
  |exact⟨k _,aT _⟩
  |exact⟨k2 _ _,aO _⟩
  |exact⟨k3,aT _⟩
  |exact⟨k4,aT _⟩)
theorem Zmd{P:Nat}{m:List Int}(hm:ep P m){n:ia}(hn:pr n)(port:Int){v:Int}(hv:U v)(dh:Int):(LQ n m port v dh).w (λr=>pr r.1/\r.2.length<=1):=by
 have k1:pr {Frame:=v,E0:=n.E0,C5:=n.C5,C0:=n.C0,B5:=n.B5,F1:=n.F1}:=⟨hv,hn.len,hn.buffer,hn.GJ⟩
 have k2:pr {Frame:=n.Frame,E0:=v,C5:=n.C5,C0:=n.C0,B5:=n.B5,F1:=n.F1}:=⟨hn.frame,hv,hn.buffer,hn.GJ⟩
 have k3:pr {Frame:=n.Frame,E0:=n.E0,C5:=n.C5,C0:=n.C0,B5:=false,F1:=0}:=⟨hn.frame,hn.len,hn.buffer,ek⟩
 have k4:∀p r,pr {Frame:=n.Frame,E0:=n.E0,C5:=p,C0:=n.Frame,B5:=r,F1:=n.F1}:=λp r=>⟨hn.frame,hn.len,hn.frame,hn.GJ⟩
 have send:∀K:List UInt8×Bool->Tree (ia×List dx),Q2 m n.Frame=true->(∀x:List UInt8×Bool,x.1.length=128->(K x).w (λr=>pr r.1/\r.2.length<=1))->(Tree.an (Qg8 m (wrap .i64 n.Frame)) (.lv (Lx m (wrap .i64 n.Frame)) K)).w (λr=>pr r.1/\r.2.length<=1):=λK hp hK=>by
  rw[Ft hm hn.frame]at hp
  have hp:=oY hp
  obtain⟨f1,f2⟩:=hn.frame
  have ew:i64.wrap n.Frame=n.Frame:=by rw[wrap_i64];omega
  exact bm (zac hm _) λx hx=>hK x (hx (by rw[ew];exact f1) (by rw[ew];exact hp))
 unfold LQ
 repeat'(first
  |refine aa (λ_=>?_) (λ_=>?_)
  |refine send _ (by simp_all) (λx hx=>ba (by simp_all;exact hn.len.1) ?_)
  |refine ar (λ_ _=>?_)
  |refine ez ?_)
 all_goals(first
  |exact⟨hn,aT _⟩
  |exact⟨hn,aO _⟩
  |exact⟨k1,aT _⟩
  |exact⟨k2,aT _⟩
  |exact⟨k3,aT _⟩
  |exact⟨k4 _ _,aT _⟩)
def okB(b:gv):Prop:=U b.C7/\U b.C2
theorem xac{P:Nat}{m:List Int}(hm:ep P m){b:gv}(hb:okB b)(port:Int){v:Int}(hv:U v):(Br b m port v).w (λr=>okB r.1/\ep P r.2):=by
 have wC:decide (0<=v)=true:=dY hv.1
 have h2:=hm.p2
 have rest:(Tree.br (port==11) (.br (decide (v<32)) (.cn (decide (0<=v)) (.lf (({C7:=b.C7,C2:=nS .u32 b.C2 (eg .u32 1 v)}:gv),m))) (.lf (b,m))) (.lf (b,m))).w (λr=>okB r.1/\ep P r.2):=
  aa (λ_=>aa (λ_=>ba wC ⟨⟨hb.1,fg _⟩,hm⟩) (λ_=>⟨hb,hm⟩)) (λ_=>⟨hb,hm⟩)
 unfold Br
 refine aa (λ_=>ar λx0 hx=>aa (λhp=>ba wC (aa (λ_=>ba wC ?_) (λ_=>rest))) (λ_=>rest)) (λ_=>rest)
 have hp:Q2 m v=true:=hx.symm.trans hp
 rw[Ft hm hv]at hp
 have hp:=oY hp
 obtain⟨v1,v2⟩:=hv
 refine ga (inv:=λz=>0<=z.1/\z.1<=32/\ep P z.2) (μ:=X5 b m port v) ⟨by omega,by omega,hm⟩ (cO _) (λz hz=>?_)
 obtain⟨z1,z2,z3⟩:=hz
 have hl:=z3.len
 refine aa (λh=>?_) (λ_=>⟨⟨hb.1,fg _⟩,z3⟩)
 have h:=oY h
 have e:wrap i64 (wrap i64 (wrap i64 v*32)+z.1)=v*32+z.1:=by rw[wrap_i64,wrap_i64,wrap_i64];omega
 refine ba (by rw[e];simp[bJ];omega) (fh ?_)
 show(0<=i64.wrap (z.1+1)/\i64.wrap (z.1+1)<=32/\ep P (dG _ _ _))/\(32-i64.wrap (z.1+1)).toNat<(32-z.1).toNat
 have ew:i64.wrap (z.1+1)=z.1+1:=by rw[wrap_i64];omega
 rw[ew]
 exact⟨⟨by omega,by omega,⟨by simp[hl],z3.p1,z3.p2,DR z3.u ek _⟩⟩,by omega⟩
structure nI(P:Nat)(m:au):Prop where
 me:iy m.B1
 mem:ep P m.Mem
 kS:ox m.A7
 sN:pr m.C3
 target:okB m.A2
 lU:0<=m.A1
theorem Z24(c:iV)(port:Int):U (Jf c port).2:=by
 refine Tree.post (G4 c port) (W:=λr=>U r.2) ?_
 have u1:U 4294967295:=⟨by omega,by omega⟩
 unfold G4
 refine aa (λ_=>aa (λ_=>u1) (λh=>aa (λ_=>ba ?_ (ba ?_ (fg _))) (λ_=>aa (λ_=>fg _) (λ_=>ek)))) (λh1=>aa (λh=>(by rw[h1]at h;cases h)) (λ_=>aa (λ_=>fg _) (λ_=>ek)))
 ·have h:¬(c.D1.length:Int)=0:=by simpa using h
  exact dY ⟨by omega,by omega,by omega⟩
 ·have h:¬(c.D1.length:Int)=0:=by simpa using h
  simp[bJ];omega
theorem vA{n:ia}(h:pr n)(port:Int):U (OM n port):=by
 refine Tree.post (ON n port) (W:=U) ?_
 have u1:U 1:=⟨by omega,by omega⟩
 unfold ON
 exact aa (λ_=>h.frame) (λ_=>aa (λ_=>h.GJ) (λ_=>aa (λ_=>aa (λ_=>aa (λ_=>fg _) (λ_=>u1)) (λ_=>aa (λ_=>fg _) (λ_=>ek))) (λ_=>ek)))
theorem Zn4{d:fp}(h:ox d)(port:Int):U (T9 d port):=by
 refine Tree.post (Vt d port) (W:=U) ?_
 unfold Vt
 exact aa (λ_=>h.block) (λ_=>aa (λ_=>h.frame) (λ_=>aa (λ_=>fg _) (λ_=>ek)))
theorem Zh8(t:iW):U (Ua t):=by
 refine Tree.post (Vu t) (W:=U) ?_
 unfold Vu
 exact aa (λ_=>⟨by omega,by omega⟩) (λ_=>ek)
theorem Z35{b:gv}(h:U b.C7)(port:Int):U (Jh b port):=by
 refine Tree.post (LV b port) (W:=U) ?_
 unfold LV
 exact aa (λ_=>h) (λ_=>aa (λ_=>ar λ_ _=>fg _) (λ_=>ek))
structure pq(P:Nat)(r:cy):Prop where
 m:nI P r.A0
 clock:U r.B3
structure HW(P:Nat)(r x:cy):Prop where
 ok:pq P x
 log:x.C8=r.C8
 queue:x.B0=r.B0
theorem w0(x:Int):0<=u64.wrap x:=by rw[wrap_u64];omega
section
variable {P:Nat} {r:cy} (h:pq P r)
include h
theorem Jai(port:Int){clock:Int}(hc:U clock):(O1 r port clock).w (λx=>U x.1/\HW P r x.2):=by
 have k:HW P r r:=⟨h,rfl,rfl⟩
 obtain⟨⟨h1,h2,h3,h4,h5,h7⟩,h6⟩:=h
 unfold O1
 exact aa (λ_=>ar λx hx=>⟨hx▸Z24 _ _,⟨⟨⟨h1,h2,h3,h4,h5,h7⟩,h6⟩,rfl,rfl⟩⟩) (λ_=>aa (λ_=>⟨hc,k⟩) (λ_=>aa (λ_=>ar λx hx=>⟨hx▸Zh8 _,k⟩) (λ_=>aa (λ_=>ar λx hx=>⟨hx▸Zn4 h3 _,k⟩) (λ_=>aa (λ_=>ar λx hx=>⟨hx▸vA h4 _,k⟩) (λ_=>ar λx hx=>⟨hx▸Z35 h5.1 _,k⟩)))))
theorem RL(port:Int){v:Int}(hv:U v):(L6 r port v).w (λx=>x.1.length<=1/\HW P r x.2):=by
 have k:HW P r r:=⟨h,rfl,rfl⟩
 obtain⟨⟨h1,h2,h3,h4,h5,h7⟩,h6⟩:=h
 unfold L6
 exact aa (λ_=>⟨aO _,k⟩) (λ_=>aa (λ_=>⟨aT _,k⟩) (λ_=>aa (λ_=>ar λ_ _=>⟨aT _,⟨⟨⟨h1,h2,h3,h4,h5,h7⟩,h6⟩,rfl,rfl⟩⟩) (λ_=>aa (λ_=>bm (Zf5 h2 h3 _ hv _) λx hx=>⟨hx.2,⟨⟨⟨h1,h2,hx.1,h4,h5,h7⟩,h6⟩,rfl,rfl⟩⟩) (λ_=>aa (λ_=>bm (Zmd h2 h4 _ hv _) λx hx=>⟨hx.2,⟨⟨⟨h1,h2,h3,hx.1,h5,h7⟩,h6⟩,rfl,rfl⟩⟩) (λ_=>bm (xac h2 h5 _ hv) λx hx=>⟨aT _,⟨⟨⟨h1,hx.2,h3,h4,hx.1,h7⟩,h6⟩,rfl,rfl⟩⟩)))))
theorem Tb{clock:Int}(hc:U clock):(Ma r clock).w (λx=>x.1.length<=1/\HW P r x.2):=by
 obtain⟨⟨h1,h2,h3,h4,h5,h7⟩,h6⟩:=h
 unfold Ma
 refine bm (Tc h1) λx0 c0=>bm (Fa c0 h2) λx1 hx=>?_
 obtain⟨c1,v1,m1⟩:=hx
 refine aa (λ_=>NO (Jai (r:=⟨⟨_,_,_,_,_,_,_,_,_,_⟩,_,_,_⟩) ⟨⟨c1,m1,h3,h4,h5,h7⟩,h6⟩ _ hc) λx2 hx=>?_) (λ_=>aa (λ_=>bm (RL (r:=⟨⟨_,_,_,_,_,_,_,_,_,_⟩,_,_,_⟩) ⟨⟨c1,m1,h3,h4,h5,h7⟩,h6⟩ _ v1) λx4 hx=>?_) (λ_=>?_))
 ·obtain⟨u,⟨⟨⟨k1,k2,k3,k4,k5,k7⟩,k6⟩,e1,e2⟩⟩:=hx
  exact bm (DO k1 _ u) λx3 h3=>⟨aT _,⟨⟨⟨h3,k2,k3,k4,k5,w0 _⟩,k6⟩,e1,e2⟩⟩
 ·obtain⟨u,⟨⟨⟨k1,k2,k3,k4,k5,k7⟩,k6⟩,e1,e2⟩⟩:=hx
  exact⟨u,⟨⟨⟨k1,k2,k3,k4,k5,w0 _⟩,k6⟩,e1,e2⟩⟩
 ·repeat'(first
   |exact⟨aT _,⟨⟨⟨c1,m1,h3,h4,h5,w0 _⟩,h6⟩,rfl,rfl⟩⟩
   |refine aa (λ_=>?_) (λ_=>?_))
end
theorem qad(c:iV)(b:Int):(RM c b).w (λ_=>True):=by
 unfold RM
 refine aa (λ_=>trivial) (λh=>ba (dY ?_) trivial)
 have h:=oN h
 simp[maxLen];omega
theorem Zmr{P:Nat}{m:List Int}(hm:ep P m){n:ia}(hn:pr n)(frame:List UInt8):(LS n m frame).w (λr=>pr r.1/\ep P r.2.2):=by
 unfold LS
 refine aa (λ_=>⟨hn,hm⟩) (λ_=>aa (λ_=>⟨hn,hm⟩) (λ_=>aa (λ_=>⟨hn,hm⟩) (λ_=>ar λx0 hx=>aa (λ_=>⟨hn,hm⟩) (λhb=>?_))))
 have hp:Q2 m n.C0=true:=hx.symm.trans (by simpa using hb)
 rw[Ft hm hn.buffer]at hp
 have hp:=oY hp
 obtain⟨b1,b2⟩:=hn.buffer
 have ew:i64.wrap n.C0=n.C0:=by rw[wrap_i64];omega
 exact bm (zab hm (frame:=i64.wrap n.C0) (by rw[ew];exact b1) (by rw[ew];exact hp) frame) λx hx=>⟨⟨hn.frame,hn.len,ek,fg _⟩,hx⟩
section
variable {P:Nat} {r:cy} (h:pq P r)
include h
theorem qaC{e:gx}(he:U e.N):(L7 r e).w (λx=>HW P r x.2):=by
 have k:HW P r r:=⟨h,rfl,rfl⟩
 obtain⟨⟨h1,h2,h3,h4,h5,h7⟩,h6⟩:=h
 unfold L7
 repeat'(first
  |exact k
  |exact⟨⟨⟨h1,h2,h3,h4,⟨he,h5.2⟩,h7⟩,h6⟩,rfl,rfl⟩
  |exact ar λ_ _=>⟨⟨⟨h1,h2,h3,h4,h5,h7⟩,h6⟩,rfl,rfl⟩
  |exact bm (qad _ _) λ_ _=>⟨⟨⟨h1,h2,h3,h4,h5,h7⟩,h6⟩,rfl,rfl⟩
  |exact bm (Znv h2 h3 _) λx hx=>⟨⟨⟨h1,hx.2,hx.1,h4,h5,h7⟩,h6⟩,rfl,rfl⟩
  |exact bm (Zmr h2 h4 _) λx hx=>⟨⟨⟨h1,hx.2,h3,hx.1,h5,h7⟩,h6⟩,rfl,rfl⟩
  |refine aa (λ_=>?_) (λ_=>?_))
theorem qB{e:gx}(he:U e.N)(hl:r.C8.length<=1000000):(Mc r e).w (λx=>pq P x/\x.C8.length<=r.C8.length+1/\x.B0=r.B0):=by
 have acc:(Mb r e).w (λx=>HW P r x.2):=by
  unfold Mb
  exact bm (qaC h he) λx hx=>hx
 unfold Mc
 refine bm acc λx hx=>?_
 obtain⟨⟨k1,k2⟩,e1,e2⟩:=hx
 refine aa (λ_=>ba (dY (by rw[e1];omega)) ⟨⟨k1,k2⟩,by simp[e1],e2⟩) (λ_=>⟨⟨k1,k2⟩,by rw[e1];omega,e2⟩)
theorem Gx(hl:r.C8.length<=1000000)(hq:r.B0.length<=1000000):(Md r).w (λx=>pq P x/\x.C8=r.C8/\x.B0=r.B0):=by
 have ow:(Gz r.A0).w (λm=>nI P m):=by
  obtain⟨⟨h1,h2,h3,h4,h5,h7⟩,h6⟩:=h
  unfold Gz
  exact bm (qab h2) λx hx=>⟨h1,by rw[hx];exact h2,h3,h4,h5,h7⟩
 unfold Md
 refine bm ow λx hx=>ba (dY (by simp;omega)) (ba (dY (by simp;omega)) ⟨⟨hx,h.clock⟩,rfl,rfl⟩)
theorem vU(e:gx)(hl:r.C8.length<=1000000)(hq:r.B0.length<=16)(hu:∀q∈r.B0,U q.N)(he:U e.N):(Me r e).w (λx=>pq P x.1/\x.1.C8=r.C8/\x.1.B0.length<=16/\∀q∈x.1.B0,U q.N):=by
 unfold Me
 refine bm (Gx h hl (by omega)) λx hx=>?_
 obtain⟨k1,k2,k3⟩:=hx
 have g:pq P x/\x.C8=r.C8/\x.B0.length<=16/\∀q∈x.B0,U q.N:=⟨k1,k2,by rw[k3];exact hq,by rw[k3];exact hu⟩
 refine ar λx1 _=>aa (λ_=>g) (λ_=>aa (λ_=>g) (λ_=>aa (λ_=>g) (λhb=>ba (dY (by rw[k3];omega)) ?_)))
 have hb:=oN hb
 refine⟨⟨k1.m,k1.clock⟩,k2,?_,?_⟩
 ·show(x.B0++[e]).length<=16
  rw[lA];simp at hb⊢;omega
 ·intro q hq
  have hq:q∈x.B0++[e]:=hq
  rw[List.mem_append]at hq
  rcases hq with hq|hq
  ·exact hu q (k3▸hq)
  ·rw[List.mem_singleton.1 hq];exact he
end
theorem xB(n:Int):(RN n).w (λe=>U e.N):=by
 have u1:U 1:=⟨by omega,by omega⟩
 have Jaj:∀x y,MP x (wrap .i64 (1+dE y 40)):=λx y=>by
  show wrap .i64 (1+dE y 40)<=1000000000000
  have h1:=Int.tmod_lt_of_pos y (b:=40) (by decide)
  have h2:=Int.lt_tmod_of_pos y (b:=40) (by decide)
  rw[wrap_i64];omega
 unfold RN
 refine ar λx0 _=>?_
 repeat'(first
  |exact ek
  |exact u1
  |exact fg _
  |exact cz (show(128:Int)<=1000000000000 by decide) (ar λ_ _=>u1)
  |exact cz (Jaj _ _) (ar λ_ _=>ek)
  |refine aa (λ_=>?_) (λ_=>?_))

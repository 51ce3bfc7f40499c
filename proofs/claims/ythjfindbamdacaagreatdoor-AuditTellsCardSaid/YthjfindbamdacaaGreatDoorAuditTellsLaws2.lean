import Derived.Test.YthjfindbamdacaaGreatDoorAuditTellsZx
open List renaming set->dF,mem_cons->cR,not_mem_nil->cS
open Nat renaming blt->bJ,beq->bT,lt_succ_self->cO,le_refl->aO,zero_le->aT
open Int renaming pow_pos->dM,le_of_lt->dP,fdiv_eq_ediv_of_nonneg->dO,tmod->dD,mul_tmod_right->hJ,mul_tdiv_cancel_left->hY,tdiv->eT,tdiv_eq_ediv_of_nonneg->eU,emod_eq_of_lt->dL,lt_of_lt_of_le->hZ,le_of_eq->iA
open BitVec renaming ofInt->dV,toNat_and->dZ
set_option maxRecDepth 100000
set_option linter.all false
namespace Go.Proofs.YthjfindbamdacaaGreatDoor
open Go Go.GD
open Go.IntKind(wrap i64 u32 u64 u8 i32 wrap_i64 wrap_u32 wrap_u64 wrap_u8 wrap_i32)
def U(x:Int):Prop:=0<=x/\x<4294967296
theorem fq(x:Int):U (u32.wrap x):=by rw[wrap_u32];unfold U;omega
theorem Jb(x y:Int):U (bc .u32 x y):=fq _
theorem nd(x y:Int):U (il .u32 x y):=fq _
theorem ep:U 0:=⟨by omega,by omega⟩
theorem Ee{m:List Int}(h:∀w∈m,U w){v:Int}(hv:U v)(i:Nat):∀w∈m.set i v,U w:=by
 intro w hw
 rcases List.mem_or_eq_of_mem_set hw with h1|h1
 ·exact h w h1
 ·rw[h1];exact hv
structure ey(P:Nat)(m:List Int):Prop where
 len:m.length=32*P
 p1:0<=P
 p2:P<=32
 u:∀w∈m,U w
structure oB(d:fm):Prop where
 block:U d.B9
 frame:U d.Frame
 kz:U d.B4
 ig:U d.B0
structure pr(n:ij):Prop where
 frame:U n.Frame
 len:U n.D6
 buffer:U n.B7
 GM:U n.D8
theorem AO{l:List Int}(h:∀w∈l,U w)(i:Nat):U (l.getD i 0):=by
 by_cases hi:i<l.length
 ·have:l.getD i 0=l[i]:=by simp[List.getD,hi]
  rw[this];exact h _ (List.getElem_mem hi)
 ·have:l.getD i 0=0:=by simp[List.getD,List.getElem?_eq_none (by omega:l.length<=i)]
  rw[this];exact ep
structure iM(c:bg):Prop where
 x:∀w∈fu.l c.X,U w
 pc:U c.Pc
 jy:∀w∈A8.l c.B1,U w
theorem Xm{X:fu Int}(h:∀w∈fu.l X,U w){v:Int}(hv:U v)(i:Nat):∀w∈fu.l (fu.of 0 (dF (fu.l X) i v)),U w:=by
 have hs:=Ee h hv i
 intro w hw
 simp only[fu.l,fu.of,cR,cS,or_false]at hw
 repeat(first|(rcases hw with rfl|hw;· exact AO hs _)|(subst hw;exact AO hs _))
theorem Zgo{X:A8 Int}(h:∀w∈A8.l X,U w){v:Int}(hv:U v)(i:Nat):∀w∈A8.l (A8.of 0 (dF (A8.l X) i v)),U w:=by
 have hs:=Ee h hv i
 intro w hw
 simp only[A8.l,A8.of,cR,cS,or_false]at hw
 repeat(first|(rcases hw with rfl|hw;· exact AO hs _)|(subst hw;exact AO hs _))
section
variable {c:bg} (h:iM c)
include h
theorem iM.a(i:Nat):U ((A8.l c.B1).getD i 0):=AO h.jy i
theorem iM.r(i:Nat):U ((fu.l c.X).getD i 0):=AO h.x i
theorem iM.a0:U c.B1.a0:=h.a 0
theorem iM.a1:U c.B1.a1:=h.a 1
theorem iM.a2:U c.B1.a2:=h.a 2
theorem iM.a3:U c.B1.a3:=h.a 3
theorem iM.a4:U c.B1.a4:=h.a 4
theorem iM.a5:U c.B1.a5:=h.a 5
theorem iM.a6:U c.B1.a6:=h.a 6
theorem iM.a7:U c.B1.a7:=h.a 7
theorem iM.Bl{p:Int}(hp:U p):iM {X:=c.X,Pc:=p,B1:=c.B1}:=⟨h.x,hp,h.jy⟩
end
section
variable {α β:Type} {W:β->Prop} {t:Tree α} {Q:α->Prop} {k:α->Tree β}
theorem bh(hq:t.w Q)(g:∀x,Q x->(k x).w W):(Tree.an t.p (Tree.lv t.m k)).w W:=⟨(Tree.pp hq).1,λy hy=>g y (by rw[hy];exact(Tree.pp hq).2)⟩
theorem S6(hq:t.w Q)(g:∀x,Q x->(k x).w W):(Tree.lv t.m k).w W:=λy hy=>g y (by rw[hy];exact t.post hq)
end
theorem rc{r:Int}(h:0<=r/\r<16):(bJ 0 1&&decide (0<=r/\r<((16:Nat):Int)))=true:=by simp[bJ];omega
theorem AN{a:Int}(h:U a)(b:Int):U (bf .u32 a b):=by
 unfold bf U
 obtain⟨h1,h2⟩:=h
 have hp:(0:Int)<2^(min b.toNat u32.bits):=dM (by decide)
 have:=Int.fdiv_nonneg h1 (dP hp)
 refine⟨this,?_⟩
 rw[dO _ (dP hp)]
 have h3:=Int.ediv_le_self (2^(min b.toNat u32.bits)) h1
 omega
structure sR(i:gm):Prop where
 a:0<=i.A/\i.A<16
 b:0<=i.B/\i.B<16
 c:0<=i.C/\i.C<16
 jy:i.Op=58->0<=i.bo/\i.bo<8
theorem XD{P:Nat}{m:List Int}(h:ey P m):lZ m=P:=by
 obtain⟨h1,h2,h3,_⟩:=h
 simp only[lZ,Le,Tree.m]
 have e:(m.length:Int)=32*P:=by omega
 rw[e]
 have e1:(dD (32*(P:Int)) 32 !=0)=false:=by simp[hJ]
 have e2:decide ((32*(P:Int))>1024)=false:=dN (by omega)
 rw[e1,e2]
 simp only[cond_false]
 rw[hY _ (by decide),wrap_i64];omega
theorem zY(n:Int):(Ru n).w (λ_=>True):=by
 unfold Ru
 exact ab (λ_=>trivial) (λ_=>ar (dY (by rw[wrap_u64];omega)) trivial)
theorem MW(w low n:Int):(Rv w low n).w U:=by
 unfold Rv
 exact ab (λ_=>ep) (λ_=>ab (λ_=>ep) (λ_=>ab (λ_=>ep) (λ_=>ar (dY (by rw[wrap_u64];omega)) (bh (zY n) λ_ _=>Jb _ _))))
theorem Zp4{w:Int}(hw:U w)(low n v:Int):(Q9 w low n v).w U:=by
 have h0:decide (0<=wrap u64 low)=true:=dY (by rw[wrap_u64];omega)
 unfold Q9
 exact ab (λ_=>hw) (λ_=>ab (λ_=>hw) (λ_=>ab (λ_=>hw) (λ_=>bh (zY n) λ_ _=>ar h0 (ar h0 (nd _ _)))))
theorem Xc{x:Int}(hx:U x)(n:Int):(Rw x n).w U:=by
 have h0:∀y,decide (0<=wrap u64 y)=true:=λy=>dY (by rw[wrap_u64];omega)
 unfold Rw
 exact ab (λ_=>ep) (λ_=>ab (λ_=>hx) (λ_=>ar (h0 _) (ar (h0 _) (fq _))))
section
variable {P:Nat} {m:List Int} (h:ey P m)
include h
theorem r6:mN m:=by
 have:=h.len
 have:=h.p2
 show m.length<=35184372088832
 omega
theorem Zfi{a:Int}(ha:U a){size:Int}(hs:size=1\/size=4):(Je m a size).w (λb=>b=true->a+size<=128*P):=by
 have hp:=XD h
 have h2:=h.p2
 obtain⟨a1,a2⟩:=ha
 have e:decide (wrap u32 size≠0)=true:=by rcases hs with rfl|rfl<;>decide
 have l:∀x,x=lZ m->decide (wrap u64 (wrap u64 a+wrap u64 size)<=wrap u64 (wrap u64 x*128))=true->a+size<=128*P:=λx hx hd=>by
  rw[hx,hp]at hd
  have:=oY hd
  simp only[wrap_u64]at this
  omega
 unfold Je
 refine ab (λ_=>ab (λ_=>λh=>by cases h) (λ_=>?_)) (λ_=>?_)<;>
 exact ar e (ab (λ_=>λh=>by cases h) (λ_=>au λx hx=>l x hx))
theorem F9{a:Int}(ha:U a)(hl:a<128*P):(bT 1 1&&bJ 0 1&&decide (0<=wrap u32 (eT a 4)/\wrap u32 (eT a 4)<(m.length:Int)))=true:=by
 obtain⟨a1,a2⟩:=ha
 have e:wrap u32 (eT a 4)=a/4:=by rw[wrap_u32,eU a1];omega
 have:=h.len
 rw[e];simp[bJ];omega
theorem I6{a:Int}(ha:U a){size:Int}(hs:size=1\/size=4):(LF m a size).w (λr=>U r.1/\(r.2=true->a<128*P)):=by
 unfold LF
 refine bh (Zfi h ha hs) λx hx=>ab (λ_=>⟨ep,λh=>by cases h⟩) (λhb=>?_)
 have hl:=hx (by simpa using hb)
 have hl:a<128*P:=by omega
 exact ar (F9 h ha hl) (ab (λ_=>bh (MW _ _ _) λy hy=>⟨hy,λ_=>hl⟩) (λ_=>⟨AO h.u _,λ_=>hl⟩))
theorem Tn{a:Int}(ha:U a){size:Int}(hs:size=1\/size=4){v:Int}(hv:U v):(LH m a size v).w (λr=>ey P r.1):=by
 have st:∀i v,U v->ey P (m.set i v):=λi v hv=>⟨by simp[h.len],h.p1,h.p2,Ee h.u hv i⟩
 have gz:jK m=m:=rfl
 unfold LH
 refine cu (r6 h) (au λx0 nK=>?_)
 rw[gz]at nK;subst nK
 refine bh (Zfi h ha hs) λx hx=>ab (λ_=>h) (λhb=>?_)
 have hl:=hx (by simpa using hb)
 have hl:a<128*P:=by omega
 exact ab (λ_=>ar (F9 h ha hl) (bh (Zp4 (AO h.u _) _ _ _) λy hy=>ar (F9 h ha hl) (st _ _ hy))) (λ_=>ar (F9 h ha hl) (st _ _ hv))
end
theorem Zji{r:Int}{used:Bool}(h:Ly r used=true):0<=r/\r<16:=by
 simp only[Ly,Ts,Tree.m]at h
 cases used
 ·have h:(r==0)=true:=h
  have:=eq_of_beq h;omega
 ·cases h1:decide (r>=0)<;>rw[h1]at h
  ·cases h
  ·have h1:=oY h1
   have h:=oY h
   omega
theorem vw{i:gm}(h:Ja i=true):sR i:=by
 have no:false=true->sR i:=λh=>by cases h
 refine(Tree.post (Ov i) (W:=λb=>b=true->sR i) ?_) h
 unfold Ov
 refine au λx0 h0=>ab (λ_=>au λx1 h1=>ab (λb1=>au λx2 h2=>ab (λb2=>au λx3 h3=>ab (λb3=>ab (λb4=>λb5=>?_) (λ_=>no)) (λ_=>no)) (λ_=>no)) (λ_=>no)) (λ_=>no)
 have b4:=oY b4
 have b5:=oY b5
 refine⟨Zji (h1.symm.trans b1),Zji (h2.symm.trans b2),Zji (h3.symm.trans b3),λe=>?_⟩
 rw[e]at h0
 have h0:x0=({a:=true,b:=false,c:=false,low:=0,D3:=7},true):=h0
 subst h0
 simp at b4 b5;omega
theorem Xe(w:Int):(LA w).w (λr=>r.2=true->sR r.1):=by
 have no:∀{p:Prop},false=true->p:=λh=>by cases h
 have l:∀i,(Tree.lv (Ja i) λx=>.br (!x) (.lf ((⟨0,0,0,0,0⟩:gm),false)) (.lf (i,true))).w (λr=>r.2=true->sR r.1):=λi=>au λx hx=>ab (λ_=>no) (λhb=>λ_=>vw (hx.symm.trans (by simpa using hb)))
 unfold LA
 exact bh (MW _ _ _) λx0 _=>bh (MW _ _ _) λx1 _=>bh (MW _ _ _) λx2 _=>au λx3 _=>ab (λ_=>no) (λ_=>bh (MW _ _ _) λx4 h4=>ab (λ_=>l _) (λ_=>ab (λ_=>bh (Xc h4 _) λx6 _=>l _) (λ_=>l _)))
section
variable {P:Nat} {m:List Int} (h:ey P m)
include h
theorem xQ{f:Int}(hf:U f):OA m f=decide (f<P):=by
 have:=XD h
 obtain⟨h1,h2⟩:=hf
 have h3:=h.p2
 simp only[OA,Qh5,Tree.m,dk,this]
 congr 1
 rw[wrap_u64,wrap_u64,dL h1 (by omega),dL (by omega) (by omega)]
theorem xao{root va:Int}(hv:U va)(access:Int):(LJ m root va access).w (λt=>U t.Addr/\U t.E0):=by
 have bad:U (0:Int)/\U (0:Int):=⟨ep,ep⟩
 have fr:∀x,(Rx x).w U:=λx=>by
  unfold Rx
  exact bh (MW _ _ _) λy hy=>hy
 unfold LJ
 exact au λx0 _=>ab (λ_=>bad) (λ_=>ab (λ_=>bad) (λ_=>au λx1 _=>ab (λ_=>bad) (λ_=>bh (I6 h (fq _) (.inr rfl)) λx2 _=>ab (λ_=>bad) (λ_=>au λx3 _=>ab (λ_=>bad) (λ_=>bh (fr _) λx4 _=>au λx5 _=>ab (λ_=>bad) (λ_=>bh (fr _) λx6 _=>⟨fq _,fq _⟩))))))
theorem zQ{a:Int}(ha:U a)(access:Int):(LK m a access).w (ey P):=by
 have gz:jK m=m:=rfl
 unfold LK
 exact bh (I6 h ha (.inr rfl)) λx0 _=>ab (λ_=>cu (r6 h) (au λx1 h1=>by rw[h1,gz];exact h)) (λ_=>ab (λ_=>bh (Tn h ha (.inr rfl) (nd _ _)) λx hx=>hx) (λ_=>bh (Tn h ha (.inr rfl) (nd _ _)) λx hx=>hx))
theorem Oq{c:bg}{va:Int}(hv:U va){size:Int}(hs:size=1\/size=4)(access:Int):(LR c m va size access).w (λr=>U r.1/\ey P r.2.1):=by
 have gz:jK m=m:=rfl
 have e:decide (wrap u32 size≠0)=true:=by rcases hs with rfl|rfl<;>decide
 have cl:∀(K:List Int->Int×List Int×Int),(∀x,x=m->U (K x).1/\ey P (K x).2.1)->(Tree.an (mN m) (.lv (jK m) λx=>.lf (K x))).w (λr=>U r.1/\ey P r.2.1):=λK hK=>cu (r6 h) (au λx hx=>hK x (hx.trans gz))
 have z:∀(k:Nat) (x:List Int),x=m->U (0:Int)/\ey P x:=λ_ x hx=>⟨ep,hx▸h⟩
 have v:∀x,x=m->U va/\ey P x:=λx hx=>⟨hv,hx▸h⟩
 have main:∀(x0:Int×Bool),(Tree.cn (decide (wrap u32 size≠0)) (.br (dD va (wrap u32 size) !=0) (.an (mN m) (.lv (jK m) λx3=>.lf ((0:Int),x3,(3:Int)))) (.lv (G3 c) λx4=>.br (!x4) (.br (bc u32 c.B1.a0 4 !=0) (.an (Qi5 m c.B1.a6 va access) (.lv (Ty m c.B1.a6 va access) λx5=>.br (x5.D9 !=0) (.an (mN m) (.lv (jK m) λx6=>.lf (0,x6,x5.D9))) (.an (Qff m x5.E0 access) (.lv (OB m x5.E0 access) λx7=>.lf (x5.Addr,x7,0))))) (.an (Kc m va size) (.lv (Cz m va size) λx8=>.br (!x8.2) (.an (mN m) (.lv (jK m) λx9=>.lf (0,x9,x0.1))) (.an (mN m) (.lv (jK m) λja=>.lf (va,ja,0)))))) (.an (Kc m va size) (.lv (Cz m va size) λjv=>.br (!jv.2) (.an (mN m) (.lv (jK m) λjO=>.lf (0,jO,x0.1))) (.an (mN m) (.lv (jK m) λjW=>.lf (va,jW,0)))))))).w (λr=>U r.1/\ey P r.2.1):=λx0=>
  ar e (ab (λ_=>cl _ (z 0)) (λ_=>au λx4 _=>ab (λ_=>ab (λ_=>bh (xao h hv access) λx5 hx=>ab (λ_=>cl _ (z 0)) (λ_=>bh (zQ h hx.2 access) λx7 h7=>⟨hx.1,h7⟩)) (λ_=>bh (I6 h hv hs) λx8 _=>ab (λ_=>cl _ (z 0)) (λ_=>cl _ v))) (λ_=>bh (I6 h hv hs) λx8 _=>ab (λ_=>cl _ (z 0)) (λ_=>cl _ v))))
 unfold LR
 exact au λx0 _=>ab (λ_=>cl _ (z 0)) (λ_=>ab (λ_=>ab (λ_=>cl _ (z 0)) (λ_=>main x0)) (λ_=>main x0))
theorem Xd{c:bg}(hc:iM c):(Ry c m).w (λr=>U r.1/\ey P r.2.1):=by
 unfold Ry
 exact bh (Oq h hc.pc (.inr rfl) 1) λx0 h0=>ab (λ_=>⟨ep,h0.2⟩) (λ_=>bh (I6 h0.2 h0.1 (.inr rfl)) λx1 h1=>⟨h1.1,h0.2⟩)
end
theorem qap{s a b:Int}:U (AL s a b):=by
 refine Tree.post (Vn s a b) (W:=U) ?_
 unfold Vn
 exact ab (λ_=>fq _) (λ_=>fq _)
section
variable {c:bg} (h:iM c)
include h
theorem GR(k:Int){b:Int}(hb:U b):iM (rB c k b):=by
 refine(Tree.post (OD c k b) (W:=iM) ?_)
 unfold OD
 refine au λ_ _=>au λ_ _=>⟨h.x,h.a1,?_⟩
 intro w hw
 simp only[A8.l,cR,cS,or_false]at hw
 rcases hw with rfl|rfl|rfl|rfl|rfl|rfl|rfl|rfl
 ·exact fq _
 ·exact h.a1
 ·exact h.pc
 ·exact fq _
 ·exact hb
 ·exact h.a5
 ·exact h.a6
 ·exact h.a7
theorem qx:iM (Lt c):=by
 refine(Tree.post (OF c) (W:=iM) ?_)
 unfold OF
 refine au λx0 _=>au λx1 h1=>⟨h.x,h.a2,?_⟩
 intro w hw
 simp only[A8.l,cR,cS,or_false]at hw
 rcases hw with rfl|rfl|rfl|rfl|rfl|rfl|rfl|rfl
 ·rw[h1];exact qap
 ·exact h.a1
 ·exact h.a2
 ·exact h.a3
 ·exact h.a4
 ·exact h.a5
 ·exact h.a6
 ·exact h.a7
theorem Ej{r:Int}(hr:0<=r/\r<16){v:Int}(hv:U v):(Fw c r v).w iM:=by
 unfold Fw
 exact ab (λ_=>ar (rc hr) ⟨Xm h.x hv _,h.pc,h.jy⟩) (λ_=>h)
theorem Znl(k:Int){v:Int}(hv:U v):(I5 c k v).w iM:=by
 have ok:∀i v,U v->iM {X:=c.X,Pc:=c.Pc,B1:=A8.of 0 (dF (A8.l c.B1) i v)}:=λi v hv=>⟨h.x,h.pc,Zgo h.jy hv i⟩
 unfold I5
 repeat'(first
  |exact h
  |exact ok _ _ (fq _)
  |exact ok _ _ hv
  |refine ab (λhk=>?_) (λ_=>?_)
  |refine ar (by rw[eq_of_beq (by assumption:(k==_)=true)];decide) ?_)
end
theorem Zie{a b:Int}(ha:U a)(hb:U b):(LP a b).w (λr=>U r.1/\U r.2):=by
 have u1:U 4294967295:=⟨by omega,by omega⟩
 unfold LP
 refine ab (λ_=>⟨u1,ha⟩) (λh=>?_)
 have h:¬b=0:=by simpa using h
 obtain⟨b1,b2⟩:=hb
 have hc:decide (wrap i32 b≠0)=true:=dY (by rw[wrap_i32];omega)
 exact ab (λ_=>ab (λ_=>⟨ha,ep⟩) (λ_=>ar hc (ar hc ⟨fq _,fq _⟩))) (λ_=>ar hc (ar hc ⟨fq _,fq _⟩))
theorem zap(b:Bool):U (Vo b):=by cases b<;>exact⟨by decide,by decide⟩
theorem Lv(op:Int){a b:Int}(ha:U a)(hb:U b):(Rz op a b).w (λr=>U r.1):=by
 unfold Rz
 repeat'(first
  |refine ab (λ_=>?_) (λ_=>?_)
  |exact bh (Zie ha hb) λx hx=>hx.1
  |exact bh (Zie ha hb) λx hx=>hx.2
  |exact au λx hx=>(by rw[hx];exact zap _)
  |refine bq ?_)
 all_goals(first
  |exact fq _
  |exact AN ha _
  |exact ep)
theorem Tm(op:Int):Kd op=1\/Kd op=4:=by
 simp only[Kd,Qst,Tree.m]
 cases op==32<;>cases op==35<;>simp
section
variable {c:bg} (h:iM c) {i:gm} (hi:sR i)
include h hi
theorem Zqz:(Fx c i).w (λr=>iM r.1/\U r.2.Value):=by
 have k:∀{x:bg} {p:Int},iM x->U p->iM {X:=x.X,Pc:=p,B1:=x.B1}:=λhx hp=>⟨hx.x,hp,hx.jy⟩
 unfold Fx
 refine ar (rc hi.a) (ar (rc hi.b) ?_)
 repeat'(first
  |refine ab (λ_=>?_) (λ_=>?_)
  |exact bh (Ej h hi.a (fq _)) λx hx=>⟨k hx (fq _),ep⟩
  |exact au λx _=>ab (λ_=>⟨k h (fq _),ep⟩) (λ_=>⟨k h (fq _),ep⟩)
  |exact au λx hx=>⟨by rw[hx];exact GR h _ ep,ep⟩
  |exact au λx hx=>⟨by rw[hx];exact qx h,ep⟩
  |exact ar (by have:=hi.jy (by simp_all);simp[bJ];omega) (bh (Ej h hi.a (h.a _)) λx hx=>⟨k hx (fq _),ep⟩)
  |exact bh (Znl h _ (h.r _)) λx hx=>⟨k hx (fq _),ep⟩
  |refine ar (rc hi.c) ?_
  |exact bh (Lv _ (h.r _) (fq _)) λy hy=>bh (Ej h hi.a hy) λx hx=>⟨k hx (fq _),ep⟩
  |exact bh (Lv _ (h.r _) (h.r _)) λy hy=>bh (Ej h hi.a hy) λx hx=>⟨k hx (fq _),ep⟩
  |refine bq ?_)
 all_goals(first
  |exact⟨k h (fq _),ep⟩
  |exact⟨k h (fq _),h.r _⟩)
theorem Z28{P:Nat}{m:List Int}(hm:ey P m):(Qd c m i).w (λr=>iM r.1/\ey P r.2):=by
 have w:=Tm i.Op
 unfold Qd
 refine ar (rc hi.b) (au λx0 h0=>?_)
 rw[<-h0]at w
 refine bh (Oq hm (fq _) w 2) λx1 h1=>ab (λ_=>au λy hy=>⟨by rw[hy];exact GR h _ (fq _),h1.2⟩) (λ_=>au λx3 h3=>?_)
 rw[h0,<-h3]at w
 exact bh (I6 h1.2 h1.1 w) λx4 h4=>ab (λ_=>bh (Xc h4.1 8) λy hy=>bh (Ej h hi.a hy) λx hx=>⟨⟨hx.x,fq _,hx.jy⟩,h1.2⟩) (λ_=>bh (Ej h hi.a h4.1) λx hx=>⟨⟨hx.x,fq _,hx.jy⟩,h1.2⟩)
theorem Qzp{P:Nat}{m:List Int}(hm:ey P m):(Qb c m i).w (λr=>iM r.1/\ey P r.2):=by
 have w:=Tm i.Op
 unfold Qb
 refine ar (rc hi.b) (au λx0 h0=>?_)
 rw[<-h0]at w
 refine bh (Oq hm (fq _) w 3) λx1 h1=>ab (λ_=>au λy hy=>⟨by rw[hy];exact GR h _ (fq _),h1.2⟩) (λ_=>au λx3 h3=>ar (rc hi.a) ?_)
 rw[h0,<-h3]at w
 exact bh (Tn h1.2 h1.1 w (h.r _)) λx hx=>⟨⟨h.x,fq _,h.jy⟩,hx⟩
end
theorem xx{c:bg}(h:iM c){P:Nat}{m:List Int}(hm:ey P m):(Fy c m).w (λr=>iM r.1/\ey P r.2.1/\U r.2.2.Value):=by
 unfold Fy
 refine bh (Xd hm h) λx0 h0=>ab (λ_=>au λy hy=>⟨by rw[hy];exact GR h _ h.pc,h0.2,ep⟩) (λ_=>bh (Xe _) λx2 h2=>ab (λ_=>au λy hy=>⟨by rw[hy];exact GR h _ h0.1,h0.2,ep⟩) (λhb=>?_))
 have hi:=h2 (by simpa using hb)
 refine au λx4 _=>?_
 repeat'(first
  |refine ab (λ_=>?_) (λ_=>?_)
  |exact bh (Z28 h hi h0.2) λx hx=>⟨hx.1,hx.2,ep⟩
  |exact bh (Qzp h hi h0.2) λx hx=>⟨hx.1,hx.2,ep⟩
  |exact bh (Zqz h hi) λx hx=>⟨hx.1,h0.2,hx.2⟩
  |exact au λy hy=>⟨by rw[hy];exact GR h _ h0.1,h0.2,ep⟩
  |refine au λ_ _=>?_)
theorem Vp{a:Int}(h:U a)(k:Nat)(hk:k<=32):0<=bf .u32 a k/\bf .u32 a k*2^k<=a:=by
 obtain⟨h1,h2⟩:=h
 unfold bf
 have e:min (k:Int).toNat u32.bits=k:=by show min (k:Int).toNat 32=k;omega
 have hp:(0:Int)<2^k:=dM (by decide)
 rw[e,dO _ (dP hp)]
 exact⟨Int.ediv_nonneg h1 (dP hp),Int.ediv_mul_le a (Int.ne_of_gt hp)⟩
theorem Zm8(x:Int):0<=u8.wrap x/\u8.wrap x<256:=by rw[wrap_u8];omega
theorem xap{x:Int}(h:U x):(Eh x).w (λ_=>True):=by
 have Bt:=Vp h 16 (by omega)
 have s8:=Vp h 8 (by omega)
 have uG:=Vp (AN h 16) 8 (by omega)
 obtain⟨h1,h2⟩:=h
 unfold Eh
 repeat'(first
  |refine ab (λ_=>?_) (λ_=>?_)
  |refine ar (dY ⟨?_,hZ (b:=256) ?_ (iA (by kernel_rfl))⟩) ?_
  |exact trivial
  |refine bq ?_)
 all_goals(first
  |trivial
  |exact(Zm8 _).1
  |exact(Zm8 _).2
  |(simp only[decide_eq_true_eq,decide_eq_false_iff_not]at*;simp at Bt s8 uG;omega))
theorem Ct(a:Int):bc .u32 a 255<256:=by
 unfold bc
 rw[wrap_u32]
 have:(dV u32.bits a&&&dV u32.bits 255).toNat<=255:=by
  show(dV 32 a&&&dV 32 255).toNat<=255
  rw[dZ]
  exact Nat.le_trans Nat.and_le_right (by decide)
 omega
theorem zaD{x:Int}(h:U x):(RA x).w (λ_=>True):=by
 have uG:=Vp h 24 (by omega)
 obtain⟨h1,h2⟩:=h
 have i24:bf .u32 x 24<256:=by simp at uG;omega
 unfold RA
 repeat'(first
  |refine ar (dY ⟨?_,hZ (b:=256) ?_ (iA (by kernel_rfl))⟩) ?_
  |exact trivial
  |refine bq ?_)
 all_goals(first
  |trivial
  |exact(fq _).1
  |exact uG.1
  |exact i24
  |exact Ct _)
structure rA(P:Nat)(m:ao):Prop where
 lY:iM m.A7
 mem:ey P m.Mem
 kM:oB m.A4
 r7:pr m.C1
 target:U m.A1.C4
 given:U m.A1.C0
theorem Zo2{b:gr}(h:U b.C0):(RB b).w (λ_=>True):=by
 unfold RB
 exact bh (zaD h) λ_ _=>trivial
theorem Tp{m:ao}(h:U m.A1.C0):(Ke m).w (λ_=>True):=by
 have b:∀x,(GK m.A1 x).w (λ_=>True):=λx=>by
  unfold GK
  exact bh (xap h) λ_ _=>trivial
 have d:(Ef m).w (λ_=>True):=by
  unfold Ef
  exact au λ_ _=>au λ_ _=>ab (λ_=>au λ_ _=>ab (λ_=>au λ_ _=>ab (λ_=>au λ_ _=>ab (λ_=>bh (b _) λ_ _=>trivial) (λ_=>trivial)) (λ_=>trivial)) (λ_=>trivial)) (λ_=>trivial)
 unfold Ke
 repeat'(first
  |refine ab (λ_=>?_) (λ_=>?_)
  |exact bh d λ_ _=>trivial
  |refine au λ_ _=>?_
  |exact trivial)
theorem Zmj{m:ao}(h:U m.A1.C0):(L4 m).w (λ_=>True):=by
 have p:(Q5 m.A1).w (λ_=>True):=by
  unfold Q5
  exact bh (Zo2 h) λ_ _=>trivial
 unfold L4
 refine au λx0 _=>au λx1 _=>au λx2 _=>au λx3 _=>bh p λx4 _=>ej (inv:=λz=>0<=z.2/\z.2<=5) (μ:=Qht m) ⟨by omega,by omega⟩ (cO _) (λz hz=>?_)
 obtain⟨z1,z2⟩:=hz
 have ew:z.2<5->i64.wrap (z.2+1)=z.2+1:=λ_=>by rw[wrap_i64];omega
 refine ab (λhb=>?_) (λ_=>trivial)
 have hb:=oY hb
 have nx:(0<=i64.wrap (z.2+1)/\i64.wrap (z.2+1)<=5)/\(5-i64.wrap (z.2+1)).toNat<(5-z.2).toNat:=by rw[ew hb];omega
 refine ar (by simp;omega) (ab (λ_=>ar (dY z1) (dm nx)) (λ_=>dm nx))
theorem Xg{m:ao}(h:U m.A1.C0):(Hc m).w U:=by
 unfold Hc
 exact bh (Zmj h) λ_ _=>Jb _ _
theorem Xi{m:ao}(h:U m.A1.C0):(I7 m).w (λ_=>True):=by
 have i:(Hd m).w (λ_=>True):=by
  unfold Hd
  exact ab (λ_=>bh (Xg h) λ_ _=>trivial) (λ_=>trivial)
 unfold I7
 exact bh (Tp h) λ_ _=>ab (λ_=>ab (λ_=>bh i λ_ _=>ab (λ_=>trivial) (λ_=>trivial)) (λ_=>trivial)) (λ_=>trivial)
theorem yQ{P:Nat}{m:ao}(h:rA P m):(GQ m).w (rA P):=by
 obtain⟨h1,h2,h3,h4,h5,h6⟩:=h
 unfold GQ
 refine ab (λ_=>⟨h1,h2,h3,h4,h5,h6⟩) (λ_=>bh (Xg (m:=⟨_,_,_,_,_,_,m.A1,_,_,_⟩) h6) λx0 _=>ej (inv:=λz=>0<=z/\z<=5) (μ:=Xh m) ⟨by omega,by omega⟩ (cO _) (λz hz=>?_))
 obtain⟨z1,z2⟩:=hz
 refine ab (λhb=>ar (dY z1) (ab (λ_=>au λx1 hx=>⟨by rw[hx];exact GR h1 _ ep,h2,h3,h4,h5,h6⟩) (λ_=>dm ?_))) (λ_=>⟨h1,h2,h3,h4,h5,h6⟩)
 have hb:=oY hb
 show(0<=i64.wrap (z+1)/\i64.wrap (z+1)<=5)/\(5-i64.wrap (z+1)).toNat<(5-z).toNat
 have ew:i64.wrap (z+1)=z+1:=by rw[wrap_i64];omega
 rw[ew];omega
theorem Em{P:Nat}{m:List Int}(h:ey P m):wT m=P:=by
 obtain⟨h1,h2,h3,_⟩:=h
 simp only[wT,Qon,Tree.m]
 have e:(m.length:Int)=32*P:=by omega
 rw[e]
 have e1:(dD (32*(P:Int)) 32 !=0)=false:=by simp[hJ]
 have e2:decide ((32*(P:Int))>1024)=false:=dN (by omega)
 rw[e1,e2]
 simp only[cond_false]
 rw[hY _ (by decide),wrap_i64];omega
theorem FC{P:Nat}{m:List Int}(h:ey P m){f:Int}(hf:U f):nV m f=decide (f<P):=by
 have:=Em h
 obtain⟨h1,h2⟩:=hf
 have h3:=h.p2
 simp only[nV,OQ,Tree.m,dk,this]
 congr 1
 rw[wrap_u64,wrap_u64,dL h1 (by omega),dL (by omega) (by omega)]
theorem xaD{P:Nat}{m:List Int}(h:ey P m):(Ma m).w (λr=>r=m):=by
 obtain⟨h1,h2,h3,_⟩:=h
 unfold Ma
 refine ar ?_ ?_
 ·simp[bJ,D.plain];omega
 ·show _=_
  simp
theorem Cy{P:Nat}{m:List Int}(h:ey P m){addr size v:Int}(ha:U addr)(hl:addr<4*m.length)(hv:U v):(Jc m addr size v).w (ey P):=by
 obtain⟨h1,h2,h3,h4⟩:=h
 obtain⟨a1,a2⟩:=ha
 have e:wrap u32 (eT addr 4)=addr/4:=by rw[wrap_u32,eU a1];omega
 have hc:(bT 1 1&&bJ 0 1&&decide (0<=wrap u32 (eT addr 4)/\wrap u32 (eT addr 4)<(m.length:Int)))=true:=by
  rw[e];simp[bJ];omega
 have h0:∀x,decide (0<=wrap u32 x)=true:=λx=>dY (fq x).1
 have hs:∀i v,U v->ey P (m.set i v):=λi v hv=>⟨by simp[h1],h2,h3,Ee h4 hv i⟩
 unfold Jc
 exact ab (λ_=>ar hc (hs _ _ hv)) (λ_=>ar hc (ar (h0 _) (ar (h0 _) (ar hc (hs _ _ (nd _ _))))))
theorem yY{P:Nat}{m:List Int}(h:ey P m){frame:Int}(f0:0<=frame)(f1:frame<P)(s:List UInt8):(GY m frame s).w (ey P):=by
 unfold GY
 have h3:=h.p2
 refine ej (inv:=λz=>0<=z.1/\z.1<=128/\ey P z.2) (μ:=Xw m frame s) ⟨by omega,by omega,h⟩ (cO _) (λv0 wN=>?_)
 obtain⟨i0,i1,hm⟩:=wN
 refine ab (λh1=>ab (λh2=>ar ?_ ?_) (λ_=>hm)) (λ_=>hm)
 ·have:=oY h1
  simp[bJ];omega
 ·have h2:=oY h2
  have e:wrap u32 (wrap i64 (wrap i64 (frame*128)+v0.1))=frame*128+v0.1:=by
   rw[wrap_u32,wrap_i64,wrap_i64];omega
  rw[e]
  obtain⟨g1,g2⟩:=Tree.pp (Cy hm (size:=1) (addr:=frame*128+v0.1) ⟨by omega,by omega⟩ (by rw[hm.len];omega) (fq (UInt8.toNat (s.getD v0.1.toNat 0))))
  refine cu g1 (au λx0 nK=>?_)
  rw[nK]
  have ew:i64.wrap (v0.1+1)=v0.1+1:=by rw[wrap_i64];omega
  refine dm ?_
  show(0<=i64.wrap (v0.1+1)/\i64.wrap (v0.1+1)<=128/\ey P _)/\(128-i64.wrap (v0.1+1)).toNat<(128-v0.1).toNat
  rw[ew]
  exact⟨⟨by omega,by omega,g2⟩,by omega⟩
theorem vQ{P:Nat}{m:List Int}(h:ey P m){d:fm}(hd:oB d)(e:j9):(Ha d m e).w (λr=>oB r.1/\ey P r.2.2):=by
 have fl:nV m d.B0=true->(GY m (i64.wrap d.B0) e.D2).w (ey P):=λhp=>by
   rw[FC h hd.ig]at hp
   have:=oY hp
   have h1:=hd.ig.1
   have h3:=h.p2
   have ew:i64.wrap d.B0=d.B0:=by rw[wrap_i64];omega
   rw[ew]
   exact yY h h1 this _
 have l0:oB d/\ey P m:=⟨hd,h⟩
 have l1: ∀st,oB {ag:=d.ag,B9:=d.B9,Frame:=d.Frame,B6:=st,D1:=0,B4:=0,B0:=0,B5:=[]}:=λst=>⟨hd.block,hd.frame,ep,ep⟩
 unfold Ha
 repeat'(first
   |exact l0
   |exact⟨l1 _,h⟩
   |refine ab (λ_=> ?_) (λ_=> ?_)
   |refine au (λ_ _=> ?_))
 all_goals(
   first
     | (have hp:nV m d.B0=true:=by simp_all
        obtain⟨g1,g2⟩:=Tree.pp (fl hp)
        refine cu g1 (au λx hx=> ?_)
        rw[hx]
        exact ab (λ_=>⟨l1 _,g2⟩) (λ_=>⟨l1 _,g2⟩))
     |(exfalso;simp_all;done))
section
variable {c:bg} (h:iM c)
include h
theorem Kf(k:Int){b:Int}(hb:U b):iM (pW c k b):=by
 refine(Tree.post (OE c k b) (W:=iM) ?_)
 unfold OE
 refine au λ_ _=>au λ_ _=>⟨h.x,h.a1,?_⟩
 intro w hw
 simp only[A8.l,cR,cS,or_false]at hw
 rcases hw with rfl|rfl|rfl|rfl|rfl|rfl|rfl|rfl
 ·exact nd _ _
 ·exact h.a1
 ·exact h.pc
 ·exact fq _
 ·exact hb
 ·exact h.a5
 ·exact h.a6
 ·exact h.a7
theorem qR:iM (TB c):=by
 refine(Tree.post (OG c) (W:=iM) ?_)
 unfold OG
 refine au λ_ _=>au λ_ _=>⟨h.x,h.a2,?_⟩
 intro w hw
 simp only[A8.l,cR,cS,or_false]at hw
 rcases hw with rfl|rfl|rfl|rfl|rfl|rfl|rfl|rfl
 ·exact nd _ _
 ·exact h.a1
 ·exact h.a2
 ·exact h.a3
 ·exact h.a4
 ·exact h.a5
 ·exact h.a6
 ·exact h.a7
theorem Fm(r:Int){v:Int}(hv:U v):(Jf c r v).w iM:=by
 unfold Jf
 refine ab (λh1=>ab (λh2=>ar ?_ ⟨Xm h.x hv _,h.pc,h.jy⟩) (λ_=>h)) (λ_=>h)
 have h1:=oY h1
 have h2:=oY h2
 simp[bJ];omega
theorem qaq(k:Int){v:Int}(hv:U v):(LU c k v).w iM:=by
 have ok:∀i v,U v->iM {X:=c.X,Pc:=c.Pc,B1:=A8.of 0 (dF (A8.l c.B1) i v)}:=λi v hv=>⟨h.x,h.pc,Zgo h.jy hv i⟩
 unfold LU
 repeat'(first
  |exact h
  |exact ok _ _ (fq _)
  |exact ok _ _ hv
  |refine ab (λhk=>?_) (λ_=>?_)
  |refine ar (by rw[eq_of_beq (by assumption:(k==_)=true)];decide) ?_)
end
section
variable {P:Nat} {m:List Int} (h:ey P m)
include h
theorem Ze8(a:Int){size:Int}(hs:size=1\/size=4):(Jd m a size).w (λb=>b=true->a<128*P):=by
 have hp:=Em h
 have h2:=h.p2
 have e:decide (wrap u32 size≠0)=true:=by rcases hs with rfl|rfl<;>decide
 have l:∀x,x=wT m->decide (a<wrap u32 (wrap i64 (128*x)))=true->a<128*P:=λx hx hd=>by
  rw[hx,hp,wrap_u32,wrap_i64]at hd
  have:=oY hd
  omega
 unfold Jd
 refine ab (λ_=>ab (λ_=>λh=>by cases h) (λ_=>?_)) (λ_=>?_)<;>
 exact ar e (ab (λ_=>au λx hx=>l x hx) (λ_=>λh=>by cases h))
theorem idx{a:Int}(ha:U a)(hl:a<128*P):(bT 1 1&&bJ 0 1&&decide (0<=wrap u32 (eT a 4)/\wrap u32 (eT a 4)<(m.length:Int)))=true:=by
 obtain⟨a1,a2⟩:=ha
 have e:wrap u32 (eT a 4)=a/4:=by rw[wrap_u32,eU a1];omega
 have:=h.len
 rw[e];simp[bJ];omega
theorem ON{a:Int}(ha:U a){size:Int}(hs:size=1\/size=4):(AQ m a size).w (λr=>U r.1):=by
 obtain⟨g1,g2⟩:=Tree.pp (Ze8 h a hs)
 unfold AQ
 refine cu g1 (au λx hx=>ab (λ_=>ep) (λhb=>?_))
 have hb:x=true:=by simpa using hb
 have hl:=g2 (hx.symm.trans hb)
 refine ar (idx h ha hl) (ab (λ_=>ar (dY (fq _).1) (fq _)) (λ_=>AO h.u _))
theorem qaE{a:Int}(ha:U a)(access:Int):(LM m a access).w (ey P):=by
 obtain⟨g1,g2⟩:=Tree.pp (Ze8 h a (size:=4) (.inr rfl))
 have hs:∀{m:List Int} i v,ey P m->U v->ey P (m.set i v):=λi v h hv=>⟨by simp[h.len],h.p1,h.p2,Ee h.u hv i⟩
 unfold LM
 refine cu g1 (au λx hx=>ab (λ_=>h) (λhb=>?_))
 have hb:x=true:=by simpa using hb
 have hl:=g2 (hx.symm.trans hb)
 have i0:=idx h ha hl
 have h':=hs (Int.toNat (wrap u32 (eT a 4))) (il u32 (m.getD (Int.toNat (wrap u32 (eT a 4))) 0) 8) h (nd _ _)
 have i1:=idx h' ha hl
 exact ar i0 (ar i0 (ab (λ_=>ar i1 (ar i1 (hs _ _ h' (nd _ _)))) (λ_=>h')))
theorem vY{root va:Int}(hr:U root)(hv:U va)(access:Int):(G2 m root va access).w (λt=>U t.Addr/\U t.E0/\(t.D9=0->t.Addr<128*P)):=by
 have hp:=Em h
 have h2:=h.p2
 have hlen:=h.len
 obtain⟨r1,r2⟩:=hr
 obtain⟨v1,v2⟩:=hv
 unfold G2
 refine au λx0 nK=>au λx1 nL=>au λx2 _=>?_
 have hc:x0≠0:=by
  rw[nK]
  simp only[tM,LS,Tree.m]
  cases access==1<;>cases access==3<;>simp
 rw[hp]at nL
 have bad:U (0:Int)/\U (0:Int)/\(x0=0->(0:Int)<128*P):=⟨ep,ep,λe=>absurd e hc⟩
 refine ab (λ_=>bad) (λ_=>ab (λ_=>bad) (λEs=>ab (λ_=>bad) (λDZ=>?_)))
 have Es:=oN Es
 have DZ:=oN DZ
 have e1:wrap u32 x1=P:=by rw[nL,wrap_u32];omega
 rw[e1]at DZ
 have e2:wrap u32 (wrap u32 (root*128)+wrap u32 (4*wrap u32 (eT va 128)))=root*128+4*(va/128):=by
  rw[eU v1,wrap_u32,wrap_u32,wrap_u32,wrap_u32];omega
 have hU:U (wrap u32 (wrap u32 (root*128)+wrap u32 (4*wrap u32 (eT va 128)))):=fq _
 have ci:=idx h hU (by rw[e2];omega)
 have ei:∀w:Int,decide (bc u32 w 255>=wrap u32 x1)=false->(U (wrap u32 (wrap u32 (bc u32 w 255*128)+dD va 128))/\U (wrap u32 (wrap u32 (root*128)+wrap u32 (4*wrap u32 (eT va 128))))/\((0:Int)=0->wrap u32 (wrap u32 (bc u32 w 255*128)+dD va 128)<128*P)):=λw hw=>by
  have hw:=oN hw
  rw[e1]at hw
  have hn:=(Jb w 255).1
  refine⟨fq _,fq _,λ_=>?_⟩
  rw[Int.tmod_eq_emod_of_nonneg v1,wrap_u32,wrap_u32]
  generalize bc u32 w 255=q at*
  omega
 refine ar ci ?_
 repeat'(first
  |exact bad
  |exact ei _ (by assumption)
  |refine ab (λ_=>?_) (λ_=>?_)
  |refine ar ci ?_)
theorem TJ{c:bg}(hc:iM c){va:Int}(hv:U va){size:Int}(hs:size=1\/size=4)(access:Int):(G4 c m va size access).w (λr=>ey P r.2.2/\U r.1/\(r.2.1=0->r.1<128*P)):=by
 have e:decide (wrap u32 size≠0)=true:=by rcases hs with rfl|rfl<;>decide
 obtain⟨g1,g2⟩:=Tree.pp (Ze8 h va hs)
 obtain⟨k1,k2⟩:=Tree.pp (vY h hc.a6 hv access)
 have bad:∀k:Int,k≠0->ey P m/\U (0:Int)/\(k=0->(0:Int)<128*P):=λk hk=>⟨h,ep,λe=>absurd e hk⟩
 have hca:tM access≠0:=by
  simp only[tM,LS,Tree.m]
  cases access==1<;>cases access==3<;>simp
 unfold G4
 refine au λx0 _=>ab (λ_=>bad 5 (by decide)) (λ_=>ab (λh1=>ab (λh2=>?_) (λ_=>?_)) (λ_=>?_))
 ·exact bad 5 (by decide)
 all_goals(
  refine ar e (ab (λ_=>bad 3 (by decide)) (λ_=>au λx1 _=>ab (λ_=>cu g1 (au λx2 I8=>ab (λ_=>au λx3 GI=>bad x3 (by rw[GI];exact hca)) (λhb=>?_))) (λ_=>cu k1 (au λx4 Oa=>ab (λhb=>?_) (λhb=>?_)))))
  ·have hb:x2=true:=by simpa using hb
   exact⟨h,hv,λ_=>g2 (I8.symm.trans hb)⟩
  ·exact bad _ (by simpa using hb)
  ·obtain⟨t1,t2,t3⟩:=k2
   rw[show(G2 m c.B1.a6 va access).m=x4 from Oa.symm]at t1 t2 t3
   obtain⟨m1,m2⟩:=Tree.pp (qaE h t2 access)
   refine cu m1 (au λx5 hx5=>?_)
   exact⟨hx5▸m2,t1,λ_=>t3 (by simpa using hb)⟩)
end
theorem zx{r:Int}(h:Lz r=true):0<=r/\r<16:=by
 simp only[Lz,Tt,Tree.m]at h
 cases h1:decide (r>=0)<;>rw[h1]at h
 ·cases h
 ·have h1:=oY h1
  have h:=oY h
  omega
theorem xR{i:gm}(hi:wrap .i64 i.bo=i.bo)(h:Ek i=true):sR i:=by
 have no:false=true->sR i:=λh=>by cases h
 refine(Tree.post (Ow i) (W:=λb=>b=true->sR i) ?_) h
 unfold Ow
 refine au λx0 h0=>ab (λ_=>no) (λ_=>au λx1 h1=>ab (λ_=>no) (λb1=>au λx2 h2=>ab (λ_=>no) (λb2=>au λx3 h3=>ab (λ_=>no) (λb3=>au λx4 h4=>ab (λ_=>no) (λb4=>ab (λ_=>no) (λb5=>?_))))))
 have b1:x1=true:=by simpa using b1
 have b2:x2=true:=by simpa using b2
 have b3:x3=true:=by simpa using b3
 have b4:=oN b4
 have b5:=oN b5
 rw[hi]at b4 b5
 have ok:sR i:=⟨zx (h1.symm.trans b1),zx (h2.symm.trans b2),zx (h3.symm.trans b3),λe=>by
  rw[e]at h0
  have h0:x0=8:=h0
  subst h0
  have h4:x4=(0,7):=h4
  subst h4
  simp at b4 b5;omega⟩
 repeat'(first
  |exactλ_=>ok
  |exact no
  |refine ab (λ_=>?_) (λ_=>?_))
theorem Znc(w:Int):(GX w).w (λr=>r.2=true->sR r.1):=by
 have no:∀{p:Prop},false=true->p:=λh=>by cases h
 have e:∀x,wrap .i64 (wrap .i32 x)=wrap .i32 x:=λx=>by rw[wrap_i64,wrap_i32];omega
 have ok:∀i,wrap .i64 i.bo=i.bo->∀x,x=Ek i->(!x)=false->true=true->sR i:=λi hi x hx hb _=>xR hi (hx.symm.trans (by simpa using hb))
 unfold GX
 refine au λx0 _=>?_
 have l:∀i,wrap .i64 i.bo=i.bo->(Tree.lv (Ek i) λx=>.br (!x) (.lf ((⟨0,0,0,0,0⟩:gm),false)) (.lf (i,true))).w (λr=>r.2=true->sR r.1):=λi hi=>au λx hx=>ab (λ_=>no) (λhb=>ok i hi x hx hb)
 refine ab (λ_=>no) (λ_=>ab (λ_=>l _ rfl) (λ_=>ab (λ_=>l _ (e _)) (λ_=>ab (λ_=>l _ (e _)) (λ_=>l _ (e _)))))
theorem RC(b:Bool):U (CA b):=by cases b<;>exact⟨by decide,by decide⟩
theorem Znj{a b:Int}(ha:U a)(hb:U b):(LQ a b).w (λr=>U r.1/\U r.2):=by
 unfold LQ
 refine ab (λ_=>⟨⟨by omega,by omega⟩,ha⟩) (λh=>?_)
 have h:¬b=0:=by simpa using h
 obtain⟨b1,b2⟩:=hb
 have hc:decide (wrap i64 (wrap i32 b)≠0)=true:=dY (by rw[wrap_i64,wrap_i32];omega)
 exact ar hc (ar hc ⟨fq _,fq _⟩)
theorem HW(op:Int){a b:Int}(ha:U a)(hb:U b):(RD op a b).w (λr=>U r.1):=by
 unfold RD
 refine au λx0 _=>?_
 repeat'(first
  |exact fq _
  |exact AN ha _
  |exact ep
  |refine ab (λ_=>?_) (λ_=>?_)
  |exact bh (Znj ha hb) λx hx=>hx.1
  |exact bh (Znj ha hb) λx hx=>hx.2
  |exact au λx hx=>(by rw[hx];exact RC _))
theorem yx{x:Int}(hx:U x):(RE x 8).w U:=by
 unfold RE
 have h0:decide (0<=wrap u64 8)=true:=by decide
 refine ab (λh=>absurd h (by decide)) λ_=>ab (λh=>absurd h (by decide)) λ_=>ar h0 (ar (by decide) (ab (λ_=>ar h0 (nd _ _)) (λ_=>Jb _ _)))
section
variable {c:bg} (h:iM c) {i:gm} (hi:sR i)
include h hi
theorem zR:(Jn c i).w (λr=>iM r.1/\U r.2.Value):=by
 unfold Jn
 refine ab (λ_=>au λx hx=>⟨hx▸Kf h _ ep,ep⟩) (λ_=>ab (λ_=>au λx hx=>⟨hx▸qR h,ep⟩) (λ_=>ab (λe=>ar ?_ (bh (Fm h _ (h.a _)) λx hx=>⟨hx.Bl (fq _),ep⟩)) (λ_=>ab (λ_=>ar (rc hi.a) (bh (qaq h _ (h.r _)) λx hx=>⟨hx.Bl (fq _),ep⟩)) (λ_=>?_))))
 ·have:=hi.jy (by simpa using e)
  simp[bJ];omega
 ·have k:=h.Bl (fq (c.Pc+4))
  repeat'(first
   |exact⟨k,ep⟩
   |exact⟨k,h.r _⟩
   |refine ab (λ_=>?_) (λ_=>?_)
   |refine ar (rc hi.a) ?_)
theorem zaE:(RG c i).w iM:=by
 unfold RG
 exact ab (λ_=>bh (Fm h _ (fq _)) λx hx=>hx.Bl (fq _)) (λ_=>ab (λ_=>ar (rc hi.b) (bh (Fm h _ (fq _)) λx hx=>hx.Bl (fq _))) (λ_=>ar (rc hi.a) (ar (rc hi.b) (au λx _=>ab (λ_=>h.Bl (fq _)) (λ_=>h.Bl (fq _))))))
theorem Zr{P:Nat}{m:List Int}(hm:ey P m):(RH c m i).w (λr=>iM r.1/\ey P r.2):=by
  unfold RH
  refine ar (rc hi.b) ?_
  have e1:(1:Int)=1\/(1:Int)=4:= .inl rfl
  have e4:(4:Int)=1\/(4:Int)=4:= .inr rfl
  repeat'(first
    |refine ab (λ_=> ?_) (λ_=> ?_)
    | (refine bh (TJ hm h (fq _) e4 _) λx hx=> ?_
       obtain⟨m1,m2,m3⟩:=hx
       refine ab (λ_=>au λy hy=>⟨hy▸Kf h _ (fq _),m1⟩) (λhb=> ?_)
       have m3:=m3 (by simpa using hb)
       have m4:x.1<4*x.2.2.length:=by rw[m1.len];omega
       clear hb)
    | (refine bh (TJ hm h (fq _) e1 _) λx hx=> ?_
       obtain⟨m1,m2,m3⟩:=hx
       refine ab (λ_=>au λy hy=>⟨hy▸Kf h _ (fq _),m1⟩) (λhb=> ?_)
       have m3:=m3 (by simpa using hb)
       have m4:x.1<4*x.2.2.length:=by rw[m1.len];omega
       clear hb)
    |exact ar (rc hi.a) (bh (Cy (by assumption) (by assumption) (by assumption) (h.r _)) λy hy=>⟨h.Bl (fq _),hy⟩)
    |(refine bh (ON (by assumption) (by assumption) e4) λy hy=> ?_)
    |(refine bh (ON (by assumption) (by assumption) e1) λy hy=> ?_)
    |exact bh (yx (by assumption)) λz hz=>bh (Fm h _ hz) λu hu=>⟨hu.Bl (fq _),by assumption⟩
    |exact bh (Fm h _ (by assumption)) λu hu=>⟨hu.Bl (fq _),by assumption⟩)
end
theorem IV{c:bg}(h:iM c){P:Nat}{m:List Int}(hm:ey P m):(RI c m).w (λr=>iM r.1/\U r.2.1.Value/\ey P r.2.2):=by
 unfold RI
 refine bh (TJ hm h h.pc (.inr rfl) 1) λx0 hx=>?_
 obtain⟨m1,m2,m3⟩:=hx
 refine ab (λ_=>au λy hy=>⟨hy▸Kf h _ h.pc,ep,m1⟩) (λhb=>?_)
 refine bh (ON m1 m2 (.inr rfl)) λx2 h2=>S6 (Znc _) λx3 h3=>ab (λ_=>au λy hy=>⟨hy▸Kf h _ h2,ep,m1⟩) (λb3=>?_)
 have hi:=h3 (by simpa using b3)
 refine au λx5 _=>?_
 repeat'(first
  |refine ab (λ_=>?_) (λ_=>?_)
  |exact au λy hy=>⟨hy▸Kf h _ h2,ep,m1⟩
  |exact bh (zR h hi) λy hy=>⟨hy.1,hy.2,m1⟩
  |exact bh (zaE h hi) λy hy=>⟨hy,ep,m1⟩
  |exact bh (Zr h hi m1) λy hy=>⟨hy.1,ep,hy.2⟩
  |exact bh (Fm h _ (fq _)) λy hy=>⟨hy.Bl (fq _),ep,m1⟩
  |refine ar (rc hi.c) ?_
  |refine ar (rc hi.b) ?_
  |exact bh (HW _ (h.r _) (h.r _)) λy hy=>bh (Fm h _ hy) λz hz=>⟨hz.Bl (fq _),ep,m1⟩
  |exact bh (HW _ (h.r _) (fq _)) λy hy=>bh (Fm h _ hy) λz hz=>⟨hz.Bl (fq _),ep,m1⟩)
theorem FB{q:Int}(h:U q):bc .u32 q 1=q%2:=by
 obtain⟨h1,h2⟩:=h
 unfold bc
 rw[wrap_u32]
 have e1:(dV 32 q).toNat=q.toNat:=by rw[BitVec.toNat_ofInt];omega
 have e2:(dV 32 1).toNat=1:=by decide
 have:(dV u32.bits q&&&dV u32.bits 1).toNat=q.toNat%2:=by
  show(dV 32 q&&&dV 32 1).toNat=_
  rw[dZ,e1,e2,Nat.and_one_is_mod]
 rw[this];omega
theorem RJ(b:Bool)(n:Int):(Qi b n).w (λ_=>True):=by
 unfold Qi
 exact ab (λ_=>ar (dY (by rw[wrap_u64];omega)) trivial) (λ_=>trivial)
theorem zaq(m:ao):(RL m).w (λ_=>True):=by
 unfold RL
 exact au λ_ _=>bh (RJ _ _) λ_ _=>au λ_ _=>bh (RJ _ _) λ_ _=>au λ_ _=>bh (RJ _ _) λ_ _=>au λ_ _=>bh (RJ _ _) λ_ _=>au λ_ _=>bh (RJ _ _) λ_ _=>trivial
theorem Zh2(m:ao):(L6 m).w U:=by
 unfold L6
 exact bh (zaq m) λ_ _=>Jb _ _
theorem qZ(m:ao):(L7 m).w (λ_=>True):=by
 unfold L7
 exact ab (λ_=>bh (Zh2 m) λ_ _=>trivial) (λ_=>trivial)
theorem WV{m:ao}(h:iM m.A7):(L9 m).w iM:=by
 unfold L9
 refine bh (Zh2 m) λx0 hx=>ab (λ_=>h) (λ_=>ab (λ_=>h) (λhb=>?_))
 have hb:x0≠0:=by simpa using hb
 have sh:∀z:Int,0<=z->z<=31->bf .u32 x0 (wrap .u64 z)=x0/2^z.toNat:=λz h1 h2=>by
  unfold bf
  have e:min (wrap .u64 z).toNat u32.bits=z.toNat:=by
   show min (wrap .u64 z).toNat 32=z.toNat
   rw[wrap_u64];omega
  rw[e,dO _ (dP (dM (by decide)))]
 refine ej (inv:=λz=>0<=z/\z<=31/\x0/2^z.toNat≠0) (μ:=Qcs m) ⟨by omega,by omega,by simpa using hb⟩ (cO _) (λz hz=>?_)
 obtain⟨z1,z2,z3⟩:=hz
 refine ar (dY (by rw[wrap_u64];omega)) (ab (λe=>dm ?_) (λ_=>au λy hy=>hy▸Kf h _ ep))
 have e:=eq_of_beq e
 have hq:=AN hx (wrap .u64 z)
 rw[FB hq,sh z z1 z2]at e
 rw[sh z z1 z2]at hq
 have cq:x0/2^z.toNat/2≠0:=by omega
 have z4:z<=30:=by
  rcases Int.lt_or_le z 31 with h|h
  ·omega
  ·have:z=31:=by omega
   subst this
   have:=hx.2
   have:=hx.1
   simp at z3 e cq
   omega
 show(0<=i64.wrap (z+1)/\i64.wrap (z+1)<=31/\x0/2^(i64.wrap (z+1)).toNat≠0)/\(32-i64.wrap (z+1)).toNat<(32-z).toNat
 have ew:i64.wrap (z+1)=z+1:=by rw[wrap_i64];omega
 rw[ew]
 refine⟨⟨by omega,by omega,?_⟩,by omega⟩
 have et:(z+1).toNat=z.toNat+1:=by omega
 rw[et,Int.pow_succ,<-Int.ediv_ediv_of_nonneg (dP (dM (by decide)))]
 exact cq
theorem WW{P:Nat}{m:ao}(h:iM m.A7)(hm:ey P m.Mem):(RM m).w (λ_=>True):=by
 unfold RM
 refine bh (WV h) λx0 hx=>ab (λ_=>trivial) (λ_=>bh (ON hm hx.pc (.inr rfl)) λx1 _=>au λx2 _=>?_)
 exact ab (λ_=>ab (λ_=>ab (λ_=>trivial) (λ_=>trivial)) (λ_=>trivial)) (λ_=>trivial)
theorem N9(l:List Int):(bytesOf l).length=l.length:=by simp[bytesOf]
theorem Tx(l:List UInt8):(iX l).length=l.length:=by simp[iX]
theorem RN(x:Int):(MX x 4).w (λr=>r.length=4):=by
 unfold MX
 refine ej (inv:=λz=>0<=z.1/\z.1<=4/\(z.2.length:Int)=z.1) (μ:=Vq x 4) ⟨by omega,by omega,rfl⟩ (cO _) (λz hz=>?_)
 obtain⟨z1,z2,z3⟩:=hz
 refine ab (λh=>ar (dY (by rw[wrap_u64];omega)) (ar (dY (by omega)) (dm ?_))) (λh=>?_)
 ·have h:=oY h
  show(0<=i64.wrap (z.1+1)/\i64.wrap (z.1+1)<=4/\((z.2++[_]).length:Int)=i64.wrap (z.1+1))/\(4-i64.wrap (z.1+1)).toNat<(4-z.1).toNat
  have ew:i64.wrap (z.1+1)=z.1+1:=by rw[wrap_i64];omega
  rw[ew]
  refine⟨⟨by omega,by omega,by simp;omega⟩,by omega⟩
 ·have h:=oN h
  show(bytesOf z.2).length=4
  rw[N9];omega
theorem xZ{P:Nat}{m:List Int}(hm:ey P m)(frame:Int):(G1 m frame).w (λr=>0<=frame->frame<P->r.1.length=128):=by
 have hp:=Em hm
 have hl:=hm.len
 have h2:=hm.p2
 unfold G1
 refine ab (λh=>λh0 _=>by have:=oY h;omega) (λh=>au λx0 hx=>ab (λh1=>λ_ h2=>by have:=oY h1;rw[hx,hp]at this;omega) (λh1=>?_))
 have h:=oN h
 have h1:=oN h1
 rw[hx,hp]at h1
 refine ej (inv:=λz=>0<=z.1/\z.1<=32/\(z.2.length:Int)=4*z.1) (μ:=XB m frame) ⟨by omega,by omega,rfl⟩ (cO _) (λz hz=>?_)
 obtain⟨z1,z2,z3⟩:=hz
 refine ab (λhb=>?_) (λhb=>?_)
 ·have hb:=oY hb
  have e:wrap i64 (wrap i64 (frame*32)+z.1)=frame*32+z.1:=by rw[wrap_i64,wrap_i64];omega
  refine ar (by rw[e];simp[bJ];omega) (cu (show(4:Int)<=1000000000000 by decide) (S6 (RN _) λx1 h4=>ar (dY (by rw[Tx,h4];omega)) (dm ?_)))
  show(0<=i64.wrap (z.1+1)/\i64.wrap (z.1+1)<=32/\((z.2++iX x1).length:Int)=4*i64.wrap (z.1+1))/\(32-i64.wrap (z.1+1)).toNat<(32-z.1).toNat
  have ew:i64.wrap (z.1+1)=z.1+1:=by rw[wrap_i64];omega
  rw[ew,lA,Tx,h4]
  exact⟨⟨by omega,by omega,by omega⟩,by omega⟩
 ·have hb:=oN hb
  intro _ _
  show(bytesOf z.2).length=128
  rw[N9];omega
theorem qy{P:Nat}{m:List Int}(hm:ey P m){d:fm}(hd:oB d)(port:Int){v:Int}(hv:U v)(bn:Int):(G9 d m port v bn).w (λr=>oB r.1/\r.2.length<=1):=by
 have k:∀st,oB {ag:=d.ag,B9:=d.B9,Frame:=d.Frame,B6:=st,D1:=d.D1,B4:=d.B4,B0:=d.B0,B5:=d.B5}:=λst=>⟨hd.block,hd.frame,hd.kz,hd.ig⟩
 have k2:∀c o,oB {ag:=d.ag,B9:=d.B9,Frame:=d.Frame,B6:=1,D1:=c,B4:=d.B9,B0:=d.Frame,B5:=o}:=λc o=>⟨hd.block,hd.frame,hd.block,hd.frame⟩
 have k3:oB {ag:=d.ag,B9:=v,Frame:=d.Frame,B6:=d.B6,D1:=d.D1,B4:=d.B4,B0:=d.B0,B5:=d.B5}:=⟨hv,hd.frame,hd.kz,hd.ig⟩
 have k4:oB {ag:=d.ag,B9:=d.B9,Frame:=v,B6:=d.B6,D1:=d.D1,B4:=d.B4,B0:=d.B0,B5:=d.B5}:=⟨hd.block,hv,hd.kz,hd.ig⟩
 unfold G9
 repeat'(first
  |refine ab (λ_=>?_) (λ_=>?_)
  |exact bh (xZ hm _) λ_ _=>au λ_ _=>⟨k2 _ _,aO _⟩
  |refine au (λ_ _=>?_)
  |refine bq ?_)
 all_goals(first
  |exact⟨hd,aT _⟩
  |exact⟨k _,aT _⟩
  |exact⟨k2 _ _,aO _⟩
  |exact⟨k3,aT _⟩
  |exact⟨k4,aT _⟩)
theorem yR{P:Nat}{m:List Int}(hm:ey P m){n:ij}(hn:pr n)(port:Int){v:Int}(hv:U v)(bn:Int):(LY n m port v bn).w (λr=>pr r.1/\r.2.length<=1):=by
 have k1:pr {Frame:=v,D6:=n.D6,C2:=n.C2,B7:=n.B7,B3:=n.B3,D8:=n.D8}:=⟨hv,hn.len,hn.buffer,hn.GM⟩
 have k2:pr {Frame:=n.Frame,D6:=v,C2:=n.C2,B7:=n.B7,B3:=n.B3,D8:=n.D8}:=⟨hn.frame,hv,hn.buffer,hn.GM⟩
 have k3:pr {Frame:=n.Frame,D6:=n.D6,C2:=n.C2,B7:=n.B7,B3:=false,D8:=0}:=⟨hn.frame,hn.len,hn.buffer,ep⟩
 have k4:∀p r,pr {Frame:=n.Frame,D6:=n.D6,C2:=p,B7:=n.Frame,B3:=r,D8:=n.D8}:=λp r=>⟨hn.frame,hn.len,hn.frame,hn.GM⟩
 have send:∀K:List UInt8×Bool->Tree (ij×List fc),nV m n.Frame=true->(∀x:List UInt8×Bool,x.1.length=128->(K x).w (λr=>pr r.1/\r.2.length<=1))->(Tree.an (Qgb m (wrap .i64 n.Frame)) (.lv (LB m (wrap .i64 n.Frame)) K)).w (λr=>pr r.1/\r.2.length<=1):=λK hp hK=>by
  rw[FC hm hn.frame]at hp
  have hp:=oY hp
  obtain⟨f1,f2⟩:=hn.frame
  have ew:i64.wrap n.Frame=n.Frame:=by rw[wrap_i64];omega
  exact bh (xZ hm _) λx hx=>hK x (hx (by rw[ew];exact f1) (by rw[ew];exact hp))
 unfold LY
 repeat'(first
  |refine ab (λ_=>?_) (λ_=>?_)
  |refine send _ (by simp_all) (λx hx=>ar (by simp_all;exact hn.len.1) ?_)
  |refine au (λ_ _=>?_)
  |refine bq ?_)
 all_goals(first
  |exact⟨hn,aT _⟩
  |exact⟨hn,aO _⟩
  |exact⟨k1,aT _⟩
  |exact⟨k2,aT _⟩
  |exact⟨k3,aT _⟩
  |exact⟨k4 _ _,aT _⟩)
def okB(b:gr):Prop:=U b.C4/\U b.C0
theorem xaE{P:Nat}{m:List Int}(hm:ey P m){b:gr}(hb:okB b)(port:Int){v:Int}(hv:U v):(Bv b m port v).w (λr=>okB r.1/\ey P r.2):=by
 have wN:decide (0<=v)=true:=dY hv.1
 have h2:=hm.p2
 have rest:(Tree.br (port==11) (.br (decide (v<32)) (.cn (decide (0<=v)) (.lf (({C4:=b.C4,C0:=nU .u32 b.C0 (eg .u32 1 v)}:gr),m))) (.lf (b,m))) (.lf (b,m))).w (λr=>okB r.1/\ey P r.2):=
  ab (λ_=>ab (λ_=>ar wN ⟨⟨hb.1,fq _⟩,hm⟩) (λ_=>⟨hb,hm⟩)) (λ_=>⟨hb,hm⟩)
 unfold Bv
 refine ab (λ_=>au λx0 hx=>ab (λhp=>ar wN (ab (λ_=>ar wN ?_) (λ_=>rest))) (λ_=>rest)) (λ_=>rest)
 have hp:nV m v=true:=hx.symm.trans hp
 rw[FC hm hv]at hp
 have hp:=oY hp
 obtain⟨v1,v2⟩:=hv
 refine ej (inv:=λz=>0<=z.1/\z.1<=32/\ey P z.2) (μ:=X3 b m port v) ⟨by omega,by omega,hm⟩ (cO _) (λz hz=>?_)
 obtain⟨z1,z2,z3⟩:=hz
 have hl:=z3.len
 refine ab (λh=>?_) (λ_=>⟨⟨hb.1,fq _⟩,z3⟩)
 have h:=oY h
 have e:wrap i64 (wrap i64 (wrap i64 v*32)+z.1)=v*32+z.1:=by rw[wrap_i64,wrap_i64,wrap_i64];omega
 refine ar (by rw[e];simp[bJ];omega) (dm ?_)
 show(0<=i64.wrap (z.1+1)/\i64.wrap (z.1+1)<=32/\ey P (dF _ _ _))/\(32-i64.wrap (z.1+1)).toNat<(32-z.1).toNat
 have ew:i64.wrap (z.1+1)=z.1+1:=by rw[wrap_i64];omega
 rw[ew]
 exact⟨⟨by omega,by omega,⟨by simp[hl],z3.p1,z3.p2,Ee z3.u ep _⟩⟩,by omega⟩
structure oA(P:Nat)(m:ao):Prop where
 lY:iM m.A7
 mem:ey P m.Mem
 kM:oB m.A4
 r7:pr m.C1
 target:okB m.A1
 pV:0<=m.A0
theorem Zjq(c:je)(port:Int):U (LX c port).2:=by
 refine Tree.post (G8 c port) (W:=λr=>U r.2) ?_
 have u1:U 4294967295:=⟨by omega,by omega⟩
 unfold G8
 refine ab (λ_=>ab (λ_=>u1) (λh=>ab (λ_=>ar ?_ (ar ?_ (fq _))) (λ_=>ab (λ_=>fq _) (λ_=>ep)))) (λh1=>ab (λh=>(by rw[h1]at h;cases h)) (λ_=>ab (λ_=>fq _) (λ_=>ep)))
 ·have h:¬(c.C6.length:Int)=0:=by simpa using h
  exact dY ⟨by omega,by omega,by omega⟩
 ·have h:¬(c.C6.length:Int)=0:=by simpa using h
  simp[bJ];omega
theorem xaq{n:ij}(h:pr n)(port:Int):U (TM n port):=by
 refine Tree.post (OO n port) (W:=U) ?_
 have u1:U 1:=⟨by omega,by omega⟩
 unfold OO
 exact ab (λ_=>h.frame) (λ_=>ab (λ_=>h.GM) (λ_=>ab (λ_=>ab (λ_=>ab (λ_=>fq _) (λ_=>u1)) (λ_=>ab (λ_=>fq _) (λ_=>ep))) (λ_=>ep)))
theorem vR{d:fm}(h:oB d)(port:Int):U (Yc d port):=by
 refine Tree.post (Vr d port) (W:=U) ?_
 unfold Vr
 exact ab (λ_=>h.block) (λ_=>ab (λ_=>h.frame) (λ_=>ab (λ_=>fq _) (λ_=>ep)))
theorem xy(t:jk):U (Yd t):=by
 refine Tree.post (Qe t) (W:=U) ?_
 unfold Qe
 exact ab (λ_=>⟨by omega,by omega⟩) (λ_=>ep)
theorem Zjk{b:gr}(h:U b.C4)(port:Int):U (L1 b port):=by
 refine Tree.post (L2 b port) (W:=U) ?_
 unfold L2
 exact ab (λ_=>h) (λ_=>ab (λ_=>au λ_ _=>fq _) (λ_=>ep))
structure okR(P:Nat)(r:pP):Prop where
 m:oA P r.B2
 clock:U r.BQ
structure okL(P:Nat)(r x:pP):Prop where
 ok:okR P x
 log:x.Log=r.Log
 queue:x.Queue=r.Queue
theorem w0(x:Int):0<=u64.wrap x:=by rw[wrap_u64];omega
section
variable {P:Nat} {r:pP} (h:okR P r)
include h
end
theorem qaF(c:je)(b:Int):(RO c b).w (λ_=>True):=by
 unfold RO
 refine ab (λ_=>trivial) (λh=>ar (dY ?_) trivial)
 have h:=oN h
 simp[maxLen];omega
theorem qS{P:Nat}{m:List Int}(hm:ey P m){n:ij}(hn:pr n)(frame:List UInt8):(L0 n m frame).w (λr=>pr r.1/\ey P r.2.2):=by
 unfold L0
 refine ab (λ_=>⟨hn,hm⟩) (λ_=>ab (λ_=>⟨hn,hm⟩) (λ_=>ab (λ_=>⟨hn,hm⟩) (λ_=>au λx0 hx=>ab (λ_=>⟨hn,hm⟩) (λhb=>?_))))
 have hp:nV m n.B7=true:=hx.symm.trans (by simpa using hb)
 rw[FC hm hn.buffer]at hp
 have hp:=oY hp
 obtain⟨b1,b2⟩:=hn.buffer
 have ew:i64.wrap n.B7=n.B7:=by rw[wrap_i64];omega
 exact bh (yY hm (frame:=i64.wrap n.B7) (by rw[ew];exact b1) (by rw[ew];exact hp) frame) λx hx=>⟨⟨hn.frame,hn.len,ep,fq _⟩,hx⟩
section
variable {P:Nat} {r:pP} (h:okR P r)
include h

import Derived.Test.YthjfindbamdacaaGreatDoorPostNeedsZx
open List renaming set->dC,mem_cons->cO,not_mem_nil->cP
open Nat renaming blt->bJ,beq->bT,lt_succ_self->cL,le_refl->aO,zero_le->aT
open Int renaming pow_pos->dJ,le_of_lt->dL,fdiv_eq_ediv_of_nonneg->dK,tmod->dA,mul_tmod_right->iC,mul_tdiv_cancel_left->iD,tdiv->eN,tdiv_eq_ediv_of_nonneg->eO,emod_eq_of_lt->dI,lt_of_lt_of_le->iE,le_of_eq->iF
open BitVec renaming ofInt->dS,toNat_and->dV
set_option maxRecDepth 100000
set_option linter.all false
namespace Go.Proofs.YthjfindbamdacaaGreatDoor
open Go Go.GD
open Go.IntKind(wrap i64 u32 u64 u8 i32 wrap_i64 wrap_u32 wrap_u64 wrap_u8 wrap_i32)
def U(x:Int):Prop:=0<=x/\x<4294967296
theorem Q0p(x:Int):U (u32.wrap x):=by rw[wrap_u32];unfold U;omega
theorem Z7v(x y:Int):U (iand .u32 x y):=Q0p _
theorem U_or(x y:Int):U (ior .u32 x y):=Q0p _
theorem U_0:U 0:=⟨by omega,by omega⟩
theorem Z2s{m:List Int}(h:∀w∈m,U w){v:Int}(hv:U v)(i:Nat):∀w∈m.set i v,U w:=by
 intro w hw
 rcases List.mem_or_eq_of_mem_set hw with h1|h1
 ·exact h w h1
 ·rw[h1];exact hv
structure Q0s(P:Nat)(m:List Int):Prop where
 len:m.length=32*P
 p1:0<=P
 p2:P<=32
 u:∀w∈m,U w
structure Q5u(d:Q0d):Prop where
 block:U d.B8
 frame:U d.Frame
 opBlock:U d.B4
 opFrame:U d.B1
structure Qco(n:Q0w):Prop where
 frame:U n.Frame
 len:U n.D8
 buffer:U n.B6
 got:U n.E0
theorem Qhc{l:List Int}(h:∀w∈l,U w)(i:Nat):U (l.getD i 0):=by
 by_cases hi:i<l.length
 ·have:l.getD i 0=l[i]:=by simp[List.getD,hi]
  rw[this];exact h _ (List.getElem_mem hi)
 ·have:l.getD i 0=0:=by simp[List.getD,List.getElem?_eq_none (by omega:l.length<=i)]
  rw[this];exact U_0
structure Q2d(c:Q01):Prop where
 x:∀w∈A16.l c.X,U w
 pc:U c.Pc
 csr:∀w∈A8.l c.B3,U w
theorem Zem{X:A16 Int}(h:∀w∈A16.l X,U w){v:Int}(hv:U v)(i:Nat):∀w∈A16.l (A16.of 0 (dC (A16.l X) i v)),U w:=by
 have hs:=Z2s h hv i
 intro w hw
 simp only[A16.l,A16.of,cO,cP,or_false]at hw
 repeat(first|(rcases hw with rfl|hw;· exact Qhc hs _)|(subst hw;exact Qhc hs _))
theorem Zas{X:A8 Int}(h:∀w∈A8.l X,U w){v:Int}(hv:U v)(i:Nat):∀w∈A8.l (A8.of 0 (dC (A8.l X) i v)),U w:=by
 have hs:=Z2s h hv i
 intro w hw
 simp only[A8.l,A8.of,cO,cP,or_false]at hw
 repeat(first|(rcases hw with rfl|hw;· exact Qhc hs _)|(subst hw;exact Qhc hs _))
section
variable {c:Q01} (h:Q2d c)
include h
theorem Q2d.a(i:Nat):U ((A8.l c.B3).getD i 0):=Qhc h.csr i
theorem Q2d.r(i:Nat):U ((A16.l c.X).getD i 0):=Qhc h.x i
theorem Q2d.a0:U c.B3.a0:=h.a 0
theorem Q2d.a1:U c.B3.a1:=h.a 1
theorem Q2d.a2:U c.B3.a2:=h.a 2
theorem Q2d.a3:U c.B3.a3:=h.a 3
theorem Q2d.a4:U c.B3.a4:=h.a 4
theorem Q2d.a5:U c.B3.a5:=h.a 5
theorem Q2d.a6:U c.B3.a6:=h.a 6
theorem Q2d.a7:U c.B3.a7:=h.a 7
theorem Q2d.pcs{p:Int}(hp:U p):Q2d {X:=c.X,Pc:=p,B3:=c.B3}:=⟨h.x,hp,h.csr⟩
end
section
variable {α β:Type} {W:β->Prop} {t:Tree α} {Q:α->Prop} {k:α->Tree β}
theorem Q0c(hq:t.w Q)(g:∀x,Q x->(k x).w W):(Tree.an t.p (Tree.lv t.m k)).w W:=⟨(Tree.pp hq).1,λy hy=>g y (by rw[hy];exact(Tree.pp hq).2)⟩
theorem Zj2(hq:t.w Q)(g:∀x,Q x->(k x).w W):(Tree.lv t.m k).w W:=λy hy=>g y (by rw[hy];exact t.post hq)
end
theorem rc{r:Int}(h:0<=r/\r<16):(bJ 0 1&&decide (0<=r/\r<((16:Nat):Int)))=true:=by simp[bJ];omega
theorem Qux{a:Int}(h:U a)(b:Int):U (ishr .u32 a b):=by
 unfold ishr U
 obtain⟨h1,h2⟩:=h
 have hp:(0:Int)<2^(min b.toNat u32.bits):=dJ (by decide)
 have:=Int.fdiv_nonneg h1 (dL hp)
 refine⟨this,?_⟩
 rw[dK _ (dL hp)]
 have h3:=Int.ediv_le_self (2^(min b.toNat u32.bits)) h1
 omega
structure Qax(i:Q0f):Prop where
 a:0<=i.A/\i.A<16
 b:0<=i.B/\i.B<16
 c:0<=i.C/\i.C<16
 csr:i.Op=58->0<=i.Imm/\i.Imm<8
theorem Qjw{P:Nat}{m:List Int}(h:Q0s P m):Q0u m=P:=by
 obtain⟨h1,h2,h3,_⟩:=h
 simp only[Q0u,Q8d,Tree.m]
 have e:(m.length:Int)=32*P:=by omega
 rw[e]
 have e1:(dA (32*(P:Int)) 32 !=0)=false:=by simp[iC]
 have e2:decide ((32*(P:Int))>1024)=false:=dN (by omega)
 rw[e1,e2]
 simp only[cond_false]
 rw[iD _ (by decide),wrap_i64];omega
theorem zR(n:Int):(Qhk n).w (λ_=>True):=by
 unfold Qhk
 exact w_br (λ_=>trivial) (λ_=>w_cn (dY (by rw[wrap_u64];omega)) trivial)
theorem Qqx(w low n:Int):(Qen w low n).w U:=by
 unfold Qen
 exact w_br (λ_=>U_0) (λ_=>w_br (λ_=>U_0) (λ_=>w_br (λ_=>U_0) (λ_=>w_cn (dY (by rw[wrap_u64];omega)) (Q0c (zR n) λ_ _=>Z7v _ _))))
theorem Zkk{w:Int}(hw:U w)(low n v:Int):(Q8x w low n v).w U:=by
 have h0:decide (0<=wrap u64 low)=true:=dY (by rw[wrap_u64];omega)
 unfold Q8x
 exact w_br (λ_=>hw) (λ_=>w_br (λ_=>hw) (λ_=>w_br (λ_=>hw) (λ_=>Q0c (zR n) λ_ _=>w_cn h0 (w_cn h0 (U_or _ _)))))
theorem Quf{x:Int}(hx:U x)(n:Int):(Q75 x n).w U:=by
 have h0:∀y,decide (0<=wrap u64 y)=true:=λy=>dY (by rw[wrap_u64];omega)
 unfold Q75
 exact w_br (λ_=>U_0) (λ_=>w_br (λ_=>hx) (λ_=>w_cn (h0 _) (w_cn (h0 _) (Q0p _))))
section
variable {P:Nat} {m:List Int} (h:Q0s P m)
include h
theorem Q9:Q07 m:=by
 have:=h.len
 have:=h.p2
 show m.length<=35184372088832
 omega
theorem Zdi{a:Int}(ha:U a){size:Int}(hs:size=1\/size=4):(Q5m m a size).w (λb=>b=true->a+size<=128*P):=by
 have hp:=Qjw h
 have h2:=h.p2
 obtain⟨a1,a2⟩:=ha
 have e:decide (wrap u32 size≠0)=true:=by rcases hs with rfl|rfl<;>decide
 have l:∀x,x=Q0u m->decide (wrap u64 (wrap u64 a+wrap u64 size)<=wrap u64 (wrap u64 x*128))=true->a+size<=128*P:=λx hx hd=>by
  rw[hx,hp]at hd
  have:=oY hd
  simp only[wrap_u64]at this
  omega
 unfold Q5m
 refine w_br (λ_=>w_br (λ_=>λh=>by cases h) (λ_=>?_)) (λ_=>?_)<;>
 exact w_cn e (w_br (λ_=>λh=>by cases h) (λ_=>w_lv λx hx=>l x hx))
theorem idxP{a:Int}(ha:U a)(hl:a<128*P):(bT 1 1&&bJ 0 1&&decide (0<=wrap u32 (eN a 4)/\wrap u32 (eN a 4)<(m.length:Int)))=true:=by
 obtain⟨a1,a2⟩:=ha
 have e:wrap u32 (eN a 4)=a/4:=by rw[wrap_u32,eO a1];omega
 have:=h.len
 rw[e];simp[bJ];omega
theorem Qq2{a:Int}(ha:U a){size:Int}(hs:size=1\/size=4):(Q9w m a size).w (λr=>U r.1/\(r.2=true->a<128*P)):=by
 unfold Q9w
 refine Q0c (Zdi h ha hs) λx hx=>w_br (λ_=>⟨U_0,λh=>by cases h⟩) (λhb=>?_)
 have hl:=hx (by simpa using hb)
 have hl:a<128*P:=by omega
 exact w_cn (idxP h ha hl) (w_br (λ_=>Q0c (Qqx _ _ _) λy hy=>⟨hy,λ_=>hl⟩) (λ_=>⟨Qhc h.u _,λ_=>hl⟩))
theorem Qye{a:Int}(ha:U a){size:Int}(hs:size=1\/size=4){v:Int}(hv:U v):(Q8i m a size v).w (λr=>Q0s P r.1):=by
 have st:∀i v,U v->Q0s P (m.set i v):=λi v hv=>⟨by simp[h.len],h.p1,h.p2,Z2s h.u hv i⟩
 have hcl:Q02 m=m:=rfl
 unfold Q8i
 refine w_an (Q9 h) (w_lv λx0 hx0=>?_)
 rw[hcl]at hx0;subst hx0
 refine Q0c (Zdi h ha hs) λx hx=>w_br (λ_=>h) (λhb=>?_)
 have hl:=hx (by simpa using hb)
 have hl:a<128*P:=by omega
 exact w_br (λ_=>w_cn (idxP h ha hl) (Q0c (Zkk (Qhc h.u _) _ _ _) λy hy=>w_cn (idxP h ha hl) (st _ _ hy))) (λ_=>w_cn (idxP h ha hl) (st _ _ hv))
end
theorem Zew{r:Int}{used:Bool}(h:Q8v r used=true):0<=r/\r<16:=by
 simp only[Q8v,Qdw,Tree.m]at h
 cases used
 ·have h:(r==0)=true:=h
  have:=eq_of_beq h;omega
 ·cases h1:decide (r>=0)<;>rw[h1]at h
  ·cases h
  ·have h1:=oY h1
   have h:=oY h
   omega
theorem yq{i:Q0f}(h:Qe9 i=true):Qax i:=by
 have no:false=true->Qax i:=λh=>by cases h
 refine(Tree.post (Qht i) (W:=λb=>b=true->Qax i) ?_) h
 unfold Qht
 refine w_lv λx0 h0=>w_br (λ_=>w_lv λx1 h1=>w_br (λb1=>w_lv λx2 h2=>w_br (λb2=>w_lv λx3 h3=>w_br (λb3=>w_br (λb4=>λb5=>?_) (λ_=>no)) (λ_=>no)) (λ_=>no)) (λ_=>no)) (λ_=>no)
 have b4:=oY b4
 have b5:=oY b5
 refine⟨Zew (h1.symm.trans b1),Zew (h2.symm.trans b2),Zew (h3.symm.trans b3),λe=>?_⟩
 rw[e]at h0
 have h0:x0=({a:=true,b:=false,c:=false,low:=0,D1:=7},true):=h0
 subst h0
 simp at b4 b5;omega
theorem Qn9(w:Int):(Qbl w).w (λr=>r.2=true->Qax r.1):=by
 have no:∀{p:Prop},false=true->p:=λh=>by cases h
 have l:∀i,(Tree.lv (Qe9 i) λx=>.br (!x) (.lf ((⟨0,0,0,0,0⟩:Q0f),false)) (.lf (i,true))).w (λr=>r.2=true->Qax r.1):=λi=>w_lv λx hx=>w_br (λ_=>no) (λhb=>λ_=>yq (hx.symm.trans (by simpa using hb)))
 unfold Qbl
 exact Q0c (Qqx _ _ _) λx0 _=>Q0c (Qqx _ _ _) λx1 _=>Q0c (Qqx _ _ _) λx2 _=>w_lv λx3 _=>w_br (λ_=>no) (λ_=>Q0c (Qqx _ _ _) λx4 h4=>w_br (λ_=>l _) (λ_=>w_br (λ_=>Q0c (Quf h4 _) λx6 _=>l _) (λ_=>l _)))
theorem vq(access:Int):(Q14 access).1≠0/\(Qb4 access).1≠0:=by
 constructor
 ·simp only[Q14,Qf,Tree.m]
  cases access==1<;>cases access==2<;>cases access==3<;>simp
 ·simp only[Qb4,Qle,Tree.m]
  cases access==1<;>cases access==2<;>cases access==3<;>simp
section
variable {P:Nat} {m:List Int} (h:Q0s P m)
include h
theorem Qr3{f:Int}(hf:U f):Q1i m f=decide (f<P):=by
 have:=Qjw h
 obtain⟨h1,h2⟩:=hf
 have h3:=h.p2
 simp only[Q1i,Qga,Tree.m,letv,this]
 congr 1
 rw[wrap_u64,wrap_u64,dI h1 (by omega),dI (by omega) (by omega)]
theorem qr{root va:Int}(hv:U va)(access:Int):(Qa5 m root va access).w (λt=>U t.Addr/\U t.D9):=by
 have bad:U (0:Int)/\U (0:Int):=⟨U_0,U_0⟩
 have fr:∀x,(Q83 x).w U:=λx=>by
  unfold Q83
  exact Q0c (Qqx _ _ _) λy hy=>hy
 unfold Qa5
 exact w_lv λx0 _=>w_br (λ_=>bad) (λ_=>w_br (λ_=>bad) (λ_=>w_lv λx1 _=>w_br (λ_=>bad) (λ_=>Q0c (Qq2 h (Q0p _) (.inr rfl)) λx2 _=>w_br (λ_=>bad) (λ_=>w_lv λx3 _=>w_br (λ_=>bad) (λ_=>Q0c (fr _) λx4 _=>w_lv λx5 _=>w_br (λ_=>bad) (λ_=>Q0c (fr _) λx6 _=>⟨Q0p _,Q0p _⟩))))))
theorem vK{a:Int}(ha:U a)(access:Int):(Q8n m a access).w (Q0s P):=by
 have hcl:Q02 m=m:=rfl
 unfold Q8n
 exact Q0c (Qq2 h ha (.inr rfl)) λx0 _=>w_br (λ_=>w_an (Q9 h) (w_lv λx1 h1=>by rw[h1,hcl];exact h)) (λ_=>w_br (λ_=>Q0c (Qye h ha (.inr rfl) (U_or _ _)) λx hx=>hx) (λ_=>Q0c (Qye h ha (.inr rfl) (U_or _ _)) λx hx=>hx))
theorem Q7b{c:Q01}{va:Int}(hv:U va){size:Int}(hs:size=1\/size=4)(access:Int):(Qa1 c m va size access).w (λr=>U r.1/\Q0s P r.2.1):=by
 have hcl:Q02 m=m:=rfl
 have e:decide (wrap u32 size≠0)=true:=by rcases hs with rfl|rfl<;>decide
 have cl:∀(K:List Int->Int×List Int×Int),(∀x,x=m->U (K x).1/\Q0s P (K x).2.1)->(Tree.an (Q07 m) (.lv (Q02 m) λx=>.lf (K x))).w (λr=>U r.1/\Q0s P r.2.1):=λK hK=>w_an (Q9 h) (w_lv λx hx=>hK x (hx.trans hcl))
 have z:∀(k:Nat) (x:List Int),x=m->U (0:Int)/\Q0s P x:=λ_ x hx=>⟨U_0,hx▸h⟩
 have v:∀x,x=m->U va/\Q0s P x:=λx hx=>⟨hv,hx▸h⟩
 have main:∀(x0:Int×Bool),(Tree.cn (decide (wrap u32 size≠0)) (.br (dA va (wrap u32 size) !=0) (.an (Q07 m) (.lv (Q02 m) λx3=>.lf ((0:Int),x3,(3:Int)))) (.lv (Q5d c) λx4=>.br (!x4) (.br (iand u32 c.B3.a0 4 !=0) (.an (Qcc m c.B3.a6 va access) (.lv (Q0z m c.B3.a6 va access) λx5=>.br (x5.D0 !=0) (.an (Q07 m) (.lv (Q02 m) λx6=>.lf (0,x6,x5.D0))) (.an (Qfd m x5.D9 access) (.lv (Q2g m x5.D9 access) λx7=>.lf (x5.Addr,x7,0))))) (.an (Q4p m va size) (.lv (Q0y m va size) λx8=>.br (!x8.2) (.an (Q07 m) (.lv (Q02 m) λx9=>.lf (0,x9,x0.1))) (.an (Q07 m) (.lv (Q02 m) λx10=>.lf (va,x10,0)))))) (.an (Q4p m va size) (.lv (Q0y m va size) λx11=>.br (!x11.2) (.an (Q07 m) (.lv (Q02 m) λx12=>.lf (0,x12,x0.1))) (.an (Q07 m) (.lv (Q02 m) λx13=>.lf (va,x13,0)))))))).w (λr=>U r.1/\Q0s P r.2.1):=λx0=>
  w_cn e (w_br (λ_=>cl _ (z 0)) (λ_=>w_lv λx4 _=>w_br (λ_=>w_br (λ_=>Q0c (qr h hv access) λx5 hx=>w_br (λ_=>cl _ (z 0)) (λ_=>Q0c (vK h hx.2 access) λx7 h7=>⟨hx.1,h7⟩)) (λ_=>Q0c (Qq2 h hv hs) λx8 _=>w_br (λ_=>cl _ (z 0)) (λ_=>cl _ v))) (λ_=>Q0c (Qq2 h hv hs) λx8 _=>w_br (λ_=>cl _ (z 0)) (λ_=>cl _ v))))
 unfold Qa1
 exact w_lv λx0 _=>w_br (λ_=>cl _ (z 0)) (λ_=>w_br (λ_=>w_br (λ_=>cl _ (z 0)) (λ_=>main x0)) (λ_=>main x0))
theorem Qig{c:Q01}(hc:Q2d c):(Qi c m).w (λr=>U r.1/\Q0s P r.2.1):=by
 unfold Qi
 exact Q0c (Q7b h hc.pc (.inr rfl) 1) λx0 h0=>w_br (λ_=>⟨U_0,h0.2⟩) (λ_=>Q0c (Qq2 h0.2 h0.1 (.inr rfl)) λx1 h1=>⟨h1.1,h0.2⟩)
end
theorem qag{s a b:Int}:U (Q8p s a b):=by
 refine Tree.post (Qo5 s a b) (W:=U) ?_
 unfold Qo5
 exact w_br (λ_=>Q0p _) (λ_=>Q0p _)
section
variable {c:Q01} (h:Q2d c)
include h
theorem Qmi(k:Int){b:Int}(hb:U b):Q2d (Q2z c k b):=by
 refine(Tree.post (Qk3 c k b) (W:=Q2d) ?_)
 unfold Qk3
 refine w_lv λ_ _=>w_lv λ_ _=>⟨h.x,h.a1,?_⟩
 intro w hw
 simp only[A8.l,cO,cP,or_false]at hw
 rcases hw with rfl|rfl|rfl|rfl|rfl|rfl|rfl|rfl
 ·exact Q0p _
 ·exact h.a1
 ·exact h.pc
 ·exact Q0p _
 ·exact hb
 ·exact h.a5
 ·exact h.a6
 ·exact h.a7
theorem xr:Q2d (Qcy c):=by
 refine(Tree.post (Qes c) (W:=Q2d) ?_)
 unfold Qes
 refine w_lv λx0 _=>w_lv λx1 h1=>⟨h.x,h.a2,?_⟩
 intro w hw
 simp only[A8.l,cO,cP,or_false]at hw
 rcases hw with rfl|rfl|rfl|rfl|rfl|rfl|rfl|rfl
 ·rw[h1];exact qag
 ·exact h.a1
 ·exact h.a2
 ·exact h.a3
 ·exact h.a4
 ·exact h.a5
 ·exact h.a6
 ·exact h.a7
theorem Qq0{r:Int}(hr:0<=r/\r<16){v:Int}(hv:U v):(Qc7 c r v).w Q2d:=by
 unfold Qc7
 exact w_br (λ_=>w_cn (rc hr) ⟨Zem h.x hv _,h.pc,h.csr⟩) (λ_=>h)
theorem Zi1(k:Int){v:Int}(hv:U v):(Qbd c k v).w Q2d:=by
 have ok:∀i v,U v->Q2d {X:=c.X,Pc:=c.Pc,B3:=A8.of 0 (dC (A8.l c.B3) i v)}:=λi v hv=>⟨h.x,h.pc,Zas h.csr hv i⟩
 unfold Qbd
 repeat'(first
  |exact h
  |exact ok _ _ (Q0p _)
  |exact ok _ _ hv
  |refine w_br (λhk=>?_) (λ_=>?_)
  |refine w_cn (by rw[eq_of_beq (by assumption:(k==_)=true)];decide) ?_)
end
theorem Zcv{a b:Int}(ha:U a)(hb:U b):(Q9p a b).w (λr=>U r.1/\U r.2):=by
 have u1:U 4294967295:=⟨by omega,by omega⟩
 unfold Q9p
 refine w_br (λ_=>⟨u1,ha⟩) (λh=>?_)
 have h:¬b=0:=by simpa using h
 obtain⟨b1,b2⟩:=hb
 have hc:decide (wrap i32 b≠0)=true:=dY (by rw[wrap_i32];omega)
 exact w_br (λ_=>w_br (λ_=>⟨ha,U_0⟩) (λ_=>w_cn hc (w_cn hc ⟨Q0p _,Q0p _⟩))) (λ_=>w_cn hc (w_cn hc ⟨Q0p _,Q0p _⟩))
theorem zag(b:Bool):U (Qnm b):=by cases b<;>exact⟨by decide,by decide⟩
theorem Z6d(op:Int){a b:Int}(ha:U a)(hb:U b):(Qmf op a b).w (λr=>U r.1):=by
 unfold Qmf
 repeat'(first
  |refine w_br (λ_=>?_) (λ_=>?_)
  |exact Q0c (Zcv ha hb) λx hx=>hx.1
  |exact Q0c (Zcv ha hb) λx hx=>hx.2
  |exact w_lv λx hx=>(by rw[hx];exact zag _)
  |refine w_lf ?_)
 all_goals(first
  |exact Q0p _
  |exact Qux ha _
  |exact U_0)
theorem Z8j(op:Int):Qev op=1\/Qev op=4:=by
 simp only[Qev,Qqi,Tree.m]
 cases op==32<;>cases op==35<;>simp
section
variable {c:Q01} (h:Q2d c) {i:Q0f} (hi:Qax i)
include h hi
theorem Zl1:(Q3g c i).w (λr=>Q2d r.1/\U r.2.Value):=by
 have k:∀{x:Q01} {p:Int},Q2d x->U p->Q2d {X:=x.X,Pc:=p,B3:=x.B3}:=λhx hp=>⟨hx.x,hp,hx.csr⟩
 unfold Q3g
 refine w_cn (rc hi.a) (w_cn (rc hi.b) ?_)
 repeat'(first
  |refine w_br (λ_=>?_) (λ_=>?_)
  |exact Q0c (Qq0 h hi.a (Q0p _)) λx hx=>⟨k hx (Q0p _),U_0⟩
  |exact w_lv λx _=>w_br (λ_=>⟨k h (Q0p _),U_0⟩) (λ_=>⟨k h (Q0p _),U_0⟩)
  |exact w_lv λx hx=>⟨by rw[hx];exact Qmi h _ U_0,U_0⟩
  |exact w_lv λx hx=>⟨by rw[hx];exact xr h,U_0⟩
  |exact w_cn (by have:=hi.csr (by simp_all);simp[bJ];omega) (Q0c (Qq0 h hi.a (h.a _)) λx hx=>⟨k hx (Q0p _),U_0⟩)
  |exact Q0c (Zi1 h _ (h.r _)) λx hx=>⟨k hx (Q0p _),U_0⟩
  |refine w_cn (rc hi.c) ?_
  |exact Q0c (Z6d _ (h.r _) (Q0p _)) λy hy=>Q0c (Qq0 h hi.a hy) λx hx=>⟨k hx (Q0p _),U_0⟩
  |exact Q0c (Z6d _ (h.r _) (h.r _)) λy hy=>Q0c (Qq0 h hi.a hy) λx hx=>⟨k hx (Q0p _),U_0⟩
  |refine w_lf ?_)
 all_goals(first
  |exact⟨k h (Q0p _),U_0⟩
  |exact⟨k h (Q0p _),h.r _⟩)
theorem Z1m{P:Nat}{m:List Int}(hm:Q0s P m):(Qcx c m i).w (λr=>Q2d r.1/\Q0s P r.2):=by
 have w:=Z8j i.Op
 unfold Qcx
 refine w_cn (rc hi.b) (w_lv λx0 h0=>?_)
 rw[<-h0]at w
 refine Q0c (Q7b hm (Q0p _) w 2) λx1 h1=>w_br (λ_=>w_lv λy hy=>⟨by rw[hy];exact Qmi h _ (Q0p _),h1.2⟩) (λ_=>w_lv λx3 h3=>?_)
 rw[h0,<-h3]at w
 exact Q0c (Qq2 h1.2 h1.1 w) λx4 h4=>w_br (λ_=>Q0c (Quf h4.1 8) λy hy=>Q0c (Qq0 h hi.a hy) λx hx=>⟨⟨hx.x,Q0p _,hx.csr⟩,h1.2⟩) (λ_=>Q0c (Qq0 h hi.a h4.1) λx hx=>⟨⟨hx.x,Q0p _,hx.csr⟩,h1.2⟩)
theorem Qw0{P:Nat}{m:List Int}(hm:Q0s P m):(Qb5 c m i).w (λr=>Q2d r.1/\Q0s P r.2):=by
 have w:=Z8j i.Op
 unfold Qb5
 refine w_cn (rc hi.b) (w_lv λx0 h0=>?_)
 rw[<-h0]at w
 refine Q0c (Q7b hm (Q0p _) w 3) λx1 h1=>w_br (λ_=>w_lv λy hy=>⟨by rw[hy];exact Qmi h _ (Q0p _),h1.2⟩) (λ_=>w_lv λx3 h3=>w_cn (rc hi.a) ?_)
 rw[h0,<-h3]at w
 exact Q0c (Qye h1.2 h1.1 w (h.r _)) λx hx=>⟨⟨h.x,Q0p _,h.csr⟩,hx⟩
end
theorem Zhc{c:Q01}(h:Q2d c){P:Nat}{m:List Int}(hm:Q0s P m):(Qa4 c m).w (λr=>Q2d r.1/\Q0s P r.2.1/\U r.2.2.Value):=by
 unfold Qa4
 refine Q0c (Qig hm h) λx0 h0=>w_br (λ_=>w_lv λy hy=>⟨by rw[hy];exact Qmi h _ h.pc,h0.2,U_0⟩) (λ_=>Q0c (Qn9 _) λx2 h2=>w_br (λ_=>w_lv λy hy=>⟨by rw[hy];exact Qmi h _ h0.1,h0.2,U_0⟩) (λhb=>?_))
 have hi:=h2 (by simpa using hb)
 refine w_lv λx4 _=>?_
 repeat'(first
  |refine w_br (λ_=>?_) (λ_=>?_)
  |exact Q0c (Z1m h hi h0.2) λx hx=>⟨hx.1,hx.2,U_0⟩
  |exact Q0c (Qw0 h hi h0.2) λx hx=>⟨hx.1,hx.2,U_0⟩
  |exact Q0c (Zl1 h hi) λx hx=>⟨hx.1,h0.2,hx.2⟩
  |exact w_lv λy hy=>⟨by rw[hy];exact Qmi h _ h0.1,h0.2,U_0⟩
  |refine w_lv λ_ _=>?_)
theorem Zj5{a:Int}(h:U a)(k:Nat)(hk:k<=32):0<=ishr .u32 a k/\ishr .u32 a k*2^k<=a:=by
 obtain⟨h1,h2⟩:=h
 unfold ishr
 have e:min (k:Int).toNat u32.bits=k:=by show min (k:Int).toNat 32=k;omega
 have hp:(0:Int)<2^k:=dJ (by decide)
 rw[e,dK _ (dL hp)]
 exact⟨Int.ediv_nonneg h1 (dL hp),Int.ediv_mul_le a (Int.ne_of_gt hp)⟩
theorem Zhk(x:Int):0<=u8.wrap x/\u8.wrap x<256:=by rw[wrap_u8];omega
theorem xag{x:Int}(h:U x):(Q2e x).w (λ_=>True):=by
 have s16:=Zj5 h 16 (by omega)
 have s8:=Zj5 h 8 (by omega)
 have s24:=Zj5 (Qux h 16) 8 (by omega)
 obtain⟨h1,h2⟩:=h
 unfold Q2e
 repeat'(first
  |refine w_br (λ_=>?_) (λ_=>?_)
  |refine w_cn (dY ⟨?_,iE (b:=256) ?_ (iF (by kernel_rfl))⟩) ?_
  |exact trivial
  |refine w_lf ?_)
 all_goals(first
  |trivial
  |exact(Zhk _).1
  |exact(Zhk _).2
  |(simp only[decide_eq_true_eq,decide_eq_false_iff_not]at*;simp at s16 s8 s24;omega))
theorem and255(a:Int):iand .u32 a 255<256:=by
 unfold iand
 rw[wrap_u32]
 have:(dS u32.bits a&&&dS u32.bits 255).toNat<=255:=by
  show(dS 32 a&&&dS 32 255).toNat<=255
  rw[dV]
  exact Nat.le_trans Nat.and_le_right (by decide)
 omega
theorem xau{x:Int}(h:U x):(Q3o x).w (λ_=>True):=by
 have s24:=Zj5 h 24 (by omega)
 obtain⟨h1,h2⟩:=h
 have i24:ishr .u32 x 24<256:=by simp at s24;omega
 unfold Q3o
 repeat'(first
  |refine w_cn (dY ⟨?_,iE (b:=256) ?_ (iF (by kernel_rfl))⟩) ?_
  |exact trivial
  |refine w_lf ?_)
 all_goals(first
  |trivial
  |exact(Q0p _).1
  |exact s24.1
  |exact i24
  |exact and255 _)
structure okS(P:Nat)(m:Q00):Prop where
 cpu:Q2d m.B2
 mem:Q0s P m.Mem
 disk:Q5u m.A7
 nic:Qco m.C1
 target:U m.A0.C4
 given:U m.A0.B9
theorem Zhq{b:Q06}(h:U b.B9):(Q94 b).w (λ_=>True):=by
 unfold Q94
 exact Q0c (xau h) λ_ _=>trivial
theorem Zd4{m:Q00}(h:U m.A0.B9):(Q6l m).w (λ_=>True):=by
 have b:∀x,(Q6e m.A0 x).w (λ_=>True):=λx=>by
  unfold Q6e
  exact Q0c (xag h) λ_ _=>trivial
 have d:(Q1z m).w (λ_=>True):=by
  unfold Q1z
  exact w_lv λ_ _=>w_lv λ_ _=>w_br (λ_=>w_lv λ_ _=>w_br (λ_=>w_lv λ_ _=>w_br (λ_=>w_lv λ_ _=>w_br (λ_=>Q0c (b _) λ_ _=>trivial) (λ_=>trivial)) (λ_=>trivial)) (λ_=>trivial)) (λ_=>trivial)
 unfold Q6l
 repeat'(first
  |refine w_br (λ_=>?_) (λ_=>?_)
  |exact Q0c d λ_ _=>trivial
  |refine w_lv λ_ _=>?_
  |exact trivial)
theorem Z8x{m:Q00}(h:U m.A0.B9):(Q7c m).w (λ_=>True):=by
 have p:(Q5a m.A0).w (λ_=>True):=by
  unfold Q5a
  exact Q0c (Zhq h) λ_ _=>trivial
 unfold Q7c
 refine w_lv λx0 _=>w_lv λx1 _=>w_lv λx2 _=>w_lv λx3 _=>Q0c p λx4 _=>w_lp (inv:=λz=>0<=z.2/\z.2<=5) (μ:=Qi2 m) ⟨by omega,by omega⟩ (cL _) (λz hz=>?_)
 obtain⟨z1,z2⟩:=hz
 have ew:z.2<5->i64.wrap (z.2+1)=z.2+1:=λ_=>by rw[wrap_i64];omega
 refine w_br (λhb=>?_) (λ_=>trivial)
 have hb:=oY hb
 have nx:(0<=i64.wrap (z.2+1)/\i64.wrap (z.2+1)<=5)/\(5-i64.wrap (z.2+1)).toNat<(5-z.2).toNat:=by rw[ew hb];omega
 refine w_cn (by simp;omega) (w_br (λ_=>w_cn (dY z1) (w_nx nx)) (λ_=>w_nx nx))
theorem Z4u{m:Q00}(h:U m.A0.B9):(Q38 m).w U:=by
 unfold Q38
 exact Q0c (Z8x h) λ_ _=>Z7v _ _
theorem zr{m:Q00}(h:U m.A0.B9):(Q3c m).w (λ_=>True):=by
 have i:(Q57 m).w (λ_=>True):=by
  unfold Q57
  exact w_br (λ_=>Q0c (Z4u h) λ_ _=>trivial) (λ_=>trivial)
 unfold Q3c
 exact Q0c (Zd4 h) λ_ _=>w_br (λ_=>w_br (λ_=>Q0c i λ_ _=>w_br (λ_=>trivial) (λ_=>trivial)) (λ_=>trivial)) (λ_=>trivial)
theorem Qdy{P:Nat}{m:List Int}(h:Q0s P m):Q4b m=P:=by
 obtain⟨h1,h2,h3,_⟩:=h
 simp only[Q4b,Qnk,Tree.m]
 have e:(m.length:Int)=32*P:=by omega
 rw[e]
 have e1:(dA (32*(P:Int)) 32 !=0)=false:=by simp[iC]
 have e2:decide ((32*(P:Int))>1024)=false:=dN (by omega)
 rw[e1,e2]
 simp only[cond_false]
 rw[iD _ (by decide),wrap_i64];omega
theorem Ql2{P:Nat}{m:List Int}(h:Q0s P m){f:Int}(hf:U f):Q2b m f=decide (f<P):=by
 have:=Qdy h
 obtain⟨h1,h2⟩:=hf
 have h3:=h.p2
 simp only[Q2b,Qgx,Tree.m,letv,this]
 congr 1
 rw[wrap_u64,wrap_u64,dI h1 (by omega),dI (by omega) (by omega)]
theorem qav{P:Nat}{m:List Int}(h:Q0s P m):(Q90 m).w (λr=>r=m):=by
 obtain⟨h1,h2,h3,_⟩:=h
 unfold Q90
 refine w_cn ?_ ?_
 ·simp[bJ,D.plain];omega
 ·show _=_
  simp
theorem put_w{P:Nat}{m:List Int}(h:Q0s P m){addr size v:Int}(ha:U addr)(hl:addr<4*m.length)(hv:U v):(Qdc m addr size v).w (Q0s P):=by
 obtain⟨h1,h2,h3,h4⟩:=h
 obtain⟨a1,a2⟩:=ha
 have e:wrap u32 (eN addr 4)=addr/4:=by rw[wrap_u32,eO a1];omega
 have hc:(bT 1 1&&bJ 0 1&&decide (0<=wrap u32 (eN addr 4)/\wrap u32 (eN addr 4)<(m.length:Int)))=true:=by
  rw[e];simp[bJ];omega
 have h0:∀x,decide (0<=wrap u32 x)=true:=λx=>dY (Q0p x).1
 have hs:∀i v,U v->Q0s P (m.set i v):=λi v hv=>⟨by simp[h1],h2,h3,Z2s h4 hv i⟩
 unfold Qdc
 exact w_br (λ_=>w_cn hc (hs _ _ hv)) (λ_=>w_cn hc (w_cn (h0 _) (w_cn (h0 _) (w_cn hc (hs _ _ (U_or _ _))))))
theorem yR{P:Nat}{m:List Int}(h:Q0s P m){frame:Int}(f0:0<=frame)(f1:frame<P)(s:List UInt8):(Q95 m frame s).w (Q0s P):=by
 unfold Q95
 have h3:=h.p2
 refine w_lp (inv:=λz=>0<=z.1/\z.1<=128/\Q0s P z.2) (μ:=Qgj m frame s) ⟨by omega,by omega,h⟩ (cL _) (λv0 hv0=>?_)
 obtain⟨i0,i1,hm⟩:=hv0
 refine w_br (λh1=>w_br (λh2=>w_cn ?_ ?_) (λ_=>hm)) (λ_=>hm)
 ·have:=oY h1
  simp[bJ];omega
 ·have h2:=oY h2
  have e:wrap u32 (wrap i64 (wrap i64 (frame*128)+v0.1))=frame*128+v0.1:=by
   rw[wrap_u32,wrap_i64,wrap_i64];omega
  rw[e]
  obtain⟨g1,g2⟩:=Tree.pp (put_w hm (size:=1) (addr:=frame*128+v0.1) ⟨by omega,by omega⟩ (by rw[hm.len];omega) (Q0p (UInt8.toNat (s.getD v0.1.toNat 0))))
  refine w_an g1 (w_lv λx0 hx0=>?_)
  rw[hx0]
  have ew:i64.wrap (v0.1+1)=v0.1+1:=by rw[wrap_i64];omega
  refine w_nx ?_
  show(0<=i64.wrap (v0.1+1)/\i64.wrap (v0.1+1)<=128/\Q0s P _)/\(128-i64.wrap (v0.1+1)).toNat<(128-v0.1).toNat
  rw[ew]
  exact⟨⟨by omega,by omega,g2⟩,by omega⟩
theorem qL{P:Nat}{m:List Int}(h:Q0s P m){d:Q0d}(hd:Q5u d)(e:Q0v):(Qa3 d m e).w (λr=>Q5u r.1/\Q0s P r.2.2):=by
 have fl:Q2b m d.B1=true->(Q95 m (i64.wrap d.B1) e.C8).w (Q0s P):=λhp=>by
   rw[Ql2 h hd.opFrame]at hp
   have:=oY hp
   have h1:=hd.opFrame.1
   have h3:=h.p2
   have ew:i64.wrap d.B1=d.B1:=by rw[wrap_i64];omega
   rw[ew]
   exact yR h h1 this _
 have l0:Q5u d/\Q0s P m:=⟨hd,h⟩
 have l1: ∀st,Q5u {Blocks:=d.Blocks,B8:=d.B8,Frame:=d.Frame,B7:=st,D6:=0,B4:=0,B1:=0,C0:=[]}:=λst=>⟨hd.block,hd.frame,U_0,U_0⟩
 unfold Qa3
 repeat'(first
   |exact l0
   |exact⟨l1 _,h⟩
   |refine w_br (λ_=> ?_) (λ_=> ?_)
   |refine w_lv (λ_ _=> ?_))
 all_goals(
   first
     | (have hp:Q2b m d.B1=true:=by simp_all
        obtain⟨g1,g2⟩:=Tree.pp (fl hp)
        refine w_an g1 (w_lv λx hx=> ?_)
        rw[hx]
        exact w_br (λ_=>⟨l1 _,g2⟩) (λ_=>⟨l1 _,g2⟩))
     |(exfalso;simp_all;done))
section
variable {c:Q01} (h:Q2d c)
include h
theorem Z18(k:Int){b:Int}(hb:U b):Q2d (Q30 c k b):=by
 refine(Tree.post (Qh2 c k b) (W:=Q2d) ?_)
 unfold Qh2
 refine w_lv λ_ _=>w_lv λ_ _=>⟨h.x,h.a1,?_⟩
 intro w hw
 simp only[A8.l,cO,cP,or_false]at hw
 rcases hw with rfl|rfl|rfl|rfl|rfl|rfl|rfl|rfl
 ·exact U_or _ _
 ·exact h.a1
 ·exact h.pc
 ·exact Q0p _
 ·exact hb
 ·exact h.a5
 ·exact h.a6
 ·exact h.a7
theorem xL:Q2d (Qgr c):=by
 refine(Tree.post (Qc5 c) (W:=Q2d) ?_)
 unfold Qc5
 refine w_lv λ_ _=>w_lv λ_ _=>⟨h.x,h.a2,?_⟩
 intro w hw
 simp only[A8.l,cO,cP,or_false]at hw
 rcases hw with rfl|rfl|rfl|rfl|rfl|rfl|rfl|rfl
 ·exact U_or _ _
 ·exact h.a1
 ·exact h.a2
 ·exact h.a3
 ·exact h.a4
 ·exact h.a5
 ·exact h.a6
 ·exact h.a7
theorem Z8o(r:Int){v:Int}(hv:U v):(Qde c r v).w Q2d:=by
 unfold Qde
 refine w_br (λh1=>w_br (λh2=>w_cn ?_ ⟨Zem h.x hv _,h.pc,h.csr⟩) (λ_=>h)) (λ_=>h)
 have h1:=oY h1
 have h2:=oY h2
 simp[bJ];omega
theorem qah(k:Int){v:Int}(hv:U v):(Qbg c k v).w Q2d:=by
 have ok:∀i v,U v->Q2d {X:=c.X,Pc:=c.Pc,B3:=A8.of 0 (dC (A8.l c.B3) i v)}:=λi v hv=>⟨h.x,h.pc,Zas h.csr hv i⟩
 unfold Qbg
 repeat'(first
  |exact h
  |exact ok _ _ (Q0p _)
  |exact ok _ _ hv
  |refine w_br (λhk=>?_) (λ_=>?_)
  |refine w_cn (by rw[eq_of_beq (by assumption:(k==_)=true)];decide) ?_)
end
section
variable {P:Nat} {m:List Int} (h:Q0s P m)
include h
theorem Z97(a:Int){size:Int}(hs:size=1\/size=4):(Q7t m a size).w (λb=>b=true->a<128*P):=by
 have hp:=Qdy h
 have h2:=h.p2
 have e:decide (wrap u32 size≠0)=true:=by rcases hs with rfl|rfl<;>decide
 have l:∀x,x=Q4b m->decide (a<wrap u32 (wrap i64 (128*x)))=true->a<128*P:=λx hx hd=>by
  rw[hx,hp,wrap_u32,wrap_i64]at hd
  have:=oY hd
  omega
 unfold Q7t
 refine w_br (λ_=>w_br (λ_=>λh=>by cases h) (λ_=>?_)) (λ_=>?_)<;>
 exact w_cn e (w_br (λ_=>w_lv λx hx=>l x hx) (λ_=>λh=>by cases h))
theorem idx{a:Int}(ha:U a)(hl:a<128*P):(bT 1 1&&bJ 0 1&&decide (0<=wrap u32 (eN a 4)/\wrap u32 (eN a 4)<(m.length:Int)))=true:=by
 obtain⟨a1,a2⟩:=ha
 have e:wrap u32 (eN a 4)=a/4:=by rw[wrap_u32,eO a1];omega
 have:=h.len
 rw[e];simp[bJ];omega
theorem Ze3{a:Int}(ha:U a){size:Int}(hs:size=1\/size=4):(Q6r m a size).w (λr=>U r.1):=by
 obtain⟨g1,g2⟩:=Tree.pp (Z97 h a hs)
 unfold Q6r
 refine w_an g1 (w_lv λx hx=>w_br (λ_=>U_0) (λhb=>?_))
 have hb:x=true:=by simpa using hb
 have hl:=g2 (hx.symm.trans hb)
 refine w_cn (idx h ha hl) (w_br (λ_=>w_cn (dY (Q0p _).1) (Q0p _)) (λ_=>Qhc h.u _))
theorem zav{a:Int}(ha:U a)(access:Int):(Qdd m a access).w (Q0s P):=by
 obtain⟨g1,g2⟩:=Tree.pp (Z97 h a (size:=4) (.inr rfl))
 have hs:∀{m:List Int} i v,Q0s P m->U v->Q0s P (m.set i v):=λi v h hv=>⟨by simp[h.len],h.p1,h.p2,Z2s h.u hv i⟩
 unfold Qdd
 refine w_an g1 (w_lv λx hx=>w_br (λ_=>h) (λhb=>?_))
 have hb:x=true:=by simpa using hb
 have hl:=g2 (hx.symm.trans hb)
 have i0:=idx h ha hl
 have h':=hs (Int.toNat (wrap u32 (eN a 4))) (ior u32 (m.getD (Int.toNat (wrap u32 (eN a 4))) 0) 8) h (U_or _ _)
 have i1:=idx h' ha hl
 exact w_cn i0 (w_cn i0 (w_br (λ_=>w_cn i1 (w_cn i1 (hs _ _ h' (U_or _ _)))) (λ_=>h')))
theorem vR{root va:Int}(hr:U root)(hv:U va)(access:Int):(Q9c m root va access).w (λt=>U t.Addr/\U t.D9/\(t.D0=0->t.Addr<128*P)):=by
 have hp:=Qdy h
 have h2:=h.p2
 have hlen:=h.len
 obtain⟨r1,r2⟩:=hr
 obtain⟨v1,v2⟩:=hv
 unfold Q9c
 refine w_lv λx0 hx0=>w_lv λx1 hx1=>w_lv λx2 _=>?_
 have hc:x0≠0:=by
  rw[hx0]
  simp only[Q3u,Q8h,Tree.m]
  cases access==1<;>cases access==3<;>simp
 rw[hp]at hx1
 have bad:U (0:Int)/\U (0:Int)/\(x0=0->(0:Int)<128*P):=⟨U_0,U_0,λe=>absurd e hc⟩
 refine w_br (λ_=>bad) (λ_=>w_br (λ_=>bad) (λhva=>w_br (λ_=>bad) (λhro=>?_)))
 have hva:=oN hva
 have hro:=oN hro
 have e1:wrap u32 x1=P:=by rw[hx1,wrap_u32];omega
 rw[e1]at hro
 have e2:wrap u32 (wrap u32 (root*128)+wrap u32 (4*wrap u32 (eN va 128)))=root*128+4*(va/128):=by
  rw[eO v1,wrap_u32,wrap_u32,wrap_u32,wrap_u32];omega
 have hU:U (wrap u32 (wrap u32 (root*128)+wrap u32 (4*wrap u32 (eN va 128)))):=Q0p _
 have ci:=idx h hU (by rw[e2];omega)
 have good:∀w:Int,decide (iand u32 w 255>=wrap u32 x1)=false->(U (wrap u32 (wrap u32 (iand u32 w 255*128)+dA va 128))/\U (wrap u32 (wrap u32 (root*128)+wrap u32 (4*wrap u32 (eN va 128))))/\((0:Int)=0->wrap u32 (wrap u32 (iand u32 w 255*128)+dA va 128)<128*P)):=λw hw=>by
  have hw:=oN hw
  rw[e1]at hw
  have hn:=(Z7v w 255).1
  refine⟨Q0p _,Q0p _,λ_=>?_⟩
  rw[Int.tmod_eq_emod_of_nonneg v1,wrap_u32,wrap_u32]
  generalize iand u32 w 255=q at*
  omega
 refine w_cn ci ?_
 repeat'(first
  |exact bad
  |exact good _ (by assumption)
  |refine w_br (λ_=>?_) (λ_=>?_)
  |refine w_cn ci ?_)
theorem Z7y{c:Q01}(hc:Q2d c){va:Int}(hv:U va){size:Int}(hs:size=1\/size=4)(access:Int):(Q9n c m va size access).w (λr=>Q0s P r.2.2/\U r.1/\(r.2.1=0->r.1<128*P)):=by
 have e:decide (wrap u32 size≠0)=true:=by rcases hs with rfl|rfl<;>decide
 obtain⟨g1,g2⟩:=Tree.pp (Z97 h va hs)
 obtain⟨k1,k2⟩:=Tree.pp (vR h hc.a6 hv access)
 have bad:∀k:Int,k≠0->Q0s P m/\U (0:Int)/\(k=0->(0:Int)<128*P):=λk hk=>⟨h,U_0,λe=>absurd e hk⟩
 have hca:Q3u access≠0:=by
  simp only[Q3u,Q8h,Tree.m]
  cases access==1<;>cases access==3<;>simp
 unfold Q9n
 refine w_lv λx0 _=>w_br (λ_=>bad 5 (by decide)) (λ_=>w_br (λh1=>w_br (λh2=>?_) (λ_=>?_)) (λ_=>?_))
 ·exact bad 5 (by decide)
 all_goals(
  refine w_cn e (w_br (λ_=>bad 3 (by decide)) (λ_=>w_lv λx1 _=>w_br (λ_=>w_an g1 (w_lv λx2 hx2=>w_br (λ_=>w_lv λx3 hx3=>bad x3 (by rw[hx3];exact hca)) (λhb=>?_))) (λ_=>w_an k1 (w_lv λx4 hx4=>w_br (λhb=>?_) (λhb=>?_)))))
  ·have hb:x2=true:=by simpa using hb
   exact⟨h,hv,λ_=>g2 (hx2.symm.trans hb)⟩
  ·exact bad _ (by simpa using hb)
  ·obtain⟨t1,t2,t3⟩:=k2
   rw[show(Q9c m c.B3.a6 va access).m=x4 from hx4.symm]at t1 t2 t3
   obtain⟨m1,m2⟩:=Tree.pp (zav h t2 access)
   refine w_an m1 (w_lv λx5 hx5=>?_)
   exact⟨hx5▸m2,t1,λ_=>t3 (by simpa using hb)⟩)
end
theorem yr{r:Int}(h:Q7x r=true):0<=r/\r<16:=by
 simp only[Q7x,Qbx,Tree.m]at h
 cases h1:decide (r>=0)<;>rw[h1]at h
 ·cases h
 ·have h1:=oY h1
  have h:=oY h
  omega
theorem zL{i:Q0f}(hi:wrap .i64 i.Imm=i.Imm)(h:Q8e i=true):Qax i:=by
 have no:false=true->Qax i:=λh=>by cases h
 refine(Tree.post (Qe5 i) (W:=λb=>b=true->Qax i) ?_) h
 unfold Qe5
 refine w_lv λx0 h0=>w_br (λ_=>no) (λ_=>w_lv λx1 h1=>w_br (λ_=>no) (λb1=>w_lv λx2 h2=>w_br (λ_=>no) (λb2=>w_lv λx3 h3=>w_br (λ_=>no) (λb3=>w_lv λx4 h4=>w_br (λ_=>no) (λb4=>w_br (λ_=>no) (λb5=>?_))))))
 have b1:x1=true:=by simpa using b1
 have b2:x2=true:=by simpa using b2
 have b3:x3=true:=by simpa using b3
 have b4:=oN b4
 have b5:=oN b5
 rw[hi]at b4 b5
 have ok:Qax i:=⟨yr (h1.symm.trans b1),yr (h2.symm.trans b2),yr (h3.symm.trans b3),λe=>by
  rw[e]at h0
  have h0:x0=8:=h0
  subst h0
  have h4:x4=(0,7):=h4
  subst h4
  simp at b4 b5;omega⟩
 repeat'(first
  |exactλ_=>ok
  |exact no
  |refine w_br (λ_=>?_) (λ_=>?_))
theorem Ziw(w:Int):(Q9z w).w (λr=>r.2=true->Qax r.1):=by
 have no:∀{p:Prop},false=true->p:=λh=>by cases h
 have e:∀x,wrap .i64 (wrap .i32 x)=wrap .i32 x:=λx=>by rw[wrap_i64,wrap_i32];omega
 have ok:∀i,wrap .i64 i.Imm=i.Imm->∀x,x=Q8e i->(!x)=false->true=true->Qax i:=λi hi x hx hb _=>zL hi (hx.symm.trans (by simpa using hb))
 unfold Q9z
 refine w_lv λx0 _=>?_
 have l:∀i,wrap .i64 i.Imm=i.Imm->(Tree.lv (Q8e i) λx=>.br (!x) (.lf ((⟨0,0,0,0,0⟩:Q0f),false)) (.lf (i,true))).w (λr=>r.2=true->Qax r.1):=λi hi=>w_lv λx hx=>w_br (λ_=>no) (λhb=>ok i hi x hx hb)
 refine w_br (λ_=>no) (λ_=>w_br (λ_=>l _ rfl) (λ_=>w_br (λ_=>l _ (e _)) (λ_=>w_br (λ_=>l _ (e _)) (λ_=>l _ (e _)))))
theorem bit_w(b:Bool):U (Qaz b):=by cases b<;>exact⟨by decide,by decide⟩
theorem Zht{a b:Int}(ha:U a)(hb:U b):(Qa0 a b).w (λr=>U r.1/\U r.2):=by
 unfold Qa0
 refine w_br (λ_=>⟨⟨by omega,by omega⟩,ha⟩) (λh=>?_)
 have h:¬b=0:=by simpa using h
 obtain⟨b1,b2⟩:=hb
 have hc:decide (wrap i64 (wrap i32 b)≠0)=true:=dY (by rw[wrap_i64,wrap_i32];omega)
 exact w_cn hc (w_cn hc ⟨Q0p _,Q0p _⟩)
theorem alu_w(op:Int){a b:Int}(ha:U a)(hb:U b):(Qjm op a b).w (λr=>U r.1):=by
 unfold Qjm
 refine w_lv λx0 _=>?_
 repeat'(first
  |exact Q0p _
  |exact Qux ha _
  |exact U_0
  |refine w_br (λ_=>?_) (λ_=>?_)
  |exact Q0c (Zht ha hb) λx hx=>hx.1
  |exact Q0c (Zht ha hb) λx hx=>hx.2
  |exact w_lv λx hx=>(by rw[hx];exact bit_w _))
theorem vr{x:Int}(hx:U x):(Q7h x 8).w U:=by
 unfold Q7h
 have h0:decide (0<=wrap u64 8)=true:=by decide
 refine w_br (λh=>absurd h (by decide)) λ_=>w_br (λh=>absurd h (by decide)) λ_=>w_cn h0 (w_cn (by decide) (w_br (λ_=>w_cn h0 (U_or _ _)) (λ_=>Z7v _ _)))
section
variable {c:Q01} (h:Q2d c) {i:Q0f} (hi:Qax i)
include h hi
theorem yL:(Qc c i).w (λr=>Q2d r.1/\U r.2.Value):=by
 unfold Qc
 refine w_br (λ_=>w_lv λx hx=>⟨hx▸Z18 h _ U_0,U_0⟩) (λ_=>w_br (λ_=>w_lv λx hx=>⟨hx▸xL h,U_0⟩) (λ_=>w_br (λe=>w_cn ?_ (Q0c (Z8o h _ (h.a _)) λx hx=>⟨hx.pcs (Q0p _),U_0⟩)) (λ_=>w_br (λ_=>w_cn (rc hi.a) (Q0c (qah h _ (h.r _)) λx hx=>⟨hx.pcs (Q0p _),U_0⟩)) (λ_=>?_))))
 ·have:=hi.csr (by simpa using e)
  simp[bJ];omega
 ·have k:=h.pcs (Q0p (c.Pc+4))
  repeat'(first
   |exact⟨k,U_0⟩
   |exact⟨k,h.r _⟩
   |refine w_br (λ_=>?_) (λ_=>?_)
   |refine w_cn (rc hi.a) ?_)
theorem xav:(Qhd c i).w Q2d:=by
 unfold Qhd
 exact w_br (λ_=>Q0c (Z8o h _ (Q0p _)) λx hx=>hx.pcs (Q0p _)) (λ_=>w_br (λ_=>w_cn (rc hi.b) (Q0c (Z8o h _ (Q0p _)) λx hx=>hx.pcs (Q0p _))) (λ_=>w_cn (rc hi.a) (w_cn (rc hi.b) (w_lv λx _=>w_br (λ_=>h.pcs (Q0p _)) (λ_=>h.pcs (Q0p _))))))
theorem Zkl{P:Nat}{m:List Int}(hm:Q0s P m):(Q8w c m i).w (λr=>Q2d r.1/\Q0s P r.2):=by
  unfold Q8w
  refine w_cn (rc hi.b) ?_
  have e1:(1:Int)=1\/(1:Int)=4:= .inl rfl
  have e4:(4:Int)=1\/(4:Int)=4:= .inr rfl
  repeat'(first
    |refine w_br (λ_=> ?_) (λ_=> ?_)
    | (refine Q0c (Z7y hm h (Q0p _) e4 _) λx hx=> ?_
       obtain⟨m1,m2,m3⟩:=hx
       refine w_br (λ_=>w_lv λy hy=>⟨hy▸Z18 h _ (Q0p _),m1⟩) (λhb=> ?_)
       have m3:=m3 (by simpa using hb)
       have m4:x.1<4*x.2.2.length:=by rw[m1.len];omega
       clear hb)
    | (refine Q0c (Z7y hm h (Q0p _) e1 _) λx hx=> ?_
       obtain⟨m1,m2,m3⟩:=hx
       refine w_br (λ_=>w_lv λy hy=>⟨hy▸Z18 h _ (Q0p _),m1⟩) (λhb=> ?_)
       have m3:=m3 (by simpa using hb)
       have m4:x.1<4*x.2.2.length:=by rw[m1.len];omega
       clear hb)
    |exact w_cn (rc hi.a) (Q0c (put_w (by assumption) (by assumption) (by assumption) (h.r _)) λy hy=>⟨h.pcs (Q0p _),hy⟩)
    |(refine Q0c (Ze3 (by assumption) (by assumption) e4) λy hy=> ?_)
    |(refine Q0c (Ze3 (by assumption) (by assumption) e1) λy hy=> ?_)
    |exact Q0c (vr (by assumption)) λz hz=>Q0c (Z8o h _ hz) λu hu=>⟨hu.pcs (Q0p _),by assumption⟩
    |exact Q0c (Z8o h _ (by assumption)) λu hu=>⟨hu.pcs (Q0p _),by assumption⟩)
end
theorem do_w{c:Q01}(h:Q2d c){P:Nat}{m:List Int}(hm:Q0s P m):(Qma c m).w (λr=>Q2d r.1/\U r.2.1.Value/\Q0s P r.2.2):=by
 unfold Qma
 refine Q0c (Z7y hm h h.pc (.inr rfl) 1) λx0 hx=>?_
 obtain⟨m1,m2,m3⟩:=hx
 refine w_br (λ_=>w_lv λy hy=>⟨hy▸Z18 h _ h.pc,U_0,m1⟩) (λhb=>?_)
 refine Q0c (Ze3 m1 m2 (.inr rfl)) λx2 h2=>Zj2 (Ziw _) λx3 h3=>w_br (λ_=>w_lv λy hy=>⟨hy▸Z18 h _ h2,U_0,m1⟩) (λb3=>?_)
 have hi:=h3 (by simpa using b3)
 refine w_lv λx5 _=>?_
 repeat'(first
  |refine w_br (λ_=>?_) (λ_=>?_)
  |exact w_lv λy hy=>⟨hy▸Z18 h _ h2,U_0,m1⟩
  |exact Q0c (yL h hi) λy hy=>⟨hy.1,hy.2,m1⟩
  |exact Q0c (xav h hi) λy hy=>⟨hy,U_0,m1⟩
  |exact Q0c (Zkl h hi m1) λy hy=>⟨hy.1,U_0,hy.2⟩
  |exact Q0c (Z8o h _ (Q0p _)) λy hy=>⟨hy.pcs (Q0p _),U_0,m1⟩
  |refine w_cn (rc hi.c) ?_
  |refine w_cn (rc hi.b) ?_
  |exact Q0c (alu_w _ (h.r _) (h.r _)) λy hy=>Q0c (Z8o h _ hy) λz hz=>⟨hz.pcs (Q0p _),U_0,m1⟩
  |exact Q0c (alu_w _ (h.r _) (Q0p _)) λy hy=>Q0c (Z8o h _ hy) λz hz=>⟨hz.pcs (Q0p _),U_0,m1⟩)
theorem and1{q:Int}(h:U q):iand .u32 q 1=q%2:=by
 obtain⟨h1,h2⟩:=h
 unfold iand
 rw[wrap_u32]
 have e1:(dS 32 q).toNat=q.toNat:=by rw[BitVec.toNat_ofInt];omega
 have e2:(dS 32 1).toNat=1:=by decide
 have:(dS u32.bits q&&&dS u32.bits 1).toNat=q.toNat%2:=by
  show(dS 32 q&&&dS 32 1).toNat=_
  rw[dV,e1,e2,Nat.and_one_is_mod]
 rw[this];omega
theorem Zdw(b:Bool)(n:Int):(Qgn b n).w (λ_=>True):=by
 unfold Qgn
 exact w_br (λ_=>w_cn (dY (by rw[wrap_u64];omega)) trivial) (λ_=>trivial)
theorem zah(m:Q00):(Qec m).w (λ_=>True):=by
 unfold Qec
 exact w_lv λ_ _=>Q0c (Zdw _ _) λ_ _=>w_lv λ_ _=>Q0c (Zdw _ _) λ_ _=>w_lv λ_ _=>Q0c (Zdw _ _) λ_ _=>w_lv λ_ _=>Q0c (Zdw _ _) λ_ _=>w_lv λ_ _=>Q0c (Zdw _ _) λ_ _=>trivial
theorem Za7(m:Q00):(Q8j m).w U:=by
 unfold Q8j
 exact Q0c (zah m) λ_ _=>Z7v _ _
theorem qS(m:Q00):(Qdi m).w (λ_=>True):=by
 unfold Qdi
 exact w_br (λ_=>Q0c (Za7 m) λ_ _=>trivial) (λ_=>trivial)
theorem xah(m:Q00):(Q8z m).w (λ_=>True):=by
 unfold Q8z
 exact w_lv λ_ _=>w_br (λ_=>trivial) (λ_=>w_br (λ_=>trivial) (λ_=>Q0c (qS m) λ_ _=>w_br (λ_=>trivial) (λ_=>trivial)))
theorem Qrn{m:Q00}(h:Q2d m.B2):(Q4t m).w Q2d:=by
 unfold Q4t
 refine Q0c (Za7 m) λx0 hx=>w_br (λ_=>h) (λ_=>w_br (λ_=>h) (λhb=>?_))
 have hb:x0≠0:=by simpa using hb
 have sh:∀z:Int,0<=z->z<=31->ishr .u32 x0 (wrap .u64 z)=x0/2^z.toNat:=λz h1 h2=>by
  unfold ishr
  have e:min (wrap .u64 z).toNat u32.bits=z.toNat:=by
   show min (wrap .u64 z).toNat 32=z.toNat
   rw[wrap_u64];omega
  rw[e,dK _ (dL (dJ (by decide)))]
 refine w_lp (inv:=λz=>0<=z/\z<=31/\x0/2^z.toNat≠0) (μ:=Qcq m) ⟨by omega,by omega,by simpa using hb⟩ (cL _) (λz hz=>?_)
 obtain⟨z1,z2,z3⟩:=hz
 refine w_cn (dY (by rw[wrap_u64];omega)) (w_br (λe=>w_nx ?_) (λ_=>w_lv λy hy=>hy▸Z18 h _ U_0))
 have e:=eq_of_beq e
 have hq:=Qux hx (wrap .u64 z)
 rw[and1 hq,sh z z1 z2]at e
 rw[sh z z1 z2]at hq
 have hlt:x0/2^z.toNat/2≠0:=by omega
 have z4:z<=30:=by
  rcases Int.lt_or_le z 31 with h|h
  ·omega
  ·have:z=31:=by omega
   subst this
   have:=hx.2
   have:=hx.1
   simp at z3 e hlt
   omega
 show(0<=i64.wrap (z+1)/\i64.wrap (z+1)<=31/\x0/2^(i64.wrap (z+1)).toNat≠0)/\(32-i64.wrap (z+1)).toNat<(32-z).toNat
 have ew:i64.wrap (z+1)=z+1:=by rw[wrap_i64];omega
 rw[ew]
 refine⟨⟨by omega,by omega,?_⟩,by omega⟩
 have et:(z+1).toNat=z.toNat+1:=by omega
 rw[et,Int.pow_succ,<-Int.ediv_ediv_of_nonneg (dL (dJ (by decide)))]
 exact hlt
theorem qai{P:Nat}{m:Q00}(h:Q2d m.B2)(hm:Q0s P m.Mem):(Qeo m).w (λ_=>True):=by
 unfold Qeo
 refine Q0c (Qrn h) λx0 hx=>w_br (λ_=>trivial) (λ_=>Q0c (Ze3 hm hx.pc (.inr rfl)) λx1 _=>w_lv λx2 _=>?_)
 exact w_br (λ_=>w_br (λ_=>w_br (λ_=>trivial) (λ_=>trivial)) (λ_=>trivial)) (λ_=>trivial)
theorem Qgc(l:List Int):(bytesOf l).length=l.length:=by simp[bytesOf]
theorem Qo0(l:List UInt8):(Qat l).length=l.length:=by simp[Qat]
theorem low_w(x:Int):(Qg6 x 4).w (λr=>r.length=4):=by
 unfold Qg6
 refine w_lp (inv:=λz=>0<=z.1/\z.1<=4/\(z.2.length:Int)=z.1) (μ:=Qe3 x 4) ⟨by omega,by omega,rfl⟩ (cL _) (λz hz=>?_)
 obtain⟨z1,z2,z3⟩:=hz
 refine w_br (λh=>w_cn (dY (by rw[wrap_u64];omega)) (w_cn (dY (by omega)) (w_nx ?_))) (λh=>?_)
 ·have h:=oY h
  show(0<=i64.wrap (z.1+1)/\i64.wrap (z.1+1)<=4/\((z.2++[_]).length:Int)=i64.wrap (z.1+1))/\(4-i64.wrap (z.1+1)).toNat<(4-z.1).toNat
  have ew:i64.wrap (z.1+1)=z.1+1:=by rw[wrap_i64];omega
  rw[ew]
  refine⟨⟨by omega,by omega,by simp;omega⟩,by omega⟩
 ·have h:=oN h
  show(bytesOf z.2).length=4
  rw[Qgc];omega
theorem xS{P:Nat}{m:List Int}(hm:Q0s P m)(frame:Int):(Q8t m frame).w (λr=>0<=frame->frame<P->r.1.length=128):=by
 have hp:=Qdy hm
 have hl:=hm.len
 have h2:=hm.p2
 unfold Q8t
 refine w_br (λh=>λh0 _=>by have:=oY h;omega) (λh=>w_lv λx0 hx=>w_br (λh1=>λ_ h2=>by have:=oY h1;rw[hx,hp]at this;omega) (λh1=>?_))
 have h:=oN h
 have h1:=oN h1
 rw[hx,hp]at h1
 refine w_lp (inv:=λz=>0<=z.1/\z.1<=32/\(z.2.length:Int)=4*z.1) (μ:=Qi6 m frame) ⟨by omega,by omega,rfl⟩ (cL _) (λz hz=>?_)
 obtain⟨z1,z2,z3⟩:=hz
 refine w_br (λhb=>?_) (λhb=>?_)
 ·have hb:=oY hb
  have e:wrap i64 (wrap i64 (frame*32)+z.1)=frame*32+z.1:=by rw[wrap_i64,wrap_i64];omega
  refine w_cn (by rw[e];simp[bJ];omega) (w_an (show(4:Int)<=1000000000000 by decide) (Zj2 (low_w _) λx1 h4=>w_cn (dY (by rw[Qo0,h4];omega)) (w_nx ?_)))
  show(0<=i64.wrap (z.1+1)/\i64.wrap (z.1+1)<=32/\((z.2++Qat x1).length:Int)=4*i64.wrap (z.1+1))/\(32-i64.wrap (z.1+1)).toNat<(32-z.1).toNat
  have ew:i64.wrap (z.1+1)=z.1+1:=by rw[wrap_i64];omega
  rw[ew,lA,Qo0,h4]
  exact⟨⟨by omega,by omega,by omega⟩,by omega⟩
 ·have hb:=oN hb
  intro _ _
  show(bytesOf z.2).length=128
  rw[Qgc];omega
theorem qt{P:Nat}{m:List Int}(hm:Q0s P m){d:Q0d}(hd:Q5u d)(port:Int){v:Int}(hv:U v)(at0:Int):(Q8k d m port v at0).w (λr=>Q5u r.1/\r.2.length<=1):=by
 have k:∀st,Q5u {Blocks:=d.Blocks,B8:=d.B8,Frame:=d.Frame,B7:=st,D6:=d.D6,B4:=d.B4,B1:=d.B1,C0:=d.C0}:=λst=>⟨hd.block,hd.frame,hd.opBlock,hd.opFrame⟩
 have k2:∀c o,Q5u {Blocks:=d.Blocks,B8:=d.B8,Frame:=d.Frame,B7:=1,D6:=c,B4:=d.B8,B1:=d.Frame,C0:=o}:=λc o=>⟨hd.block,hd.frame,hd.block,hd.frame⟩
 have k3:Q5u {Blocks:=d.Blocks,B8:=v,Frame:=d.Frame,B7:=d.B7,D6:=d.D6,B4:=d.B4,B1:=d.B1,C0:=d.C0}:=⟨hv,hd.frame,hd.opBlock,hd.opFrame⟩
 have k4:Q5u {Blocks:=d.Blocks,B8:=d.B8,Frame:=v,B7:=d.B7,D6:=d.D6,B4:=d.B4,B1:=d.B1,C0:=d.C0}:=⟨hd.block,hv,hd.opBlock,hd.opFrame⟩
 unfold Q8k
 repeat'(first
  |refine w_br (λ_=>?_) (λ_=>?_)
  |exact Q0c (xS hm _) λ_ _=>w_lv λ_ _=>⟨k2 _ _,aO _⟩
  |refine w_lv (λ_ _=>?_)
  |refine w_lf ?_)
 all_goals(first
  |exact⟨hd,aT _⟩
  |exact⟨k _,aT _⟩
  |exact⟨k2 _ _,aO _⟩
  |exact⟨k3,aT _⟩
  |exact⟨k4,aT _⟩)
theorem vL{P:Nat}{m:List Int}(hm:Q0s P m){n:Q0w}(hn:Qco n)(port:Int){v:Int}(hv:U v)(at0:Int):(Q9q n m port v at0).w (λr=>Qco r.1/\r.2.length<=1):=by
 have k1:Qco {Frame:=v,D8:=n.D8,C3:=n.C3,B6:=n.B6,B5:=n.B5,E0:=n.E0}:=⟨hv,hn.len,hn.buffer,hn.got⟩
 have k2:Qco {Frame:=n.Frame,D8:=v,C3:=n.C3,B6:=n.B6,B5:=n.B5,E0:=n.E0}:=⟨hn.frame,hv,hn.buffer,hn.got⟩
 have k3:Qco {Frame:=n.Frame,D8:=n.D8,C3:=n.C3,B6:=n.B6,B5:=false,E0:=0}:=⟨hn.frame,hn.len,hn.buffer,U_0⟩
 have k4:∀p r,Qco {Frame:=n.Frame,D8:=n.D8,C3:=p,B6:=n.Frame,B5:=r,E0:=n.E0}:=λp r=>⟨hn.frame,hn.len,hn.frame,hn.got⟩
 have send:∀K:List UInt8×Bool->Tree (Q0w×List Q0b),Q2b m n.Frame=true->(∀x:List UInt8×Bool,x.1.length=128->(K x).w (λr=>Qco r.1/\r.2.length<=1))->(Tree.an (Qfs m (wrap .i64 n.Frame)) (.lv (Qgv m (wrap .i64 n.Frame)) K)).w (λr=>Qco r.1/\r.2.length<=1):=λK hp hK=>by
  rw[Ql2 hm hn.frame]at hp
  have hp:=oY hp
  obtain⟨f1,f2⟩:=hn.frame
  have ew:i64.wrap n.Frame=n.Frame:=by rw[wrap_i64];omega
  exact Q0c (xS hm _) λx hx=>hK x (hx (by rw[ew];exact f1) (by rw[ew];exact hp))
 unfold Q9q
 repeat'(first
  |refine w_br (λ_=>?_) (λ_=>?_)
  |refine send _ (by simp_all) (λx hx=>w_cn (by simp_all;exact hn.len.1) ?_)
  |refine w_lv (λ_ _=>?_)
  |refine w_lf ?_)
 all_goals(first
  |exact⟨hn,aT _⟩
  |exact⟨hn,aO _⟩
  |exact⟨k1,aT _⟩
  |exact⟨k2,aT _⟩
  |exact⟨k3,aT _⟩
  |exact⟨k4 _ _,aT _⟩)
def okB(b:Q06):Prop:=U b.C4/\U b.B9
theorem qaw{P:Nat}{m:List Int}(hm:Q0s P m){b:Q06}(hb:okB b)(port:Int){v:Int}(hv:U v):(Q4z b m port v).w (λr=>okB r.1/\Q0s P r.2):=by
 have hv0:decide (0<=v)=true:=dY hv.1
 have h2:=hm.p2
 have rest:(Tree.br (port==11) (.br (decide (v<32)) (.cn (decide (0<=v)) (.lf (({C4:=b.C4,B9:=Q7k .u32 b.B9 (ishl .u32 1 v)}:Q06),m))) (.lf (b,m))) (.lf (b,m))).w (λr=>okB r.1/\Q0s P r.2):=
  w_br (λ_=>w_br (λ_=>w_cn hv0 ⟨⟨hb.1,Q0p _⟩,hm⟩) (λ_=>⟨hb,hm⟩)) (λ_=>⟨hb,hm⟩)
 unfold Q4z
 refine w_br (λ_=>w_lv λx0 hx=>w_br (λhp=>w_cn hv0 (w_br (λ_=>w_cn hv0 ?_) (λ_=>rest))) (λ_=>rest)) (λ_=>rest)
 have hp:Q2b m v=true:=hx.symm.trans hp
 rw[Ql2 hm hv]at hp
 have hp:=oY hp
 obtain⟨v1,v2⟩:=hv
 refine w_lp (inv:=λz=>0<=z.1/\z.1<=32/\Q0s P z.2) (μ:=Qhy b m port v) ⟨by omega,by omega,hm⟩ (cL _) (λz hz=>?_)
 obtain⟨z1,z2,z3⟩:=hz
 have hl:=z3.len
 refine w_br (λh=>?_) (λ_=>⟨⟨hb.1,Q0p _⟩,z3⟩)
 have h:=oY h
 have e:wrap i64 (wrap i64 (wrap i64 v*32)+z.1)=v*32+z.1:=by rw[wrap_i64,wrap_i64,wrap_i64];omega
 refine w_cn (by rw[e];simp[bJ];omega) (w_nx ?_)
 show(0<=i64.wrap (z.1+1)/\i64.wrap (z.1+1)<=32/\Q0s P (dC _ _ _))/\(32-i64.wrap (z.1+1)).toNat<(32-z.1).toNat
 have ew:i64.wrap (z.1+1)=z.1+1:=by rw[wrap_i64];omega
 rw[ew]
 exact⟨⟨by omega,by omega,⟨by simp[hl],z3.p1,z3.p2,Z2s z3.u U_0 _⟩⟩,by omega⟩
structure okM(P:Nat)(m:Q00):Prop where
 cpu:Q2d m.B2
 mem:Q0s P m.Mem
 disk:Q5u m.A7
 nic:Qco m.C1
 target:okB m.A0
 cnt:0<=m.A3
theorem Zgs(c:Q0e)(port:Int):U (Q6t c port).2:=by
 refine Tree.post (Q3s c port) (W:=λr=>U r.2) ?_
 have u1:U 4294967295:=⟨by omega,by omega⟩
 unfold Q3s
 refine w_br (λ_=>w_br (λ_=>u1) (λh=>w_br (λ_=>w_cn ?_ (w_cn ?_ (Q0p _))) (λ_=>w_br (λ_=>Q0p _) (λ_=>U_0)))) (λh1=>w_br (λh=>(by rw[h1]at h;cases h)) (λ_=>w_br (λ_=>Q0p _) (λ_=>U_0)))
 ·have h:¬(c.C9.length:Int)=0:=by simpa using h
  exact dY ⟨by omega,by omega,by omega⟩
 ·have h:¬(c.C9.length:Int)=0:=by simpa using h
  simp[bJ];omega
theorem zai{n:Q0w}(h:Qco n)(port:Int):U (Qjh n port):=by
 refine Tree.post (Qed n port) (W:=U) ?_
 have u1:U 1:=⟨by omega,by omega⟩
 unfold Qed
 exact w_br (λ_=>h.frame) (λ_=>w_br (λ_=>h.got) (λ_=>w_br (λ_=>w_br (λ_=>w_br (λ_=>Q0p _) (λ_=>u1)) (λ_=>w_br (λ_=>Q0p _) (λ_=>U_0))) (λ_=>U_0)))
theorem qM{d:Q0d}(h:Q5u d)(port:Int):U (Qlb d port):=by
 refine Tree.post (Qfu d port) (W:=U) ?_
 unfold Qfu
 exact w_br (λ_=>h.block) (λ_=>w_br (λ_=>h.frame) (λ_=>w_br (λ_=>Q0p _) (λ_=>U_0)))
theorem xt(t:Q0l):U (Qiv t):=by
 refine Tree.post (Qe0 t) (W:=U) ?_
 unfold Qe0
 exact w_br (λ_=>⟨by omega,by omega⟩) (λ_=>U_0)
theorem Zfb{b:Q06}(h:U b.C4)(port:Int):U (Q6p b port):=by
 refine Tree.post (Q60 b port) (W:=U) ?_
 unfold Q60
 exact w_br (λ_=>h) (λ_=>w_br (λ_=>w_lv λ_ _=>Q0p _) (λ_=>U_0))
structure okR(P:Nat)(r:Q27):Prop where
 m:okM P r.A1
 clock:U r.Clock
structure okL(P:Nat)(r x:Q27):Prop where
 ok:okR P x
 log:x.Log=r.Log
 queue:x.Queue=r.Queue
theorem w0(x:Int):0<=u64.wrap x:=by rw[wrap_u64];omega
section
variable {P:Nat} {r:Q27} (h:okR P r)
include h
end
theorem zaw(c:Q0e)(b:Int):(Qgl c b).w (λ_=>True):=by
 unfold Qgl
 refine w_br (λ_=>trivial) (λh=>w_cn (dY ?_) trivial)
 have h:=oN h
 simp[maxLen];omega
theorem xM{P:Nat}{m:List Int}(hm:Q0s P m){n:Q0w}(hn:Qco n)(frame:List UInt8):(Qa2 n m frame).w (λr=>Qco r.1/\Q0s P r.2.2):=by
 unfold Qa2
 refine w_br (λ_=>⟨hn,hm⟩) (λ_=>w_br (λ_=>⟨hn,hm⟩) (λ_=>w_br (λ_=>⟨hn,hm⟩) (λ_=>w_lv λx0 hx=>w_br (λ_=>⟨hn,hm⟩) (λhb=>?_))))
 have hp:Q2b m n.B6=true:=hx.symm.trans (by simpa using hb)
 rw[Ql2 hm hn.buffer]at hp
 have hp:=oY hp
 obtain⟨b1,b2⟩:=hn.buffer
 have ew:i64.wrap n.B6=n.B6:=by rw[wrap_i64];omega
 exact Q0c (yR hm (frame:=i64.wrap n.B6) (by rw[ew];exact b1) (by rw[ew];exact hp) frame) λx hx=>⟨⟨hn.frame,hn.len,U_0,Q0p _⟩,hx⟩
section
variable {P:Nat} {r:Q27} (h:okR P r)
include h
end
theorem yt(n:Int):(Qer n).w (λe=>U e.N):=by
 have u1:U 1:=⟨by omega,by omega⟩
 have ev40:∀x y,Q6d x (wrap .i64 (1+dA y 40)):=λx y=>by
  show wrap .i64 (1+dA y 40)<=1000000000000
  have h1:=Int.tmod_lt_of_pos y (b:=40) (by decide)
  have h2:=Int.lt_tmod_of_pos y (b:=40) (by decide)
  rw[wrap_i64];omega
 unfold Qer
 refine w_lv λx0 _=>?_
 repeat'(first
  |exact U_0
  |exact u1
  |exact Q0p _
  |exact w_an (show(128:Int)<=1000000000000 by decide) (w_lv λ_ _=>u1)
  |exact w_an (ev40 _ _) (w_lv λ_ _=>U_0)
  |refine w_br (λ_=>?_) (λ_=>?_))

import Derived.Test.YthjfindbamdacaaGreatDoorPostPushesZx
open List renaming set->dC,mem_cons->cO,not_mem_nil->cP
open Nat renaming blt->bJ,beq->bT,lt_succ_self->cL,le_refl->aO,zero_le->aT
open Int renaming pow_pos->dJ,le_of_lt->dL,fdiv_eq_ediv_of_nonneg->dK,tmod->dA,mul_tmod_right->hH,mul_tdiv_cancel_left->hJ,tdiv->eN,tdiv_eq_ediv_of_nonneg->eO,emod_eq_of_lt->dI,lt_of_lt_of_le->hY,le_of_eq->hZ
open BitVec renaming ofInt->dS,toNat_and->dV
set_option maxRecDepth 100000
set_option linter.all false
namespace Go.Proofs.YthjfindbamdacaaGreatDoor
open Go Go.GD
open Go.IntKind(wrap i64 u32 u64 u8 i32 wrap_i64 wrap_u32 wrap_u64 wrap_u8 wrap_i32)
def U(x:Int):Prop:=0<=x/\x<4294967296
theorem Q0l(x:Int):U (u32.wrap x):=by rw[wrap_u32];unfold U;omega
theorem Z7a(x y:Int):U (iand .u32 x y):=Q0l _
theorem U_or(x y:Int):U (ior .u32 x y):=Q0l _
theorem U_0:U 0:=⟨by omega,by omega⟩
theorem Z18{m:List Int}(h:∀w∈m,U w){v:Int}(hv:U v)(i:Nat):∀w∈m.set i v,U w:=by
 intro w hw
 rcases List.mem_or_eq_of_mem_set hw with h1|h1
 ·exact h w h1
 ·rw[h1];exact hv
structure Q0n(P:Nat)(m:List Int):Prop where
 len:m.length=32*P
 p1:0<=P
 p2:P<=32
 u:∀w∈m,U w
structure Q6x(d:Q0a):Prop where
 block:U d.B8
 frame:U d.Frame
 opBlock:U d.B4
 opFrame:U d.B0
structure Qev(n:Q0o):Prop where
 frame:U n.Frame
 len:U n.D8
 buffer:U n.B6
 got:U n.E0
theorem Qh5{l:List Int}(h:∀w∈l,U w)(i:Nat):U (l.getD i 0):=by
 by_cases hi:i<l.length
 ·have:l.getD i 0=l[i]:=by simp[List.getD,hi]
  rw[this];exact h _ (List.getElem_mem hi)
 ·have:l.getD i 0=0:=by simp[List.getD,List.getElem?_eq_none (by omega:l.length<=i)]
  rw[this];exact U_0
structure Q24(c:Q01):Prop where
 x:∀w∈A16.l c.X,U w
 pc:U c.Pc
 csr:∀w∈A8.l c.B3,U w
theorem Zcx{X:A16 Int}(h:∀w∈A16.l X,U w){v:Int}(hv:U v)(i:Nat):∀w∈A16.l (A16.of 0 (dC (A16.l X) i v)),U w:=by
 have hs:=Z18 h hv i
 intro w hw
 simp only[A16.l,A16.of,cO,cP,or_false]at hw
 repeat(first|(rcases hw with rfl|hw;· exact Qh5 hs _)|(subst hw;exact Qh5 hs _))
theorem Z91{X:A8 Int}(h:∀w∈A8.l X,U w){v:Int}(hv:U v)(i:Nat):∀w∈A8.l (A8.of 0 (dC (A8.l X) i v)),U w:=by
 have hs:=Z18 h hv i
 intro w hw
 simp only[A8.l,A8.of,cO,cP,or_false]at hw
 repeat(first|(rcases hw with rfl|hw;· exact Qh5 hs _)|(subst hw;exact Qh5 hs _))
section
variable {c:Q01} (h:Q24 c)
include h
theorem Q24.a(i:Nat):U ((A8.l c.B3).getD i 0):=Qh5 h.csr i
theorem Q24.r(i:Nat):U ((A16.l c.X).getD i 0):=Qh5 h.x i
theorem Q24.a0:U c.B3.a0:=h.a 0
theorem Q24.a1:U c.B3.a1:=h.a 1
theorem Q24.a2:U c.B3.a2:=h.a 2
theorem Q24.a3:U c.B3.a3:=h.a 3
theorem Q24.a4:U c.B3.a4:=h.a 4
theorem Q24.a5:U c.B3.a5:=h.a 5
theorem Q24.a6:U c.B3.a6:=h.a 6
theorem Q24.a7:U c.B3.a7:=h.a 7
theorem Q24.pcs{p:Int}(hp:U p):Q24 {X:=c.X,Pc:=p,B3:=c.B3}:=⟨h.x,hp,h.csr⟩
end
section
variable {α β:Type} {W:β->Prop} {t:Tree α} {Q:α->Prop} {k:α->Tree β}
theorem Q0b(hq:t.w Q)(g:∀x,Q x->(k x).w W):(Tree.an t.p (Tree.lv t.m k)).w W:=⟨(Tree.pp hq).1,λy hy=>g y (by rw[hy];exact(Tree.pp hq).2)⟩
theorem Zfy(hq:t.w Q)(g:∀x,Q x->(k x).w W):(Tree.lv t.m k).w W:=λy hy=>g y (by rw[hy];exact t.post hq)
end
theorem rc{r:Int}(h:0<=r/\r<16):(bJ 0 1&&decide (0<=r/\r<((16:Nat):Int)))=true:=by simp[bJ];omega
theorem Qst{a:Int}(h:U a)(b:Int):U (ishr .u32 a b):=by
 unfold ishr U
 obtain⟨h1,h2⟩:=h
 have hp:(0:Int)<2^(min b.toNat u32.bits):=dJ (by decide)
 have:=Int.fdiv_nonneg h1 (dL hp)
 refine⟨this,?_⟩
 rw[dK _ (dL hp)]
 have h3:=Int.ediv_le_self (2^(min b.toNat u32.bits)) h1
 omega
structure Qaq(i:Q0f):Prop where
 a:0<=i.A/\i.A<16
 b:0<=i.B/\i.B<16
 c:0<=i.C/\i.C<16
 csr:i.Op=58->0<=i.Imm/\i.Imm<8
theorem Qq4{P:Nat}{m:List Int}(h:Q0n P m):Q0m m=P:=by
 obtain⟨h1,h2,h3,_⟩:=h
 simp only[Q0m,Q7n,Tree.m]
 have e:(m.length:Int)=32*P:=by omega
 rw[e]
 have e1:(dA (32*(P:Int)) 32 !=0)=false:=by simp[hH]
 have e2:decide ((32*(P:Int))>1024)=false:=dN (by omega)
 rw[e1,e2]
 simp only[cond_false]
 rw[hJ _ (by decide),wrap_i64];omega
theorem yQ(n:Int):(Qfs n).w (λ_=>True):=by
 unfold Qfs
 exact w_br (λ_=>trivial) (λ_=>w_cn (dY (by rw[wrap_u64];omega)) trivial)
theorem Qt0(w low n:Int):(Qdr w low n).w U:=by
 unfold Qdr
 exact w_br (λ_=>U_0) (λ_=>w_br (λ_=>U_0) (λ_=>w_br (λ_=>U_0) (λ_=>w_cn (dY (by rw[wrap_u64];omega)) (Q0b (yQ n) λ_ _=>Z7a _ _))))
theorem Zhh{w:Int}(hw:U w)(low n v:Int):(Q89 w low n v).w U:=by
 have h0:decide (0<=wrap u64 low)=true:=dY (by rw[wrap_u64];omega)
 unfold Q89
 exact w_br (λ_=>hw) (λ_=>w_br (λ_=>hw) (λ_=>w_br (λ_=>hw) (λ_=>Q0b (yQ n) λ_ _=>w_cn h0 (w_cn h0 (U_or _ _)))))
theorem Qsd{x:Int}(hx:U x)(n:Int):(Q6h x n).w U:=by
 have h0:∀y,decide (0<=wrap u64 y)=true:=λy=>dY (by rw[wrap_u64];omega)
 unfold Q6h
 exact w_br (λ_=>U_0) (λ_=>w_br (λ_=>hx) (λ_=>w_cn (h0 _) (w_cn (h0 _) (Q0l _))))
section
variable {P:Nat} {m:List Int} (h:Q0n P m)
include h
theorem Q8h:Q07 m:=by
 have:=h.len
 have:=h.p2
 show m.length<=35184372088832
 omega
theorem Zac{a:Int}(ha:U a){size:Int}(hs:size=1\/size=4):(Q55 m a size).w (λb=>b=true->a+size<=128*P):=by
 have hp:=Qq4 h
 have h2:=h.p2
 obtain⟨a1,a2⟩:=ha
 have e:decide (wrap u32 size≠0)=true:=by rcases hs with rfl|rfl<;>decide
 have l:∀x,x=Q0m m->decide (wrap u64 (wrap u64 a+wrap u64 size)<=wrap u64 (wrap u64 x*128))=true->a+size<=128*P:=λx hx hd=>by
  rw[hx,hp]at hd
  have:=oY hd
  simp only[wrap_u64]at this
  omega
 unfold Q55
 refine w_br (λ_=>w_br (λ_=>λh=>by cases h) (λ_=>?_)) (λ_=>?_)<;>
 exact w_cn e (w_br (λ_=>λh=>by cases h) (λ_=>w_lv λx hx=>l x hx))
theorem idxP{a:Int}(ha:U a)(hl:a<128*P):(bT 1 1&&bJ 0 1&&decide (0<=wrap u32 (eN a 4)/\wrap u32 (eN a 4)<(m.length:Int)))=true:=by
 obtain⟨a1,a2⟩:=ha
 have e:wrap u32 (eN a 4)=a/4:=by rw[wrap_u32,eO a1];omega
 have:=h.len
 rw[e];simp[bJ];omega
theorem Qp0{a:Int}(ha:U a){size:Int}(hs:size=1\/size=4):(Q94 m a size).w (λr=>U r.1/\(r.2=true->a<128*P)):=by
 unfold Q94
 refine Q0b (Zac h ha hs) λx hx=>w_br (λ_=>⟨U_0,λh=>by cases h⟩) (λhb=>?_)
 have hl:=hx (by simpa using hb)
 have hl:a<128*P:=by omega
 exact w_cn (idxP h ha hl) (w_br (λ_=>Q0b (Qt0 _ _ _) λy hy=>⟨hy,λ_=>hl⟩) (λ_=>⟨Qh5 h.u _,λ_=>hl⟩))
theorem Qwb{a:Int}(ha:U a){size:Int}(hs:size=1\/size=4){v:Int}(hv:U v):(Q7w m a size v).w (λr=>Q0n P r.1):=by
 have st:∀i v,U v->Q0n P (m.set i v):=λi v hv=>⟨by simp[h.len],h.p1,h.p2,Z18 h.u hv i⟩
 have hcl:Q02 m=m:=rfl
 unfold Q7w
 refine w_an (Q8h h) (w_lv λx0 hx0=>?_)
 rw[hcl]at hx0;subst hx0
 refine Q0b (Zac h ha hs) λx hx=>w_br (λ_=>h) (λhb=>?_)
 have hl:=hx (by simpa using hb)
 have hl:a<128*P:=by omega
 exact w_br (λ_=>w_cn (idxP h ha hl) (Q0b (Zhh (Qh5 h.u _) _ _ _) λy hy=>w_cn (idxP h ha hl) (st _ _ hy))) (λ_=>w_cn (idxP h ha hl) (st _ _ hv))
end
theorem Zdu{r:Int}{used:Bool}(h:Q88 r used=true):0<=r/\r<16:=by
 simp only[Q88,Qd0,Tree.m]at h
 cases used
 ·have h:(r==0)=true:=h
  have:=eq_of_beq h;omega
 ·cases h1:decide (r>=0)<;>rw[h1]at h
  ·cases h
  ·have h1:=oY h1
   have h:=oY h
   omega
theorem zq{i:Q0f}(h:Qdi i=true):Qaq i:=by
 have no:false=true->Qaq i:=λh=>by cases h
 refine(Tree.post (Qff i) (W:=λb=>b=true->Qaq i) ?_) h
 unfold Qff
 refine w_lv λx0 h0=>w_br (λ_=>w_lv λx1 h1=>w_br (λb1=>w_lv λx2 h2=>w_br (λb2=>w_lv λx3 h3=>w_br (λb3=>w_br (λb4=>λb5=>?_) (λ_=>no)) (λ_=>no)) (λ_=>no)) (λ_=>no)) (λ_=>no)
 have b4:=oY b4
 have b5:=oY b5
 refine⟨Zdu (h1.symm.trans b1),Zdu (h2.symm.trans b2),Zdu (h3.symm.trans b3),λe=>?_⟩
 rw[e]at h0
 have h0:x0=({a:=true,b:=false,c:=false,low:=0,D1:=7},true):=h0
 subst h0
 simp at b4 b5;omega
theorem Qm2(w:Int):(Qap w).w (λr=>r.2=true->Qaq r.1):=by
 have no:∀{p:Prop},false=true->p:=λh=>by cases h
 have l:∀i,(Tree.lv (Qdi i) λx=>.br (!x) (.lf ((⟨0,0,0,0,0⟩:Q0f),false)) (.lf (i,true))).w (λr=>r.2=true->Qaq r.1):=λi=>w_lv λx hx=>w_br (λ_=>no) (λhb=>λ_=>zq (hx.symm.trans (by simpa using hb)))
 unfold Qap
 exact Q0b (Qt0 _ _ _) λx0 _=>Q0b (Qt0 _ _ _) λx1 _=>Q0b (Qt0 _ _ _) λx2 _=>w_lv λx3 _=>w_br (λ_=>no) (λ_=>Q0b (Qt0 _ _ _) λx4 h4=>w_br (λ_=>l _) (λ_=>w_br (λ_=>Q0b (Qsd h4 _) λx6 _=>l _) (λ_=>l _)))
section
variable {P:Nat} {m:List Int} (h:Q0n P m)
include h
theorem xK{f:Int}(hf:U f):Q37 m f=decide (f<P):=by
 have:=Qq4 h
 obtain⟨h1,h2⟩:=hf
 have h3:=h.p2
 simp only[Q37,Qgb,Tree.m,letv,this]
 congr 1
 rw[wrap_u64,wrap_u64,dI h1 (by omega),dI (by omega) (by omega)]
theorem yq{root va:Int}(hv:U va)(access:Int):(Q93 m root va access).w (λt=>U t.Addr/\U t.D9):=by
 have bad:U (0:Int)/\U (0:Int):=⟨U_0,U_0⟩
 have fr:∀x,(Q7c x).w U:=λx=>by
  unfold Q7c
  exact Q0b (Qt0 _ _ _) λy hy=>hy
 unfold Q93
 exact w_lv λx0 _=>w_br (λ_=>bad) (λ_=>w_br (λ_=>bad) (λ_=>w_lv λx1 _=>w_br (λ_=>bad) (λ_=>Q0b (Qp0 h (Q0l _) (.inr rfl)) λx2 _=>w_br (λ_=>bad) (λ_=>w_lv λx3 _=>w_br (λ_=>bad) (λ_=>Q0b (fr _) λx4 _=>w_lv λx5 _=>w_br (λ_=>bad) (λ_=>Q0b (fr _) λx6 _=>⟨Q0l _,Q0l _⟩))))))
theorem zK{a:Int}(ha:U a)(access:Int):(Q7p m a access).w (Q0n P):=by
 have hcl:Q02 m=m:=rfl
 unfold Q7p
 exact Q0b (Qp0 h ha (.inr rfl)) λx0 _=>w_br (λ_=>w_an (Q8h h) (w_lv λx1 h1=>by rw[h1,hcl];exact h)) (λ_=>w_br (λ_=>Q0b (Qwb h ha (.inr rfl) (U_or _ _)) λx hx=>hx) (λ_=>Q0b (Qwb h ha (.inr rfl) (U_or _ _)) λx hx=>hx))
theorem Qiq{c:Q01}{va:Int}(hv:U va){size:Int}(hs:size=1\/size=4)(access:Int):(Q9l c m va size access).w (λr=>U r.1/\Q0n P r.2.1):=by
 have hcl:Q02 m=m:=rfl
 have e:decide (wrap u32 size≠0)=true:=by rcases hs with rfl|rfl<;>decide
 have cl:∀(K:List Int->Int×List Int×Int),(∀x,x=m->U (K x).1/\Q0n P (K x).2.1)->(Tree.an (Q07 m) (.lv (Q02 m) λx=>.lf (K x))).w (λr=>U r.1/\Q0n P r.2.1):=λK hK=>w_an (Q8h h) (w_lv λx hx=>hK x (hx.trans hcl))
 have z:∀(k:Nat) (x:List Int),x=m->U (0:Int)/\Q0n P x:=λ_ x hx=>⟨U_0,hx▸h⟩
 have v:∀x,x=m->U va/\Q0n P x:=λx hx=>⟨hv,hx▸h⟩
 have main:∀(x0:Int×Bool),(Tree.cn (decide (wrap u32 size≠0)) (.br (dA va (wrap u32 size) !=0) (.an (Q07 m) (.lv (Q02 m) λx3=>.lf ((0:Int),x3,(3:Int)))) (.lv (Qav c) λx4=>.br (!x4) (.br (iand u32 c.B3.a0 4 !=0) (.an (Qbn m c.B3.a6 va access) (.lv (Q2m m c.B3.a6 va access) λx5=>.br (x5.D6 !=0) (.an (Q07 m) (.lv (Q02 m) λx6=>.lf (0,x6,x5.D6))) (.an (Qed m x5.D9 access) (.lv (Q41 m x5.D9 access) λx7=>.lf (x5.Addr,x7,0))))) (.an (Q42 m va size) (.lv (Q2b m va size) λx8=>.br (!x8.2) (.an (Q07 m) (.lv (Q02 m) λx9=>.lf (0,x9,x0.1))) (.an (Q07 m) (.lv (Q02 m) λx10=>.lf (va,x10,0)))))) (.an (Q42 m va size) (.lv (Q2b m va size) λx11=>.br (!x11.2) (.an (Q07 m) (.lv (Q02 m) λx12=>.lf (0,x12,x0.1))) (.an (Q07 m) (.lv (Q02 m) λx13=>.lf (va,x13,0)))))))).w (λr=>U r.1/\Q0n P r.2.1):=λx0=>
  w_cn e (w_br (λ_=>cl _ (z 0)) (λ_=>w_lv λx4 _=>w_br (λ_=>w_br (λ_=>Q0b (yq h hv access) λx5 hx=>w_br (λ_=>cl _ (z 0)) (λ_=>Q0b (zK h hx.2 access) λx7 h7=>⟨hx.1,h7⟩)) (λ_=>Q0b (Qp0 h hv hs) λx8 _=>w_br (λ_=>cl _ (z 0)) (λ_=>cl _ v))) (λ_=>Q0b (Qp0 h hv hs) λx8 _=>w_br (λ_=>cl _ (z 0)) (λ_=>cl _ v))))
 unfold Q9l
 exact w_lv λx0 _=>w_br (λ_=>cl _ (z 0)) (λ_=>w_br (λ_=>w_br (λ_=>cl _ (z 0)) (λ_=>main x0)) (λ_=>main x0))
theorem Qr8{c:Q01}(hc:Q24 c):(Qh0 c m).w (λr=>U r.1/\Q0n P r.2.1):=by
 unfold Qh0
 exact Q0b (Qiq h hc.pc (.inr rfl) 1) λx0 h0=>w_br (λ_=>⟨U_0,h0.2⟩) (λ_=>Q0b (Qp0 h0.2 h0.1 (.inr rfl)) λx1 h1=>⟨h1.1,h0.2⟩)
end
theorem xaa{s a b:Int}:U (Q82 s a b):=by
 refine Tree.post (Qnk s a b) (W:=U) ?_
 unfold Qnk
 exact w_br (λ_=>Q0l _) (λ_=>Q0l _)
section
variable {c:Q01} (h:Q24 c)
include h
theorem Qm8(k:Int){b:Int}(hb:U b):Q24 (Q2x c k b):=by
 refine(Tree.post (Qj8 c k b) (W:=Q24) ?_)
 unfold Qj8
 refine w_lv λ_ _=>w_lv λ_ _=>⟨h.x,h.a1,?_⟩
 intro w hw
 simp only[A8.l,cO,cP,or_false]at hw
 rcases hw with rfl|rfl|rfl|rfl|rfl|rfl|rfl|rfl
 ·exact Q0l _
 ·exact h.a1
 ·exact h.pc
 ·exact Q0l _
 ·exact hb
 ·exact h.a5
 ·exact h.a6
 ·exact h.a7
theorem vq:Q24 (Qch c):=by
 refine(Tree.post (Qdq c) (W:=Q24) ?_)
 unfold Qdq
 refine w_lv λx0 _=>w_lv λx1 h1=>⟨h.x,h.a2,?_⟩
 intro w hw
 simp only[A8.l,cO,cP,or_false]at hw
 rcases hw with rfl|rfl|rfl|rfl|rfl|rfl|rfl|rfl
 ·rw[h1];exact xaa
 ·exact h.a1
 ·exact h.a2
 ·exact h.a3
 ·exact h.a4
 ·exact h.a5
 ·exact h.a6
 ·exact h.a7
theorem Qob{r:Int}(hr:0<=r/\r<16){v:Int}(hv:U v):(Qbb c r v).w Q24:=by
 unfold Qbb
 exact w_br (λ_=>w_cn (rc hr) ⟨Zcx h.x hv _,h.pc,h.csr⟩) (λ_=>h)
theorem Zfu(k:Int){v:Int}(hv:U v):(Qai c k v).w Q24:=by
 have ok:∀i v,U v->Q24 {X:=c.X,Pc:=c.Pc,B3:=A8.of 0 (dC (A8.l c.B3) i v)}:=λi v hv=>⟨h.x,h.pc,Z91 h.csr hv i⟩
 unfold Qai
 repeat'(first
  |exact h
  |exact ok _ _ (Q0l _)
  |exact ok _ _ hv
  |refine w_br (λhk=>?_) (λ_=>?_)
  |refine w_cn (by rw[eq_of_beq (by assumption:(k==_)=true)];decide) ?_)
end
theorem Z9k{a b:Int}(ha:U a)(hb:U b):(Q9i a b).w (λr=>U r.1/\U r.2):=by
 have u1:U 4294967295:=⟨by omega,by omega⟩
 unfold Q9i
 refine w_br (λ_=>⟨u1,ha⟩) (λh=>?_)
 have h:¬b=0:=by simpa using h
 obtain⟨b1,b2⟩:=hb
 have hc:decide (wrap i32 b≠0)=true:=dY (by rw[wrap_i32];omega)
 exact w_br (λ_=>w_br (λ_=>⟨ha,U_0⟩) (λ_=>w_cn hc (w_cn hc ⟨Q0l _,Q0l _⟩))) (λ_=>w_cn hc (w_cn hc ⟨Q0l _,Q0l _⟩))
theorem qab(b:Bool):U (Qlh b):=by cases b<;>exact⟨by decide,by decide⟩
theorem Z2w(op:Int){a b:Int}(ha:U a)(hb:U b):(Qmd op a b).w (λr=>U r.1):=by
 unfold Qmd
 repeat'(first
  |refine w_br (λ_=>?_) (λ_=>?_)
  |exact Q0b (Z9k ha hb) λx hx=>hx.1
  |exact Q0b (Z9k ha hb) λx hx=>hx.2
  |exact w_lv λx hx=>(by rw[hx];exact qab _)
  |refine w_lf ?_)
 all_goals(first
  |exact Q0l _
  |exact Qst ha _
  |exact U_0)
theorem Z69(op:Int):Qe op=1\/Qe op=4:=by
 simp only[Qe,Qol,Tree.m]
 cases op==32<;>cases op==35<;>simp
section
variable {c:Q01} (h:Q24 c) {i:Q0f} (hi:Qaq i)
include h hi
theorem Zin:(Q4m c i).w (λr=>Q24 r.1/\U r.2.Value):=by
 have k:∀{x:Q01} {p:Int},Q24 x->U p->Q24 {X:=x.X,Pc:=p,B3:=x.B3}:=λhx hp=>⟨hx.x,hp,hx.csr⟩
 unfold Q4m
 refine w_cn (rc hi.a) (w_cn (rc hi.b) ?_)
 repeat'(first
  |refine w_br (λ_=>?_) (λ_=>?_)
  |exact Q0b (Qob h hi.a (Q0l _)) λx hx=>⟨k hx (Q0l _),U_0⟩
  |exact w_lv λx _=>w_br (λ_=>⟨k h (Q0l _),U_0⟩) (λ_=>⟨k h (Q0l _),U_0⟩)
  |exact w_lv λx hx=>⟨by rw[hx];exact Qm8 h _ U_0,U_0⟩
  |exact w_lv λx hx=>⟨by rw[hx];exact vq h,U_0⟩
  |exact w_cn (by have:=hi.csr (by simp_all);simp[bJ];omega) (Q0b (Qob h hi.a (h.a _)) λx hx=>⟨k hx (Q0l _),U_0⟩)
  |exact Q0b (Zfu h _ (h.r _)) λx hx=>⟨k hx (Q0l _),U_0⟩
  |refine w_cn (rc hi.c) ?_
  |exact Q0b (Z2w _ (h.r _) (Q0l _)) λy hy=>Q0b (Qob h hi.a hy) λx hx=>⟨k hx (Q0l _),U_0⟩
  |exact Q0b (Z2w _ (h.r _) (h.r _)) λy hy=>Q0b (Qob h hi.a hy) λx hx=>⟨k hx (Q0l _),U_0⟩
  |refine w_lf ?_)
 all_goals(first
  |exact⟨k h (Q0l _),U_0⟩
  |exact⟨k h (Q0l _),h.r _⟩)
theorem Qxm{P:Nat}{m:List Int}(hm:Q0n P m):(Qc5 c m i).w (λr=>Q24 r.1/\Q0n P r.2):=by
 have w:=Z69 i.Op
 unfold Qc5
 refine w_cn (rc hi.b) (w_lv λx0 h0=>?_)
 rw[<-h0]at w
 refine Q0b (Qiq hm (Q0l _) w 2) λx1 h1=>w_br (λ_=>w_lv λy hy=>⟨by rw[hy];exact Qm8 h _ (Q0l _),h1.2⟩) (λ_=>w_lv λx3 h3=>?_)
 rw[h0,<-h3]at w
 exact Q0b (Qp0 h1.2 h1.1 w) λx4 h4=>w_br (λ_=>Q0b (Qsd h4.1 8) λy hy=>Q0b (Qob h hi.a hy) λx hx=>⟨⟨hx.x,Q0l _,hx.csr⟩,h1.2⟩) (λ_=>Q0b (Qob h hi.a h4.1) λx hx=>⟨⟨hx.x,Q0l _,hx.csr⟩,h1.2⟩)
theorem Qv2{P:Nat}{m:List Int}(hm:Q0n P m):(Qal c m i).w (λr=>Q24 r.1/\Q0n P r.2):=by
 have w:=Z69 i.Op
 unfold Qal
 refine w_cn (rc hi.b) (w_lv λx0 h0=>?_)
 rw[<-h0]at w
 refine Q0b (Qiq hm (Q0l _) w 3) λx1 h1=>w_br (λ_=>w_lv λy hy=>⟨by rw[hy];exact Qm8 h _ (Q0l _),h1.2⟩) (λ_=>w_lv λx3 h3=>w_cn (rc hi.a) ?_)
 rw[h0,<-h3]at w
 exact Q0b (Qwb h1.2 h1.1 w (h.r _)) λx hx=>⟨⟨h.x,Q0l _,h.csr⟩,hx⟩
end
theorem zab{c:Q01}(h:Q24 c){P:Nat}{m:List Int}(hm:Q0n P m):(Q9b c m).w (λr=>Q24 r.1/\Q0n P r.2.1/\U r.2.2.Value):=by
 unfold Q9b
 refine Q0b (Qr8 hm h) λx0 h0=>w_br (λ_=>w_lv λy hy=>⟨by rw[hy];exact Qm8 h _ h.pc,h0.2,U_0⟩) (λ_=>Q0b (Qm2 _) λx2 h2=>w_br (λ_=>w_lv λy hy=>⟨by rw[hy];exact Qm8 h _ h0.1,h0.2,U_0⟩) (λhb=>?_))
 have hi:=h2 (by simpa using hb)
 refine w_lv λx4 _=>?_
 repeat'(first
  |refine w_br (λ_=>?_) (λ_=>?_)
  |exact Q0b (Qxm h hi h0.2) λx hx=>⟨hx.1,hx.2,U_0⟩
  |exact Q0b (Qv2 h hi h0.2) λx hx=>⟨hx.1,hx.2,U_0⟩
  |exact Q0b (Zin h hi) λx hx=>⟨hx.1,h0.2,hx.2⟩
  |exact w_lv λy hy=>⟨by rw[hy];exact Qm8 h _ h0.1,h0.2,U_0⟩
  |refine w_lv λ_ _=>?_)
theorem Zfg{a:Int}(h:U a)(k:Nat)(hk:k<=32):0<=ishr .u32 a k/\ishr .u32 a k*2^k<=a:=by
 obtain⟨h1,h2⟩:=h
 unfold ishr
 have e:min (k:Int).toNat u32.bits=k:=by show min (k:Int).toNat 32=k;omega
 have hp:(0:Int)<2^k:=dJ (by decide)
 rw[e,dK _ (dL hp)]
 exact⟨Int.ediv_nonneg h1 (dL hp),Int.ediv_mul_le a (Int.ne_of_gt hp)⟩
theorem Zg0(x:Int):0<=u8.wrap x/\u8.wrap x<256:=by rw[wrap_u8];omega
theorem xab{x:Int}(h:U x):(Q2 x).w (λ_=>True):=by
 have s16:=Zfg h 16 (by omega)
 have s8:=Zfg h 8 (by omega)
 have s24:=Zfg (Qst h 16) 8 (by omega)
 obtain⟨h1,h2⟩:=h
 unfold Q2
 repeat'(first
  |refine w_br (λ_=>?_) (λ_=>?_)
  |refine w_cn (dY ⟨?_,hY (b:=256) ?_ (hZ (by kernel_rfl))⟩) ?_
  |exact trivial
  |refine w_lf ?_)
 all_goals(first
  |trivial
  |exact(Zg0 _).1
  |exact(Zg0 _).2
  |(simp only[decide_eq_true_eq,decide_eq_false_iff_not]at*;simp at s16 s8 s24;omega))
theorem and255(a:Int):iand .u32 a 255<256:=by
 unfold iand
 rw[wrap_u32]
 have:(dS u32.bits a&&&dS u32.bits 255).toNat<=255:=by
  show(dS 32 a&&&dS 32 255).toNat<=255
  rw[dV]
  exact Nat.le_trans Nat.and_le_right (by decide)
 omega
theorem zap{x:Int}(h:U x):(Q32 x).w (λ_=>True):=by
 have s24:=Zfg h 24 (by omega)
 obtain⟨h1,h2⟩:=h
 have i24:ishr .u32 x 24<256:=by simp at s24;omega
 unfold Q32
 repeat'(first
  |refine w_cn (dY ⟨?_,hY (b:=256) ?_ (hZ (by kernel_rfl))⟩) ?_
  |exact trivial
  |refine w_lf ?_)
 all_goals(first
  |trivial
  |exact(Q0l _).1
  |exact s24.1
  |exact i24
  |exact and255 _)
structure okS(P:Nat)(m:Q00):Prop where
 cpu:Q24 m.B2
 mem:Q0n P m.Mem
 disk:Q6x m.B1
 nic:Qev m.C3
 target:U m.A0.C5
 given:U m.A0.B9
theorem Zgi{b:Q06}(h:U b.B9):(Q85 b).w (λ_=>True):=by
 unfold Q85
 exact Q0b (zap h) λ_ _=>trivial
theorem Z8t{m:Q00}(h:U m.A0.B9):(Q5m m).w (λ_=>True):=by
 have b:∀x,(Q5l m.A0 x).w (λ_=>True):=λx=>by
  unfold Q5l
  exact Q0b (xab h) λ_ _=>trivial
 have d:(Q1k m).w (λ_=>True):=by
  unfold Q1k
  exact w_lv λ_ _=>w_lv λ_ _=>w_br (λ_=>w_lv λ_ _=>w_br (λ_=>w_lv λ_ _=>w_br (λ_=>w_lv λ_ _=>w_br (λ_=>Q0b (b _) λ_ _=>trivial) (λ_=>trivial)) (λ_=>trivial)) (λ_=>trivial)) (λ_=>trivial)
 unfold Q5m
 repeat'(first
  |refine w_br (λ_=>?_) (λ_=>?_)
  |exact Q0b d λ_ _=>trivial
  |refine w_lv λ_ _=>?_
  |exact trivial)
theorem Z4m{m:Q00}(h:U m.A0.B9):(Q6g m).w (λ_=>True):=by
 have p:(Q4w m.A0).w (λ_=>True):=by
  unfold Q4w
  exact Q0b (Zgi h) λ_ _=>trivial
 unfold Q6g
 refine w_lv λx0 _=>w_lv λx1 _=>w_lv λx2 _=>w_lv λx3 _=>Q0b p λx4 _=>w_lp (inv:=λz=>0<=z.2/\z.2<=5) (μ:=Qfo m) ⟨by omega,by omega⟩ (cL _) (λz hz=>?_)
 obtain⟨z1,z2⟩:=hz
 have ew:z.2<5->i64.wrap (z.2+1)=z.2+1:=λ_=>by rw[wrap_i64];omega
 refine w_br (λhb=>?_) (λ_=>trivial)
 have hb:=oY hb
 have nx:(0<=i64.wrap (z.2+1)/\i64.wrap (z.2+1)<=5)/\(5-i64.wrap (z.2+1)).toNat<(5-z.2).toNat:=by rw[ew hb];omega
 refine w_cn (by simp;omega) (w_br (λ_=>w_cn (dY z1) (w_nx nx)) (λ_=>w_nx nx))
theorem Z2a{m:Q00}(h:U m.A0.B9):(Q2s m).w U:=by
 unfold Q2s
 exact Q0b (Z4m h) λ_ _=>Z7a _ _
theorem qr{m:Q00}(h:U m.A0.B9):(Q3v m).w (λ_=>True):=by
 have i:(Q4p m).w (λ_=>True):=by
  unfold Q4p
  exact w_br (λ_=>Q0b (Z2a h) λ_ _=>trivial) (λ_=>trivial)
 unfold Q3v
 exact Q0b (Z8t h) λ_ _=>w_br (λ_=>w_br (λ_=>Q0b i λ_ _=>w_br (λ_=>trivial) (λ_=>trivial)) (λ_=>trivial)) (λ_=>trivial)
theorem Qd8{P:Nat}{m:List Int}(h:Q0n P m):Q3r m=P:=by
 obtain⟨h1,h2,h3,_⟩:=h
 simp only[Q3r,Qlz,Tree.m]
 have e:(m.length:Int)=32*P:=by omega
 rw[e]
 have e1:(dA (32*(P:Int)) 32 !=0)=false:=by simp[hH]
 have e2:decide ((32*(P:Int))>1024)=false:=dN (by omega)
 rw[e1,e2]
 simp only[cond_false]
 rw[hJ _ (by decide),wrap_i64];omega
theorem Qjw{P:Nat}{m:List Int}(h:Q0n P m){f:Int}(hf:U f):Q1y m f=decide (f<P):=by
 have:=Qd8 h
 obtain⟨h1,h2⟩:=hf
 have h3:=h.p2
 simp only[Q1y,Qgx,Tree.m,letv,this]
 congr 1
 rw[wrap_u64,wrap_u64,dI h1 (by omega),dI (by omega) (by omega)]
theorem xap{P:Nat}{m:List Int}(h:Q0n P m):(Qcp m).w (λr=>r=m):=by
 obtain⟨h1,h2,h3,_⟩:=h
 unfold Qcp
 refine w_cn ?_ ?_
 ·simp[bJ,D.plain];omega
 ·show _=_
  simp
theorem put_w{P:Nat}{m:List Int}(h:Q0n P m){addr size v:Int}(ha:U addr)(hl:addr<4*m.length)(hv:U v):(Qcc m addr size v).w (Q0n P):=by
 obtain⟨h1,h2,h3,h4⟩:=h
 obtain⟨a1,a2⟩:=ha
 have e:wrap u32 (eN addr 4)=addr/4:=by rw[wrap_u32,eO a1];omega
 have hc:(bT 1 1&&bJ 0 1&&decide (0<=wrap u32 (eN addr 4)/\wrap u32 (eN addr 4)<(m.length:Int)))=true:=by
  rw[e];simp[bJ];omega
 have h0:∀x,decide (0<=wrap u32 x)=true:=λx=>dY (Q0l x).1
 have hs:∀i v,U v->Q0n P (m.set i v):=λi v hv=>⟨by simp[h1],h2,h3,Z18 h4 hv i⟩
 unfold Qcc
 exact w_br (λ_=>w_cn hc (hs _ _ hv)) (λ_=>w_cn hc (w_cn (h0 _) (w_cn (h0 _) (w_cn hc (hs _ _ (U_or _ _))))))
theorem vQ{P:Nat}{m:List Int}(h:Q0n P m){frame:Int}(f0:0<=frame)(f1:frame<P)(s:List UInt8):(Q8w m frame s).w (Q0n P):=by
 unfold Q8w
 have h3:=h.p2
 refine w_lp (inv:=λz=>0<=z.1/\z.1<=128/\Q0n P z.2) (μ:=Qgn m frame s) ⟨by omega,by omega,h⟩ (cL _) (λv0 hv0=>?_)
 obtain⟨i0,i1,hm⟩:=hv0
 refine w_br (λh1=>w_br (λh2=>w_cn ?_ ?_) (λ_=>hm)) (λ_=>hm)
 ·have:=oY h1
  simp[bJ];omega
 ·have h2:=oY h2
  have e:wrap u32 (wrap i64 (wrap i64 (frame*128)+v0.1))=frame*128+v0.1:=by
   rw[wrap_u32,wrap_i64,wrap_i64];omega
  rw[e]
  obtain⟨g1,g2⟩:=Tree.pp (put_w hm (size:=1) (addr:=frame*128+v0.1) ⟨by omega,by omega⟩ (by rw[hm.len];omega) (Q0l (UInt8.toNat (s.getD v0.1.toNat 0))))
  refine w_an g1 (w_lv λx0 hx0=>?_)
  rw[hx0]
  have ew:i64.wrap (v0.1+1)=v0.1+1:=by rw[wrap_i64];omega
  refine w_nx ?_
  show(0<=i64.wrap (v0.1+1)/\i64.wrap (v0.1+1)<=128/\Q0n P _)/\(128-i64.wrap (v0.1+1)).toNat<(128-v0.1).toNat
  rw[ew]
  exact⟨⟨by omega,by omega,g2⟩,by omega⟩
theorem yK{P:Nat}{m:List Int}(h:Q0n P m){d:Q0a}(hd:Q6x d)(e:Q0s):(Q98 d m e).w (λr=>Q6x r.1/\Q0n P r.2.2):=by
 have fl:Q1y m d.B0=true->(Q8w m (i64.wrap d.B0) e.C8).w (Q0n P):=λhp=>by
   rw[Qjw h hd.opFrame]at hp
   have:=oY hp
   have h1:=hd.opFrame.1
   have h3:=h.p2
   have ew:i64.wrap d.B0=d.B0:=by rw[wrap_i64];omega
   rw[ew]
   exact vQ h h1 this _
 have l0:Q6x d/\Q0n P m:=⟨hd,h⟩
 have l1: ∀st,Q6x {Blocks:=d.Blocks,B8:=d.B8,Frame:=d.Frame,B7:=st,D5:=0,B4:=0,B0:=0,C0:=[]}:=λst=>⟨hd.block,hd.frame,U_0,U_0⟩
 unfold Q98
 repeat'(first
   |exact l0
   |exact⟨l1 _,h⟩
   |refine w_br (λ_=> ?_) (λ_=> ?_)
   |refine w_lv (λ_ _=> ?_))
 all_goals(
   first
     | (have hp:Q1y m d.B0=true:=by simp_all
        obtain⟨g1,g2⟩:=Tree.pp (fl hp)
        refine w_an g1 (w_lv λx hx=> ?_)
        rw[hx]
        exact w_br (λ_=>⟨l1 _,g2⟩) (λ_=>⟨l1 _,g2⟩))
     |(exfalso;simp_all;done))
section
variable {c:Q01} (h:Q24 c)
include h
theorem Qy5(k:Int){b:Int}(hb:U b):Q24 (Q2n c k b):=by
 refine(Tree.post (Qh6 c k b) (W:=Q24) ?_)
 unfold Qh6
 refine w_lv λ_ _=>w_lv λ_ _=>⟨h.x,h.a1,?_⟩
 intro w hw
 simp only[A8.l,cO,cP,or_false]at hw
 rcases hw with rfl|rfl|rfl|rfl|rfl|rfl|rfl|rfl
 ·exact U_or _ _
 ·exact h.a1
 ·exact h.pc
 ·exact Q0l _
 ·exact hb
 ·exact h.a5
 ·exact h.a6
 ·exact h.a7
theorem vK:Q24 (Qfg c):=by
 refine(Tree.post (Qb1 c) (W:=Q24) ?_)
 unfold Qb1
 refine w_lv λ_ _=>w_lv λ_ _=>⟨h.x,h.a2,?_⟩
 intro w hw
 simp only[A8.l,cO,cP,or_false]at hw
 rcases hw with rfl|rfl|rfl|rfl|rfl|rfl|rfl|rfl
 ·exact U_or _ _
 ·exact h.a1
 ·exact h.a2
 ·exact h.a3
 ·exact h.a4
 ·exact h.a5
 ·exact h.a6
 ·exact h.a7
theorem Z6j(r:Int){v:Int}(hv:U v):(Qc7 c r v).w Q24:=by
 unfold Qc7
 refine w_br (λh1=>w_br (λh2=>w_cn ?_ ⟨Zcx h.x hv _,h.pc,h.csr⟩) (λ_=>h)) (λ_=>h)
 have h1:=oY h1
 have h2:=oY h2
 simp[bJ];omega
theorem qac(k:Int){v:Int}(hv:U v):(Qaw c k v).w Q24:=by
 have ok:∀i v,U v->Q24 {X:=c.X,Pc:=c.Pc,B3:=A8.of 0 (dC (A8.l c.B3) i v)}:=λi v hv=>⟨h.x,h.pc,Z91 h.csr hv i⟩
 unfold Qaw
 repeat'(first
  |exact h
  |exact ok _ _ (Q0l _)
  |exact ok _ _ hv
  |refine w_br (λhk=>?_) (λ_=>?_)
  |refine w_cn (by rw[eq_of_beq (by assumption:(k==_)=true)];decide) ?_)
end
section
variable {P:Nat} {m:List Int} (h:Q0n P m)
include h
theorem Z6l(a:Int){size:Int}(hs:size=1\/size=4):(Q73 m a size).w (λb=>b=true->a<128*P):=by
 have hp:=Qd8 h
 have h2:=h.p2
 have e:decide (wrap u32 size≠0)=true:=by rcases hs with rfl|rfl<;>decide
 have l:∀x,x=Q3r m->decide (a<wrap u32 (wrap i64 (128*x)))=true->a<128*P:=λx hx hd=>by
  rw[hx,hp,wrap_u32,wrap_i64]at hd
  have:=oY hd
  omega
 unfold Q73
 refine w_br (λ_=>w_br (λ_=>λh=>by cases h) (λ_=>?_)) (λ_=>?_)<;>
 exact w_cn e (w_br (λ_=>w_lv λx hx=>l x hx) (λ_=>λh=>by cases h))
theorem idx{a:Int}(ha:U a)(hl:a<128*P):(bT 1 1&&bJ 0 1&&decide (0<=wrap u32 (eN a 4)/\wrap u32 (eN a 4)<(m.length:Int)))=true:=by
 obtain⟨a1,a2⟩:=ha
 have e:wrap u32 (eN a 4)=a/4:=by rw[wrap_u32,eO a1];omega
 have:=h.len
 rw[e];simp[bJ];omega
theorem Z96{a:Int}(ha:U a){size:Int}(hs:size=1\/size=4):(Q68 m a size).w (λr=>U r.1):=by
 obtain⟨g1,g2⟩:=Tree.pp (Z6l h a hs)
 unfold Q68
 refine w_an g1 (w_lv λx hx=>w_br (λ_=>U_0) (λhb=>?_))
 have hb:x=true:=by simpa using hb
 have hl:=g2 (hx.symm.trans hb)
 refine w_cn (idx h ha hl) (w_br (λ_=>w_cn (dY (Q0l _).1) (Q0l _)) (λ_=>Qh5 h.u _))
theorem qaq{a:Int}(ha:U a)(access:Int):(Qc3 m a access).w (Q0n P):=by
 obtain⟨g1,g2⟩:=Tree.pp (Z6l h a (size:=4) (.inr rfl))
 have hs:∀{m:List Int} i v,Q0n P m->U v->Q0n P (m.set i v):=λi v h hv=>⟨by simp[h.len],h.p1,h.p2,Z18 h.u hv i⟩
 unfold Qc3
 refine w_an g1 (w_lv λx hx=>w_br (λ_=>h) (λhb=>?_))
 have hb:x=true:=by simpa using hb
 have hl:=g2 (hx.symm.trans hb)
 have i0:=idx h ha hl
 have h':=hs (Int.toNat (wrap u32 (eN a 4))) (ior u32 (m.getD (Int.toNat (wrap u32 (eN a 4))) 0) 8) h (U_or _ _)
 have i1:=idx h' ha hl
 exact w_cn i0 (w_cn i0 (w_br (λ_=>w_cn i1 (w_cn i1 (hs _ _ h' (U_or _ _)))) (λ_=>h')))
theorem qR{root va:Int}(hr:U root)(hv:U va)(access:Int):(Q8r m root va access).w (λt=>U t.Addr/\U t.D9/\(t.D6=0->t.Addr<128*P)):=by
 have hp:=Qd8 h
 have h2:=h.p2
 have hlen:=h.len
 obtain⟨r1,r2⟩:=hr
 obtain⟨v1,v2⟩:=hv
 unfold Q8r
 refine w_lv λx0 hx0=>w_lv λx1 hx1=>w_lv λx2 _=>?_
 have hc:x0≠0:=by
  rw[hx0]
  simp only[Q3a,Q7t,Tree.m]
  cases access==1<;>cases access==3<;>simp
 rw[hp]at hx1
 have bad:U (0:Int)/\U (0:Int)/\(x0=0->(0:Int)<128*P):=⟨U_0,U_0,λe=>absurd e hc⟩
 refine w_br (λ_=>bad) (λ_=>w_br (λ_=>bad) (λhva=>w_br (λ_=>bad) (λhro=>?_)))
 have hva:=oN hva
 have hro:=oN hro
 have e1:wrap u32 x1=P:=by rw[hx1,wrap_u32];omega
 rw[e1]at hro
 have e2:wrap u32 (wrap u32 (root*128)+wrap u32 (4*wrap u32 (eN va 128)))=root*128+4*(va/128):=by
  rw[eO v1,wrap_u32,wrap_u32,wrap_u32,wrap_u32];omega
 have hU:U (wrap u32 (wrap u32 (root*128)+wrap u32 (4*wrap u32 (eN va 128)))):=Q0l _
 have ci:=idx h hU (by rw[e2];omega)
 have good:∀w:Int,decide (iand u32 w 255>=wrap u32 x1)=false->(U (wrap u32 (wrap u32 (iand u32 w 255*128)+dA va 128))/\U (wrap u32 (wrap u32 (root*128)+wrap u32 (4*wrap u32 (eN va 128))))/\((0:Int)=0->wrap u32 (wrap u32 (iand u32 w 255*128)+dA va 128)<128*P)):=λw hw=>by
  have hw:=oN hw
  rw[e1]at hw
  have hn:=(Z7a w 255).1
  refine⟨Q0l _,Q0l _,λ_=>?_⟩
  rw[Int.tmod_eq_emod_of_nonneg v1,wrap_u32,wrap_u32]
  generalize iand u32 w 255=q at*
  omega
 refine w_cn ci ?_
 repeat'(first
  |exact bad
  |exact good _ (by assumption)
  |refine w_br (λ_=>?_) (λ_=>?_)
  |refine w_cn ci ?_)
theorem Z7m{c:Q01}(hc:Q24 c){va:Int}(hv:U va){size:Int}(hs:size=1\/size=4)(access:Int):(Q90 c m va size access).w (λr=>Q0n P r.2.2/\U r.1/\(r.2.1=0->r.1<128*P)):=by
 have e:decide (wrap u32 size≠0)=true:=by rcases hs with rfl|rfl<;>decide
 obtain⟨g1,g2⟩:=Tree.pp (Z6l h va hs)
 obtain⟨k1,k2⟩:=Tree.pp (qR h hc.a6 hv access)
 have bad:∀k:Int,k≠0->Q0n P m/\U (0:Int)/\(k=0->(0:Int)<128*P):=λk hk=>⟨h,U_0,λe=>absurd e hk⟩
 have hca:Q3a access≠0:=by
  simp only[Q3a,Q7t,Tree.m]
  cases access==1<;>cases access==3<;>simp
 unfold Q90
 refine w_lv λx0 _=>w_br (λ_=>bad 5 (by decide)) (λ_=>w_br (λh1=>w_br (λh2=>?_) (λ_=>?_)) (λ_=>?_))
 ·exact bad 5 (by decide)
 all_goals(
  refine w_cn e (w_br (λ_=>bad 3 (by decide)) (λ_=>w_lv λx1 _=>w_br (λ_=>w_an g1 (w_lv λx2 hx2=>w_br (λ_=>w_lv λx3 hx3=>bad x3 (by rw[hx3];exact hca)) (λhb=>?_))) (λ_=>w_an k1 (w_lv λx4 hx4=>w_br (λhb=>?_) (λhb=>?_)))))
  ·have hb:x2=true:=by simpa using hb
   exact⟨h,hv,λ_=>g2 (hx2.symm.trans hb)⟩
  ·exact bad _ (by simpa using hb)
  ·obtain⟨t1,t2,t3⟩:=k2
   rw[show(Q8r m c.B3.a6 va access).m=x4 from hx4.symm]at t1 t2 t3
   obtain⟨m1,m2⟩:=Tree.pp (qaq h t2 access)
   refine w_an m1 (w_lv λx5 hx5=>?_)
   exact⟨hx5▸m2,t1,λ_=>t3 (by simpa using hb)⟩)
end
theorem xr{r:Int}(h:Q75 r=true):0<=r/\r<16:=by
 simp only[Q75,Qbu,Tree.m]at h
 cases h1:decide (r>=0)<;>rw[h1]at h
 ·cases h
 ·have h1:=oY h1
  have h:=oY h
  omega
theorem qL{i:Q0f}(hi:wrap .i64 i.Imm=i.Imm)(h:Q7v i=true):Qaq i:=by
 have no:false=true->Qaq i:=λh=>by cases h
 refine(Tree.post (Qd9 i) (W:=λb=>b=true->Qaq i) ?_) h
 unfold Qd9
 refine w_lv λx0 h0=>w_br (λ_=>no) (λ_=>w_lv λx1 h1=>w_br (λ_=>no) (λb1=>w_lv λx2 h2=>w_br (λ_=>no) (λb2=>w_lv λx3 h3=>w_br (λ_=>no) (λb3=>w_lv λx4 h4=>w_br (λ_=>no) (λb4=>w_br (λ_=>no) (λb5=>?_))))))
 have b1:x1=true:=by simpa using b1
 have b2:x2=true:=by simpa using b2
 have b3:x3=true:=by simpa using b3
 have b4:=oN b4
 have b5:=oN b5
 rw[hi]at b4 b5
 have ok:Qaq i:=⟨xr (h1.symm.trans b1),xr (h2.symm.trans b2),xr (h3.symm.trans b3),λe=>by
  rw[e]at h0
  have h0:x0=8:=h0
  subst h0
  have h4:x4=(0,7):=h4
  subst h4
  simp at b4 b5;omega⟩
 repeat'(first
  |exactλ_=>ok
  |exact no
  |refine w_br (λ_=>?_) (λ_=>?_))
theorem Zfb(w:Int):(Q9k w).w (λr=>r.2=true->Qaq r.1):=by
 have no:∀{p:Prop},false=true->p:=λh=>by cases h
 have e:∀x,wrap .i64 (wrap .i32 x)=wrap .i32 x:=λx=>by rw[wrap_i64,wrap_i32];omega
 have ok:∀i,wrap .i64 i.Imm=i.Imm->∀x,x=Q7v i->(!x)=false->true=true->Qaq i:=λi hi x hx hb _=>qL hi (hx.symm.trans (by simpa using hb))
 unfold Q9k
 refine w_lv λx0 _=>?_
 have l:∀i,wrap .i64 i.Imm=i.Imm->(Tree.lv (Q7v i) λx=>.br (!x) (.lf ((⟨0,0,0,0,0⟩:Q0f),false)) (.lf (i,true))).w (λr=>r.2=true->Qaq r.1):=λi hi=>w_lv λx hx=>w_br (λ_=>no) (λhb=>ok i hi x hx hb)
 refine w_br (λ_=>no) (λ_=>w_br (λ_=>l _ rfl) (λ_=>w_br (λ_=>l _ (e _)) (λ_=>w_br (λ_=>l _ (e _)) (λ_=>l _ (e _)))))
theorem bit_w(b:Bool):U (Qa9 b):=by cases b<;>exact⟨by decide,by decide⟩
theorem Zf{a b:Int}(ha:U a)(hb:U b):(Q9g a b).w (λr=>U r.1/\U r.2):=by
 unfold Q9g
 refine w_br (λ_=>⟨⟨by omega,by omega⟩,ha⟩) (λh=>?_)
 have h:¬b=0:=by simpa using h
 obtain⟨b1,b2⟩:=hb
 have hc:decide (wrap i64 (wrap i32 b)≠0)=true:=dY (by rw[wrap_i64,wrap_i32];omega)
 exact w_cn hc (w_cn hc ⟨Q0l _,Q0l _⟩)
theorem alu_w(op:Int){a b:Int}(ha:U a)(hb:U b):(Qj1 op a b).w (λr=>U r.1):=by
 unfold Qj1
 refine w_lv λx0 _=>?_
 repeat'(first
  |exact Q0l _
  |exact Qst ha _
  |exact U_0
  |refine w_br (λ_=>?_) (λ_=>?_)
  |exact Q0b (Zf ha hb) λx hx=>hx.1
  |exact Q0b (Zf ha hb) λx hx=>hx.2
  |exact w_lv λx hx=>(by rw[hx];exact bit_w _))
theorem zr{x:Int}(hx:U x):(Q6f x 8).w U:=by
 unfold Q6f
 have h0:decide (0<=wrap u64 8)=true:=by decide
 refine w_br (λh=>absurd h (by decide)) λ_=>w_br (λh=>absurd h (by decide)) λ_=>w_cn h0 (w_cn (by decide) (w_br (λ_=>w_cn h0 (U_or _ _)) (λ_=>Z7a _ _)))
section
variable {c:Q01} (h:Q24 c) {i:Q0f} (hi:Qaq i)
include h hi
theorem xL:(Qbs c i).w (λr=>Q24 r.1/\U r.2.Value):=by
 unfold Qbs
 refine w_br (λ_=>w_lv λx hx=>⟨hx▸Qy5 h _ U_0,U_0⟩) (λ_=>w_br (λ_=>w_lv λx hx=>⟨hx▸vK h,U_0⟩) (λ_=>w_br (λe=>w_cn ?_ (Q0b (Z6j h _ (h.a _)) λx hx=>⟨hx.pcs (Q0l _),U_0⟩)) (λ_=>w_br (λ_=>w_cn (rc hi.a) (Q0b (qac h _ (h.r _)) λx hx=>⟨hx.pcs (Q0l _),U_0⟩)) (λ_=>?_))))
 ·have:=hi.csr (by simpa using e)
  simp[bJ];omega
 ·have k:=h.pcs (Q0l (c.Pc+4))
  repeat'(first
   |exact⟨k,U_0⟩
   |exact⟨k,h.r _⟩
   |refine w_br (λ_=>?_) (λ_=>?_)
   |refine w_cn (rc hi.a) ?_)
theorem zaq:(Qfe c i).w Q24:=by
 unfold Qfe
 exact w_br (λ_=>Q0b (Z6j h _ (Q0l _)) λx hx=>hx.pcs (Q0l _)) (λ_=>w_br (λ_=>w_cn (rc hi.b) (Q0b (Z6j h _ (Q0l _)) λx hx=>hx.pcs (Q0l _))) (λ_=>w_cn (rc hi.a) (w_cn (rc hi.b) (w_lv λx _=>w_br (λ_=>h.pcs (Q0l _)) (λ_=>h.pcs (Q0l _))))))
theorem Zh1{P:Nat}{m:List Int}(hm:Q0n P m):(Q8f c m i).w (λr=>Q24 r.1/\Q0n P r.2):=by
  unfold Q8f
  refine w_cn (rc hi.b) ?_
  have e1:(1:Int)=1\/(1:Int)=4:= .inl rfl
  have e4:(4:Int)=1\/(4:Int)=4:= .inr rfl
  repeat'(first
    |refine w_br (λ_=> ?_) (λ_=> ?_)
    | (refine Q0b (Z7m hm h (Q0l _) e4 _) λx hx=> ?_
       obtain⟨m1,m2,m3⟩:=hx
       refine w_br (λ_=>w_lv λy hy=>⟨hy▸Qy5 h _ (Q0l _),m1⟩) (λhb=> ?_)
       have m3:=m3 (by simpa using hb)
       have m4:x.1<4*x.2.2.length:=by rw[m1.len];omega
       clear hb)
    | (refine Q0b (Z7m hm h (Q0l _) e1 _) λx hx=> ?_
       obtain⟨m1,m2,m3⟩:=hx
       refine w_br (λ_=>w_lv λy hy=>⟨hy▸Qy5 h _ (Q0l _),m1⟩) (λhb=> ?_)
       have m3:=m3 (by simpa using hb)
       have m4:x.1<4*x.2.2.length:=by rw[m1.len];omega
       clear hb)
    |exact w_cn (rc hi.a) (Q0b (put_w (by assumption) (by assumption) (by assumption) (h.r _)) λy hy=>⟨h.pcs (Q0l _),hy⟩)
    |(refine Q0b (Z96 (by assumption) (by assumption) e4) λy hy=> ?_)
    |(refine Q0b (Z96 (by assumption) (by assumption) e1) λy hy=> ?_)
    |exact Q0b (zr (by assumption)) λz hz=>Q0b (Z6j h _ hz) λu hu=>⟨hu.pcs (Q0l _),by assumption⟩
    |exact Q0b (Z6j h _ (by assumption)) λu hu=>⟨hu.pcs (Q0l _),by assumption⟩)
end
theorem do_w{c:Q01}(h:Q24 c){P:Nat}{m:List Int}(hm:Q0n P m):(Qln c m).w (λr=>Q24 r.1/\U r.2.1.Value/\Q0n P r.2.2):=by
 unfold Qln
 refine Q0b (Z7m hm h h.pc (.inr rfl) 1) λx0 hx=>?_
 obtain⟨m1,m2,m3⟩:=hx
 refine w_br (λ_=>w_lv λy hy=>⟨hy▸Qy5 h _ h.pc,U_0,m1⟩) (λhb=>?_)
 refine Q0b (Z96 m1 m2 (.inr rfl)) λx2 h2=>Zfy (Zfb _) λx3 h3=>w_br (λ_=>w_lv λy hy=>⟨hy▸Qy5 h _ h2,U_0,m1⟩) (λb3=>?_)
 have hi:=h3 (by simpa using b3)
 refine w_lv λx5 _=>?_
 repeat'(first
  |refine w_br (λ_=>?_) (λ_=>?_)
  |exact w_lv λy hy=>⟨hy▸Qy5 h _ h2,U_0,m1⟩
  |exact Q0b (xL h hi) λy hy=>⟨hy.1,hy.2,m1⟩
  |exact Q0b (zaq h hi) λy hy=>⟨hy,U_0,m1⟩
  |exact Q0b (Zh1 h hi m1) λy hy=>⟨hy.1,U_0,hy.2⟩
  |exact Q0b (Z6j h _ (Q0l _)) λy hy=>⟨hy.pcs (Q0l _),U_0,m1⟩
  |refine w_cn (rc hi.c) ?_
  |refine w_cn (rc hi.b) ?_
  |exact Q0b (alu_w _ (h.r _) (h.r _)) λy hy=>Q0b (Z6j h _ hy) λz hz=>⟨hz.pcs (Q0l _),U_0,m1⟩
  |exact Q0b (alu_w _ (h.r _) (Q0l _)) λy hy=>Q0b (Z6j h _ hy) λz hz=>⟨hz.pcs (Q0l _),U_0,m1⟩)
theorem and1{q:Int}(h:U q):iand .u32 q 1=q%2:=by
 obtain⟨h1,h2⟩:=h
 unfold iand
 rw[wrap_u32]
 have e1:(dS 32 q).toNat=q.toNat:=by rw[BitVec.toNat_ofInt];omega
 have e2:(dS 32 1).toNat=1:=by decide
 have:(dS u32.bits q&&&dS u32.bits 1).toNat=q.toNat%2:=by
  show(dS 32 q&&&dS 32 1).toNat=_
  rw[dV,e1,e2,Nat.and_one_is_mod]
 rw[this];omega
theorem Z8y(b:Bool)(n:Int):(Qga b n).w (λ_=>True):=by
 unfold Qga
 exact w_br (λ_=>w_cn (dY (by rw[wrap_u64];omega)) trivial) (λ_=>trivial)
theorem zac(m:Q00):(Qdb m).w (λ_=>True):=by
 unfold Qdb
 exact w_lv λ_ _=>Q0b (Z8y _ _) λ_ _=>w_lv λ_ _=>Q0b (Z8y _ _) λ_ _=>w_lv λ_ _=>Q0b (Z8y _ _) λ_ _=>w_lv λ_ _=>Q0b (Z8y _ _) λ_ _=>w_lv λ_ _=>Q0b (Z8y _ _) λ_ _=>trivial
theorem Z90(m:Q00):(Q7x m).w U:=by
 unfold Q7x
 exact Q0b (zac m) λ_ _=>Z7a _ _
theorem xaq(m:Q00):(Qco m).w (λ_=>True):=by
 unfold Qco
 exact w_br (λ_=>Q0b (Z90 m) λ_ _=>trivial) (λ_=>trivial)
theorem Qqk{m:Q00}(h:Q24 m.B2):(Q4a m).w Q24:=by
 unfold Q4a
 refine Q0b (Z90 m) λx0 hx=>w_br (λ_=>h) (λ_=>w_br (λ_=>h) (λhb=>?_))
 have hb:x0≠0:=by simpa using hb
 have sh:∀z:Int,0<=z->z<=31->ishr .u32 x0 (wrap .u64 z)=x0/2^z.toNat:=λz h1 h2=>by
  unfold ishr
  have e:min (wrap .u64 z).toNat u32.bits=z.toNat:=by
   show min (wrap .u64 z).toNat 32=z.toNat
   rw[wrap_u64];omega
  rw[e,dK _ (dL (dJ (by decide)))]
 refine w_lp (inv:=λz=>0<=z/\z<=31/\x0/2^z.toNat≠0) (μ:=Qc0 m) ⟨by omega,by omega,by simpa using hb⟩ (cL _) (λz hz=>?_)
 obtain⟨z1,z2,z3⟩:=hz
 refine w_cn (dY (by rw[wrap_u64];omega)) (w_br (λe=>w_nx ?_) (λ_=>w_lv λy hy=>hy▸Qy5 h _ U_0))
 have e:=eq_of_beq e
 have hq:=Qst hx (wrap .u64 z)
 rw[and1 hq,sh z z1 z2]at e
 rw[sh z z1 z2]at hq
 have hlt:x0/2^z.toNat/2≠0:=by omega
 have z4:z<=30:=by
  rcases Int.lt_or_le z 31 with h|h
  ·omega
  ·have:z=31:=by omega
   subst this
   have:=hx.2
   have:=hx.1
   simp at z3 e hlt
   omega
 show(0<=i64.wrap (z+1)/\i64.wrap (z+1)<=31/\x0/2^(i64.wrap (z+1)).toNat≠0)/\(32-i64.wrap (z+1)).toNat<(32-z).toNat
 have ew:i64.wrap (z+1)=z+1:=by rw[wrap_i64];omega
 rw[ew]
 refine⟨⟨by omega,by omega,?_⟩,by omega⟩
 have et:(z+1).toNat=z.toNat+1:=by omega
 rw[et,Int.pow_succ,<-Int.ediv_ediv_of_nonneg (dL (dJ (by decide)))]
 exact hlt
theorem xac{P:Nat}{m:Q00}(h:Q24 m.B2)(hm:Q0n P m.Mem):(Qdd m).w (λ_=>True):=by
 unfold Qdd
 refine Q0b (Qqk h) λx0 hx=>w_br (λ_=>trivial) (λ_=>Q0b (Z96 hm hx.pc (.inr rfl)) λx1 _=>w_lv λx2 _=>?_)
 exact w_br (λ_=>w_br (λ_=>w_br (λ_=>trivial) (λ_=>trivial)) (λ_=>trivial)) (λ_=>trivial)
theorem Qh4(l:List Int):(bytesOf l).length=l.length:=by simp[bytesOf]
theorem Qn3(l:List UInt8):(Qa2 l).length=l.length:=by simp[Qa2]
theorem low_w(x:Int):(Qfd x 4).w (λr=>r.length=4):=by
 unfold Qfd
 refine w_lp (inv:=λz=>0<=z.1/\z.1<=4/\(z.2.length:Int)=z.1) (μ:=Qd7 x 4) ⟨by omega,by omega,rfl⟩ (cL _) (λz hz=>?_)
 obtain⟨z1,z2,z3⟩:=hz
 refine w_br (λh=>w_cn (dY (by rw[wrap_u64];omega)) (w_cn (dY (by omega)) (w_nx ?_))) (λh=>?_)
 ·have h:=oY h
  show(0<=i64.wrap (z.1+1)/\i64.wrap (z.1+1)<=4/\((z.2++[_]).length:Int)=i64.wrap (z.1+1))/\(4-i64.wrap (z.1+1)).toNat<(4-z.1).toNat
  have ew:i64.wrap (z.1+1)=z.1+1:=by rw[wrap_i64];omega
  rw[ew]
  refine⟨⟨by omega,by omega,by simp;omega⟩,by omega⟩
 ·have h:=oN h
  show(bytesOf z.2).length=4
  rw[Qh4];omega
theorem xR{P:Nat}{m:List Int}(hm:Q0n P m)(frame:Int):(Q8k m frame).w (λr=>0<=frame->frame<P->r.1.length=128):=by
 have hp:=Qd8 hm
 have hl:=hm.len
 have h2:=hm.p2
 unfold Q8k
 refine w_br (λh=>λh0 _=>by have:=oY h;omega) (λh=>w_lv λx0 hx=>w_br (λh1=>λ_ h2=>by have:=oY h1;rw[hx,hp]at this;omega) (λh1=>?_))
 have h:=oN h
 have h1:=oN h1
 rw[hx,hp]at h1
 refine w_lp (inv:=λz=>0<=z.1/\z.1<=32/\(z.2.length:Int)=4*z.1) (μ:=Qfl m frame) ⟨by omega,by omega,rfl⟩ (cL _) (λz hz=>?_)
 obtain⟨z1,z2,z3⟩:=hz
 refine w_br (λhb=>?_) (λhb=>?_)
 ·have hb:=oY hb
  have e:wrap i64 (wrap i64 (frame*32)+z.1)=frame*32+z.1:=by rw[wrap_i64,wrap_i64];omega
  refine w_cn (by rw[e];simp[bJ];omega) (w_an (show(4:Int)<=1000000000000 by decide) (Zfy (low_w _) λx1 h4=>w_cn (dY (by rw[Qn3,h4];omega)) (w_nx ?_)))
  show(0<=i64.wrap (z.1+1)/\i64.wrap (z.1+1)<=32/\((z.2++Qa2 x1).length:Int)=4*i64.wrap (z.1+1))/\(32-i64.wrap (z.1+1)).toNat<(32-z.1).toNat
  have ew:i64.wrap (z.1+1)=z.1+1:=by rw[wrap_i64];omega
  rw[ew,lA,Qn3,h4]
  exact⟨⟨by omega,by omega,by omega⟩,by omega⟩
 ·have hb:=oN hb
  intro _ _
  show(bytesOf z.2).length=128
  rw[Qh4];omega
theorem yr{P:Nat}{m:List Int}(hm:Q0n P m){d:Q0a}(hd:Q6x d)(port:Int){v:Int}(hv:U v)(at0:Int):(Q7u d m port v at0).w (λr=>Q6x r.1/\r.2.length<=1):=by
 have k:∀st,Q6x {Blocks:=d.Blocks,B8:=d.B8,Frame:=d.Frame,B7:=st,D5:=d.D5,B4:=d.B4,B0:=d.B0,C0:=d.C0}:=λst=>⟨hd.block,hd.frame,hd.opBlock,hd.opFrame⟩
 have k2:∀c o,Q6x {Blocks:=d.Blocks,B8:=d.B8,Frame:=d.Frame,B7:=1,D5:=c,B4:=d.B8,B0:=d.Frame,C0:=o}:=λc o=>⟨hd.block,hd.frame,hd.block,hd.frame⟩
 have k3:Q6x {Blocks:=d.Blocks,B8:=v,Frame:=d.Frame,B7:=d.B7,D5:=d.D5,B4:=d.B4,B0:=d.B0,C0:=d.C0}:=⟨hv,hd.frame,hd.opBlock,hd.opFrame⟩
 have k4:Q6x {Blocks:=d.Blocks,B8:=d.B8,Frame:=v,B7:=d.B7,D5:=d.D5,B4:=d.B4,B0:=d.B0,C0:=d.C0}:=⟨hd.block,hv,hd.opBlock,hd.opFrame⟩
 unfold Q7u
 repeat'(first
  |refine w_br (λ_=>?_) (λ_=>?_)
  |exact Q0b (xR hm _) λ_ _=>w_lv λ_ _=>⟨k2 _ _,aO _⟩
  |refine w_lv (λ_ _=>?_)
  |refine w_lf ?_)
 all_goals(first
  |exact⟨hd,aT _⟩
  |exact⟨k _,aT _⟩
  |exact⟨k2 _ _,aO _⟩
  |exact⟨k3,aT _⟩
  |exact⟨k4,aT _⟩)
theorem zL{P:Nat}{m:List Int}(hm:Q0n P m){n:Q0o}(hn:Qev n)(port:Int){v:Int}(hv:U v)(at0:Int):(Q9a n m port v at0).w (λr=>Qev r.1/\r.2.length<=1):=by
 have k1:Qev {Frame:=v,D8:=n.D8,C2:=n.C2,B6:=n.B6,B5:=n.B5,E0:=n.E0}:=⟨hv,hn.len,hn.buffer,hn.got⟩
 have k2:Qev {Frame:=n.Frame,D8:=v,C2:=n.C2,B6:=n.B6,B5:=n.B5,E0:=n.E0}:=⟨hn.frame,hv,hn.buffer,hn.got⟩
 have k3:Qev {Frame:=n.Frame,D8:=n.D8,C2:=n.C2,B6:=n.B6,B5:=false,E0:=0}:=⟨hn.frame,hn.len,hn.buffer,U_0⟩
 have k4:∀p r,Qev {Frame:=n.Frame,D8:=n.D8,C2:=p,B6:=n.Frame,B5:=r,E0:=n.E0}:=λp r=>⟨hn.frame,hn.len,hn.frame,hn.got⟩
 have send:∀K:List UInt8×Bool->Tree (Q0o×List Q0d),Q1y m n.Frame=true->(∀x:List UInt8×Bool,x.1.length=128->(K x).w (λr=>Qev r.1/\r.2.length<=1))->(Tree.an (Qex m (wrap .i64 n.Frame)) (.lv (Qfu m (wrap .i64 n.Frame)) K)).w (λr=>Qev r.1/\r.2.length<=1):=λK hp hK=>by
  rw[Qjw hm hn.frame]at hp
  have hp:=oY hp
  obtain⟨f1,f2⟩:=hn.frame
  have ew:i64.wrap n.Frame=n.Frame:=by rw[wrap_i64];omega
  exact Q0b (xR hm _) λx hx=>hK x (hx (by rw[ew];exact f1) (by rw[ew];exact hp))
 unfold Q9a
 repeat'(first
  |refine w_br (λ_=>?_) (λ_=>?_)
  |refine send _ (by simp_all) (λx hx=>w_cn (by simp_all;exact hn.len.1) ?_)
  |refine w_lv (λ_ _=>?_)
  |refine w_lf ?_)
 all_goals(first
  |exact⟨hn,aT _⟩
  |exact⟨hn,aO _⟩
  |exact⟨k1,aT _⟩
  |exact⟨k2,aT _⟩
  |exact⟨k3,aT _⟩
  |exact⟨k4 _ _,aT _⟩)
def okB(b:Q06):Prop:=U b.C5/\U b.B9
theorem qar{P:Nat}{m:List Int}(hm:Q0n P m){b:Q06}(hb:okB b)(port:Int){v:Int}(hv:U v):(Q4f b m port v).w (λr=>okB r.1/\Q0n P r.2):=by
 have hv0:decide (0<=v)=true:=dY hv.1
 have h2:=hm.p2
 have rest:(Tree.br (port==11) (.br (decide (v<32)) (.cn (decide (0<=v)) (.lf (({C5:=b.C5,B9:=Q7f .u32 b.B9 (ishl .u32 1 v)}:Q06),m))) (.lf (b,m))) (.lf (b,m))).w (λr=>okB r.1/\Q0n P r.2):=
  w_br (λ_=>w_br (λ_=>w_cn hv0 ⟨⟨hb.1,Q0l _⟩,hm⟩) (λ_=>⟨hb,hm⟩)) (λ_=>⟨hb,hm⟩)
 unfold Q4f
 refine w_br (λ_=>w_lv λx0 hx=>w_br (λhp=>w_cn hv0 (w_br (λ_=>w_cn hv0 ?_) (λ_=>rest))) (λ_=>rest)) (λ_=>rest)
 have hp:Q1y m v=true:=hx.symm.trans hp
 rw[Qjw hm hv]at hp
 have hp:=oY hp
 obtain⟨v1,v2⟩:=hv
 refine w_lp (inv:=λz=>0<=z.1/\z.1<=32/\Q0n P z.2) (μ:=Qg0 b m port v) ⟨by omega,by omega,hm⟩ (cL _) (λz hz=>?_)
 obtain⟨z1,z2,z3⟩:=hz
 have hl:=z3.len
 refine w_br (λh=>?_) (λ_=>⟨⟨hb.1,Q0l _⟩,z3⟩)
 have h:=oY h
 have e:wrap i64 (wrap i64 (wrap i64 v*32)+z.1)=v*32+z.1:=by rw[wrap_i64,wrap_i64,wrap_i64];omega
 refine w_cn (by rw[e];simp[bJ];omega) (w_nx ?_)
 show(0<=i64.wrap (z.1+1)/\i64.wrap (z.1+1)<=32/\Q0n P (dC _ _ _))/\(32-i64.wrap (z.1+1)).toNat<(32-z.1).toNat
 have ew:i64.wrap (z.1+1)=z.1+1:=by rw[wrap_i64];omega
 rw[ew]
 exact⟨⟨by omega,by omega,⟨by simp[hl],z3.p1,z3.p2,Z18 z3.u U_0 _⟩⟩,by omega⟩
structure okM(P:Nat)(m:Q00):Prop where
 cpu:Q24 m.B2
 mem:Q0n P m.Mem
 disk:Q6x m.B1
 nic:Qev m.C3
 target:okB m.A0
 cnt:0<=m.A4
theorem Ze8(c:Q0c)(port:Int):U (Q64 c port).2:=by
 refine Tree.post (Q3c c port) (W:=λr=>U r.2) ?_
 have u1:U 4294967295:=⟨by omega,by omega⟩
 unfold Q3c
 refine w_br (λ_=>w_br (λ_=>u1) (λh=>w_br (λ_=>w_cn ?_ (w_cn ?_ (Q0l _))) (λ_=>w_br (λ_=>Q0l _) (λ_=>U_0)))) (λh1=>w_br (λh=>(by rw[h1]at h;cases h)) (λ_=>w_br (λ_=>Q0l _) (λ_=>U_0)))
 ·have h:¬(c.C9.length:Int)=0:=by simpa using h
  exact dY ⟨by omega,by omega,by omega⟩
 ·have h:¬(c.C9.length:Int)=0:=by simpa using h
  simp[bJ];omega
theorem qad{n:Q0o}(h:Qev n)(port:Int):U (Qik n port):=by
 refine Tree.post (Qdj n port) (W:=U) ?_
 have u1:U 1:=⟨by omega,by omega⟩
 unfold Qdj
 exact w_br (λ_=>h.frame) (λ_=>w_br (λ_=>h.got) (λ_=>w_br (λ_=>w_br (λ_=>w_br (λ_=>Q0l _) (λ_=>u1)) (λ_=>w_br (λ_=>Q0l _) (λ_=>U_0))) (λ_=>U_0)))
theorem yL{d:Q0a}(h:Q6x d)(port:Int):U (Qjh d port):=by
 refine Tree.post (Qey d port) (W:=U) ?_
 unfold Qey
 exact w_br (λ_=>h.block) (λ_=>w_br (λ_=>h.frame) (λ_=>w_br (λ_=>Q0l _) (λ_=>U_0)))
theorem vr(t:Q0j):U (Qhk t):=by
 refine Tree.post (Qd2 t) (W:=U) ?_
 unfold Qd2
 exact w_br (λ_=>⟨by omega,by omega⟩) (λ_=>U_0)
theorem Zc7{b:Q06}(h:U b.C5)(port:Int):U (Q65 b port):=by
 refine Tree.post (Q5f b port) (W:=U) ?_
 unfold Q5f
 exact w_br (λ_=>h) (λ_=>w_br (λ_=>w_lv λ_ _=>Q0l _) (λ_=>U_0))
structure okR(P:Nat)(r:Q1u):Prop where
 m:okM P r.A1
 clock:U r.Clock
structure okL(P:Nat)(r x:Q1u):Prop where
 ok:okR P x
 log:x.Log=r.Log
 queue:x.Queue=r.Queue
theorem w0(x:Int):0<=u64.wrap x:=by rw[wrap_u64];omega
section
variable {P:Nat} {r:Q1u} (h:okR P r)
include h
end
theorem zar(c:Q0c)(b:Int):(Qh3 c b).w (λ_=>True):=by
 unfold Qh3
 refine w_br (λ_=>trivial) (λh=>w_cn (dY ?_) trivial)
 have h:=oN h
 simp[maxLen];omega
theorem vL{P:Nat}{m:List Int}(hm:Q0n P m){n:Q0o}(hn:Qev n)(frame:List UInt8):(Q9d n m frame).w (λr=>Qev r.1/\Q0n P r.2.2):=by
 unfold Q9d
 refine w_br (λ_=>⟨hn,hm⟩) (λ_=>w_br (λ_=>⟨hn,hm⟩) (λ_=>w_br (λ_=>⟨hn,hm⟩) (λ_=>w_lv λx0 hx=>w_br (λ_=>⟨hn,hm⟩) (λhb=>?_))))
 have hp:Q1y m n.B6=true:=hx.symm.trans (by simpa using hb)
 rw[Qjw hm hn.buffer]at hp
 have hp:=oY hp
 obtain⟨b1,b2⟩:=hn.buffer
 have ew:i64.wrap n.B6=n.B6:=by rw[wrap_i64];omega
 exact Q0b (vQ hm (frame:=i64.wrap n.B6) (by rw[ew];exact b1) (by rw[ew];exact hp) frame) λx hx=>⟨⟨hn.frame,hn.len,U_0,Q0l _⟩,hx⟩
section
variable {P:Nat} {r:Q1u} (h:okR P r)
include h

import Derived.Test.YthjfindbamdacaaGreatDoorPostRunsZx
open List renaming set->dC,mem_cons->cO,not_mem_nil->cP
open Nat renaming blt->bJ,beq->bT,lt_succ_self->cL,le_refl->aO,zero_le->aT
open Int renaming pow_pos->dJ,le_of_lt->dL,fdiv_eq_ediv_of_nonneg->dK,tmod->dA,mul_tmod_right->iH,mul_tdiv_cancel_left->iI,tdiv->eN,tdiv_eq_ediv_of_nonneg->eO,emod_eq_of_lt->dI,lt_of_lt_of_le->iJ,le_of_eq->fZ
open BitVec renaming ofInt->dS,toNat_and->dV
set_option maxRecDepth 100000
set_option linter.all false
namespace Go.Proofs.YthjfindbamdacaaGreatDoor
open Go Go.GD
open Go.IntKind(wrap i64 u32 u64 u8 i32 wrap_i64 wrap_u32 wrap_u64 wrap_u8 wrap_i32)
def U(x:Int):Prop:=0<=x/\x<4294967296
theorem Q0s(x:Int):U (u32.wrap x):=by rw[wrap_u32];unfold U;omega
theorem Z9q(x y:Int):U (iand .u32 x y):=Q0s _
theorem U_or(x y:Int):U (ior .u32 x y):=Q0s _
theorem U_0:U 0:=⟨by omega,by omega⟩
theorem Z4k{m:List Int}(h:∀w∈m,U w){v:Int}(hv:U v)(i:Nat):∀w∈m.set i v,U w:=by
 intro w hw
 rcases List.mem_or_eq_of_mem_set hw with h1|h1
 ·exact h w h1
 ·rw[h1];exact hv
structure Q0q(P:Nat)(m:List Int):Prop where
 len:m.length=32*P
 p1:0<=P
 p2:P<=32
 u:∀w∈m,U w
structure Q4t(d:Q0d):Prop where
 block:U d.B8
 frame:U d.Frame
 opBlock:U d.B5
 opFrame:U d.B1
structure Qas(n:Q0u):Prop where
 frame:U n.Frame
 len:U n.D7
 buffer:U n.B6
 got:U n.E0
theorem Qi5{l:List Int}(h:∀w∈l,U w)(i:Nat):U (l.getD i 0):=by
 by_cases hi:i<l.length
 ·have:l.getD i 0=l[i]:=by simp[List.getD,hi]
  rw[this];exact h _ (List.getElem_mem hi)
 ·have:l.getD i 0=0:=by simp[List.getD,List.getElem?_eq_none (by omega:l.length<=i)]
  rw[this];exact U_0
structure Q29(c:Q02):Prop where
 x:∀w∈A16.l c.X,U w
 pc:U c.Pc
 csr:∀w∈A8.l c.B3,U w
theorem Ziy{X:A16 Int}(h:∀w∈A16.l X,U w){v:Int}(hv:U v)(i:Nat):∀w∈A16.l (A16.of 0 (dC (A16.l X) i v)),U w:=by
 have hs:=Z4k h hv i
 intro w hw
 simp only[A16.l,A16.of,cO,cP,or_false]at hw
 repeat(first|(rcases hw with rfl|hw;· exact Qi5 hs _)|(subst hw;exact Qi5 hs _))
theorem Zds{X:A8 Int}(h:∀w∈A8.l X,U w){v:Int}(hv:U v)(i:Nat):∀w∈A8.l (A8.of 0 (dC (A8.l X) i v)),U w:=by
 have hs:=Z4k h hv i
 intro w hw
 simp only[A8.l,A8.of,cO,cP,or_false]at hw
 repeat(first|(rcases hw with rfl|hw;· exact Qi5 hs _)|(subst hw;exact Qi5 hs _))
section
variable {c:Q02} (h:Q29 c)
include h
theorem Q29.a(i:Nat):U ((A8.l c.B3).getD i 0):=Qi5 h.csr i
theorem Q29.r(i:Nat):U ((A16.l c.X).getD i 0):=Qi5 h.x i
theorem Q29.a0:U c.B3.a0:=h.a 0
theorem Q29.a1:U c.B3.a1:=h.a 1
theorem Q29.a2:U c.B3.a2:=h.a 2
theorem Q29.a3:U c.B3.a3:=h.a 3
theorem Q29.a4:U c.B3.a4:=h.a 4
theorem Q29.a5:U c.B3.a5:=h.a 5
theorem Q29.a6:U c.B3.a6:=h.a 6
theorem Q29.a7:U c.B3.a7:=h.a 7
theorem Q29.pcs{p:Int}(hp:U p):Q29 {X:=c.X,Pc:=p,B3:=c.B3}:=⟨h.x,hp,h.csr⟩
end
section
variable {α β:Type} {W:β->Prop} {t:Tree α} {Q:α->Prop} {k:α->Tree β}
theorem Q0e(hq:t.w Q)(g:∀x,Q x->(k x).w W):(Tree.an t.p (Tree.lv t.m k)).w W:=⟨(Tree.pp hq).1,λy hy=>g y (by rw[hy];exact(Tree.pp hq).2)⟩
theorem Zkd(hq:t.w Q)(g:∀x,Q x->(k x).w W):(Tree.lv t.m k).w W:=λy hy=>g y (by rw[hy];exact t.post hq)
end
theorem rc{r:Int}(h:0<=r/\r<16):(bJ 0 1&&decide (0<=r/\r<((16:Nat):Int)))=true:=by simp[bJ];omega
theorem Qvl{a:Int}(h:U a)(b:Int):U (ishr .u32 a b):=by
 unfold ishr U
 obtain⟨h1,h2⟩:=h
 have hp:(0:Int)<2^(min b.toNat u32.bits):=dJ (by decide)
 have:=Int.fdiv_nonneg h1 (dL hp)
 refine⟨this,?_⟩
 rw[dK _ (dL hp)]
 have h3:=Int.ediv_le_self (2^(min b.toNat u32.bits)) h1
 omega
structure Qbq(i:Q0g):Prop where
 a:0<=i.A/\i.A<16
 b:0<=i.B/\i.B<16
 c:0<=i.C/\i.C<16
 csr:i.Op=58->0<=i.Imm/\i.Imm<8
theorem Qku{P:Nat}{m:List Int}(h:Q0q P m):Q1 m=P:=by
 obtain⟨h1,h2,h3,_⟩:=h
 simp only[Q1,Q8z,Tree.m]
 have e:(m.length:Int)=32*P:=by omega
 rw[e]
 have e1:(dA (32*(P:Int)) 32 !=0)=false:=by simp[iH]
 have e2:decide ((32*(P:Int))>1024)=false:=dN (by omega)
 rw[e1,e2]
 simp only[cond_false]
 rw[iI _ (by decide),wrap_i64];omega
theorem yU(n:Int):(Qj0 n).w (λ_=>True):=by
 unfold Qj0
 exact w_br (λ_=>trivial) (λ_=>w_cn (dY (by rw[wrap_u64];omega)) trivial)
theorem Qrm(w low n:Int):(Qfm w low n).w U:=by
 unfold Qfm
 exact w_br (λ_=>U_0) (λ_=>w_br (λ_=>U_0) (λ_=>w_br (λ_=>U_0) (λ_=>w_cn (dY (by rw[wrap_u64];omega)) (Q0e (yU n) λ_ _=>Z9q _ _))))
theorem Zly{w:Int}(hw:U w)(low n v:Int):(Q9s w low n v).w U:=by
 have h0:decide (0<=wrap u64 low)=true:=dY (by rw[wrap_u64];omega)
 unfold Q9s
 exact w_br (λ_=>hw) (λ_=>w_br (λ_=>hw) (λ_=>w_br (λ_=>hw) (λ_=>Q0e (yU n) λ_ _=>w_cn h0 (w_cn h0 (U_or _ _)))))
theorem Qvi{x:Int}(hx:U x)(n:Int):(Q7n x n).w U:=by
 have h0:∀y,decide (0<=wrap u64 y)=true:=λy=>dY (by rw[wrap_u64];omega)
 unfold Q7n
 exact w_br (λ_=>U_0) (λ_=>w_br (λ_=>hx) (λ_=>w_cn (h0 _) (w_cn (h0 _) (Q0s _))))
section
variable {P:Nat} {m:List Int} (h:Q0q P m)
include h
theorem Q9n:Q08 m:=by
 have:=h.len
 have:=h.p2
 show m.length<=35184372088832
 omega
theorem Zc2{a:Int}(ha:U a){size:Int}(hs:size=1\/size=4):(Q6e m a size).w (λb=>b=true->a+size<=128*P):=by
 have hp:=Qku h
 have h2:=h.p2
 obtain⟨a1,a2⟩:=ha
 have e:decide (wrap u32 size≠0)=true:=by rcases hs with rfl|rfl<;>decide
 have l:∀x,x=Q1 m->decide (wrap u64 (wrap u64 a+wrap u64 size)<=wrap u64 (wrap u64 x*128))=true->a+size<=128*P:=λx hx hd=>by
  rw[hx,hp]at hd
  have:=oY hd
  simp only[wrap_u64]at this
  omega
 unfold Q6e
 refine w_br (λ_=>w_br (λ_=>λh=>by cases h) (λ_=>?_)) (λ_=>?_)<;>
 exact w_cn e (w_br (λ_=>λh=>by cases h) (λ_=>w_lv λx hx=>l x hx))
theorem idxP{a:Int}(ha:U a)(hl:a<128*P):(bT 1 1&&bJ 0 1&&decide (0<=wrap u32 (eN a 4)/\wrap u32 (eN a 4)<(m.length:Int)))=true:=by
 obtain⟨a1,a2⟩:=ha
 have e:wrap u32 (eN a 4)=a/4:=by rw[wrap_u32,eO a1];omega
 have:=h.len
 rw[e];simp[bJ];omega
theorem Qrj{a:Int}(ha:U a){size:Int}(hs:size=1\/size=4):(Qaf m a size).w (λr=>U r.1/\(r.2=true->a<128*P)):=by
 unfold Qaf
 refine Q0e (Zc2 h ha hs) λx hx=>w_br (λ_=>⟨U_0,λh=>by cases h⟩) (λhb=>?_)
 have hl:=hx (by simpa using hb)
 have hl:a<128*P:=by omega
 exact w_cn (idxP h ha hl) (w_br (λ_=>Q0e (Qrm _ _ _) λy hy=>⟨hy,λ_=>hl⟩) (λ_=>⟨Qi5 h.u _,λ_=>hl⟩))
theorem Z02{a:Int}(ha:U a){size:Int}(hs:size=1\/size=4){v:Int}(hv:U v):(Q9 m a size v).w (λr=>Q0q P r.1):=by
 have st:∀i v,U v->Q0q P (m.set i v):=λi v hv=>⟨by simp[h.len],h.p1,h.p2,Z4k h.u hv i⟩
 have hcl:Q03 m=m:=rfl
 unfold Q9
 refine w_an (Q9n h) (w_lv λx0 hx0=>?_)
 rw[hcl]at hx0;subst hx0
 refine Q0e (Zc2 h ha hs) λx hx=>w_br (λ_=>h) (λhb=>?_)
 have hl:=hx (by simpa using hb)
 have hl:a<128*P:=by omega
 exact w_br (λ_=>w_cn (idxP h ha hl) (Q0e (Zly (Qi5 h.u _) _ _ _) λy hy=>w_cn (idxP h ha hl) (st _ _ hy))) (λ_=>w_cn (idxP h ha hl) (st _ _ hv))
end
theorem Zi8{r:Int}{used:Bool}(h:Q9g r used=true):0<=r/\r<16:=by
 simp only[Q9g,Qet,Tree.m]at h
 cases used
 ·have h:(r==0)=true:=h
  have:=eq_of_beq h;omega
 ·cases h1:decide (r>=0)<;>rw[h1]at h
  ·cases h
  ·have h1:=oY h1
   have h:=oY h
   omega
theorem vt{i:Q0g}(h:Qf2 i=true):Qbq i:=by
 have no:false=true->Qbq i:=λh=>by cases h
 refine(Tree.post (Qht i) (W:=λb=>b=true->Qbq i) ?_) h
 unfold Qht
 refine w_lv λx0 h0=>w_br (λ_=>w_lv λx1 h1=>w_br (λb1=>w_lv λx2 h2=>w_br (λb2=>w_lv λx3 h3=>w_br (λb3=>w_br (λb4=>λb5=>?_) (λ_=>no)) (λ_=>no)) (λ_=>no)) (λ_=>no)) (λ_=>no)
 have b4:=oY b4
 have b5:=oY b5
 refine⟨Zi8 (h1.symm.trans b1),Zi8 (h2.symm.trans b2),Zi8 (h3.symm.trans b3),λe=>?_⟩
 rw[e]at h0
 have h0:x0=({a:=true,b:=false,c:=false,low:=0,D3:=7},true):=h0
 subst h0
 simp at b4 b5;omega
theorem Qnv(w:Int):(Qch w).w (λr=>r.2=true->Qbq r.1):=by
 have no:∀{p:Prop},false=true->p:=λh=>by cases h
 have l:∀i,(Tree.lv (Qf2 i) λx=>.br (!x) (.lf ((⟨0,0,0,0,0⟩:Q0g),false)) (.lf (i,true))).w (λr=>r.2=true->Qbq r.1):=λi=>w_lv λx hx=>w_br (λ_=>no) (λhb=>λ_=>vt (hx.symm.trans (by simpa using hb)))
 unfold Qch
 exact Q0e (Qrm _ _ _) λx0 _=>Q0e (Qrm _ _ _) λx1 _=>Q0e (Qrm _ _ _) λx2 _=>w_lv λx3 _=>w_br (λ_=>no) (λ_=>Q0e (Qrm _ _ _) λx4 h4=>w_br (λ_=>l _) (λ_=>w_br (λ_=>Q0e (Qvi h4 _) λx6 _=>l _) (λ_=>l _)))
theorem qu(access:Int):(Q17 access).1≠0/\(Q9i access).1≠0:=by
 constructor
 ·simp only[Q17,Qfv,Tree.m]
  cases access==1<;>cases access==2<;>cases access==3<;>simp
 ·simp only[Q9i,Qmh,Tree.m]
  cases access==1<;>cases access==2<;>cases access==3<;>simp
section
variable {P:Nat} {m:List Int} (h:Q0q P m)
include h
theorem Qt1{f:Int}(hf:U f):Q1j m f=decide (f<P):=by
 have:=Qku h
 obtain⟨h1,h2⟩:=hf
 have h3:=h.p2
 simp only[Q1j,Qiy,Tree.m,letv,this]
 congr 1
 rw[wrap_u64,wrap_u64,dI h1 (by omega),dI (by omega) (by omega)]
theorem xu{root va:Int}(hv:U va)(access:Int):(Qac m root va access).w (λt=>U t.Addr/\U t.D9):=by
 have bad:U (0:Int)/\U (0:Int):=⟨U_0,U_0⟩
 have fr:∀x,(Q8k x).w U:=λx=>by
  unfold Q8k
  exact Q0e (Qrm _ _ _) λy hy=>hy
 unfold Qac
 exact w_lv λx0 _=>w_br (λ_=>bad) (λ_=>w_br (λ_=>bad) (λ_=>w_lv λx1 _=>w_br (λ_=>bad) (λ_=>Q0e (Qrj h (Q0s _) (.inr rfl)) λx2 _=>w_br (λ_=>bad) (λ_=>w_lv λx3 _=>w_br (λ_=>bad) (λ_=>Q0e (fr _) λx4 _=>w_lv λx5 _=>w_br (λ_=>bad) (λ_=>Q0e (fr _) λx6 _=>⟨Q0s _,Q0s _⟩))))))
theorem yN{a:Int}(ha:U a)(access:Int):(Q92 m a access).w (Q0q P):=by
 have hcl:Q03 m=m:=rfl
 unfold Q92
 exact Q0e (Qrj h ha (.inr rfl)) λx0 _=>w_br (λ_=>w_an (Q9n h) (w_lv λx1 h1=>by rw[h1,hcl];exact h)) (λ_=>w_br (λ_=>Q0e (Z02 h ha (.inr rfl) (U_or _ _)) λx hx=>hx) (λ_=>Q0e (Z02 h ha (.inr rfl) (U_or _ _)) λx hx=>hx))
theorem Q7t{c:Q02}{va:Int}(hv:U va){size:Int}(hs:size=1\/size=4)(access:Int):(Qaq c m va size access).w (λr=>U r.1/\Q0q P r.2.1):=by
 have hcl:Q03 m=m:=rfl
 have e:decide (wrap u32 size≠0)=true:=by rcases hs with rfl|rfl<;>decide
 have cl:∀(K:List Int->Int×List Int×Int),(∀x,x=m->U (K x).1/\Q0q P (K x).2.1)->(Tree.an (Q08 m) (.lv (Q03 m) λx=>.lf (K x))).w (λr=>U r.1/\Q0q P r.2.1):=λK hK=>w_an (Q9n h) (w_lv λx hx=>hK x (hx.trans hcl))
 have z:∀(k:Nat) (x:List Int),x=m->U (0:Int)/\Q0q P x:=λ_ x hx=>⟨U_0,hx▸h⟩
 have v:∀x,x=m->U va/\Q0q P x:=λx hx=>⟨hv,hx▸h⟩
 have main:∀(x0:Int×Bool),(Tree.cn (decide (wrap u32 size≠0)) (.br (dA va (wrap u32 size) !=0) (.an (Q08 m) (.lv (Q03 m) λx3=>.lf ((0:Int),x3,(3:Int)))) (.lv (Q58 c) λx4=>.br (!x4) (.br (iand u32 c.B3.a0 4 !=0) (.an (Qd4 m c.B3.a6 va access) (.lv (Q0t m c.B3.a6 va access) λx5=>.br (x5.D1 !=0) (.an (Q08 m) (.lv (Q03 m) λx6=>.lf (0,x6,x5.D1))) (.an (Qfy m x5.D9 access) (.lv (Q2n m x5.D9 access) λx7=>.lf (x5.Addr,x7,0))))) (.an (Q4x m va size) (.lv (Q0x m va size) λx8=>.br (!x8.2) (.an (Q08 m) (.lv (Q03 m) λx9=>.lf (0,x9,x0.1))) (.an (Q08 m) (.lv (Q03 m) λx10=>.lf (va,x10,0)))))) (.an (Q4x m va size) (.lv (Q0x m va size) λx11=>.br (!x11.2) (.an (Q08 m) (.lv (Q03 m) λx12=>.lf (0,x12,x0.1))) (.an (Q08 m) (.lv (Q03 m) λx13=>.lf (va,x13,0)))))))).w (λr=>U r.1/\Q0q P r.2.1):=λx0=>
  w_cn e (w_br (λ_=>cl _ (z 0)) (λ_=>w_lv λx4 _=>w_br (λ_=>w_br (λ_=>Q0e (xu h hv access) λx5 hx=>w_br (λ_=>cl _ (z 0)) (λ_=>Q0e (yN h hx.2 access) λx7 h7=>⟨hx.1,h7⟩)) (λ_=>Q0e (Qrj h hv hs) λx8 _=>w_br (λ_=>cl _ (z 0)) (λ_=>cl _ v))) (λ_=>Q0e (Qrj h hv hs) λx8 _=>w_br (λ_=>cl _ (z 0)) (λ_=>cl _ v))))
 unfold Qaq
 exact w_lv λx0 _=>w_br (λ_=>cl _ (z 0)) (λ_=>w_br (λ_=>w_br (λ_=>cl _ (z 0)) (λ_=>main x0)) (λ_=>main x0))
theorem Qcy{c:Q02}(hc:Q29 c):(Qhs c m).w (λr=>U r.1/\Q0q P r.2.1):=by
 unfold Qhs
 exact Q0e (Q7t h hc.pc (.inr rfl) 1) λx0 h0=>w_br (λ_=>⟨U_0,h0.2⟩) (λ_=>Q0e (Qrj h0.2 h0.1 (.inr rfl)) λx1 h1=>⟨h1.1,h0.2⟩)
end
theorem xal{s a b:Int}:U (Q99 s a b):=by
 refine Tree.post (Qpp s a b) (W:=U) ?_
 unfold Qpp
 exact w_br (λ_=>Q0s _) (λ_=>Q0s _)
section
variable {c:Q02} (h:Q29 c)
include h
theorem Qot(k:Int){b:Int}(hb:U b):Q29 (Q3a c k b):=by
 refine(Tree.post (Qkk c k b) (W:=Q29) ?_)
 unfold Qkk
 refine w_lv λ_ _=>w_lv λ_ _=>⟨h.x,h.a1,?_⟩
 intro w hw
 simp only[A8.l,cO,cP,or_false]at hw
 rcases hw with rfl|rfl|rfl|rfl|rfl|rfl|rfl|rfl
 ·exact Q0s _
 ·exact h.a1
 ·exact h.pc
 ·exact Q0s _
 ·exact hb
 ·exact h.a5
 ·exact h.a6
 ·exact h.a7
theorem zu:Q29 (Qel c):=by
 refine(Tree.post (Qfi c) (W:=Q29) ?_)
 unfold Qfi
 refine w_lv λx0 _=>w_lv λx1 h1=>⟨h.x,h.a2,?_⟩
 intro w hw
 simp only[A8.l,cO,cP,or_false]at hw
 rcases hw with rfl|rfl|rfl|rfl|rfl|rfl|rfl|rfl
 ·rw[h1];exact xal
 ·exact h.a1
 ·exact h.a2
 ·exact h.a3
 ·exact h.a4
 ·exact h.a5
 ·exact h.a6
 ·exact h.a7
theorem Qqz{r:Int}(hr:0<=r/\r<16){v:Int}(hv:U v):(Qd9 c r v).w Q29:=by
 unfold Qd9
 exact w_br (λ_=>w_cn (rc hr) ⟨Ziy h.x hv _,h.pc,h.csr⟩) (λ_=>h)
theorem Zky(k:Int){v:Int}(hv:U v):(Qcc c k v).w Q29:=by
 have ok:∀i v,U v->Q29 {X:=c.X,Pc:=c.Pc,B3:=A8.of 0 (dC (A8.l c.B3) i v)}:=λi v hv=>⟨h.x,h.pc,Zds h.csr hv i⟩
 unfold Qcc
 repeat'(first
  |exact h
  |exact ok _ _ (Q0s _)
  |exact ok _ _ hv
  |refine w_br (λhk=>?_) (λ_=>?_)
  |refine w_cn (by rw[eq_of_beq (by assumption:(k==_)=true)];decide) ?_)
end
theorem Zft{a b:Int}(ha:U a)(hb:U b):(Qay a b).w (λr=>U r.1/\U r.2):=by
 have u1:U 4294967295:=⟨by omega,by omega⟩
 unfold Qay
 refine w_br (λ_=>⟨u1,ha⟩) (λh=>?_)
 have h:¬b=0:=by simpa using h
 obtain⟨b1,b2⟩:=hb
 have hc:decide (wrap i32 b≠0)=true:=dY (by rw[wrap_i32];omega)
 exact w_br (λ_=>w_br (λ_=>⟨ha,U_0⟩) (λ_=>w_cn hc (w_cn hc ⟨Q0s _,Q0s _⟩))) (λ_=>w_cn hc (w_cn hc ⟨Q0s _,Q0s _⟩))
theorem qam(b:Bool):U (Qo0 b):=by cases b<;>exact⟨by decide,by decide⟩
theorem Z68(op:Int){a b:Int}(ha:U a)(hb:U b):(Qon op a b).w (λr=>U r.1):=by
 unfold Qon
 repeat'(first
  |refine w_br (λ_=>?_) (λ_=>?_)
  |exact Q0e (Zft ha hb) λx hx=>hx.1
  |exact Q0e (Zft ha hb) λx hx=>hx.2
  |exact w_lv λx hx=>(by rw[hx];exact qam _)
  |refine w_lf ?_)
 all_goals(first
  |exact Q0s _
  |exact Qvl ha _
  |exact U_0)
theorem Z9e(op:Int):Qfc op=1\/Qfc op=4:=by
 simp only[Qfc,Qre,Tree.m]
 cases op==32<;>cases op==35<;>simp
section
variable {c:Q02} (h:Q29 c) {i:Q0g} (hi:Qbq i)
include h hi
theorem Zn9:(Q3u c i).w (λr=>Q29 r.1/\U r.2.Value):=by
 have k:∀{x:Q02} {p:Int},Q29 x->U p->Q29 {X:=x.X,Pc:=p,B3:=x.B3}:=λhx hp=>⟨hx.x,hp,hx.csr⟩
 unfold Q3u
 refine w_cn (rc hi.a) (w_cn (rc hi.b) ?_)
 repeat'(first
  |refine w_br (λ_=>?_) (λ_=>?_)
  |exact Q0e (Qqz h hi.a (Q0s _)) λx hx=>⟨k hx (Q0s _),U_0⟩
  |exact w_lv λx _=>w_br (λ_=>⟨k h (Q0s _),U_0⟩) (λ_=>⟨k h (Q0s _),U_0⟩)
  |exact w_lv λx hx=>⟨by rw[hx];exact Qot h _ U_0,U_0⟩
  |exact w_lv λx hx=>⟨by rw[hx];exact zu h,U_0⟩
  |exact w_cn (by have:=hi.csr (by simp_all);simp[bJ];omega) (Q0e (Qqz h hi.a (h.a _)) λx hx=>⟨k hx (Q0s _),U_0⟩)
  |exact Q0e (Zky h _ (h.r _)) λx hx=>⟨k hx (Q0s _),U_0⟩
  |refine w_cn (rc hi.c) ?_
  |exact Q0e (Z68 _ (h.r _) (Q0s _)) λy hy=>Q0e (Qqz h hi.a hy) λx hx=>⟨k hx (Q0s _),U_0⟩
  |exact Q0e (Z68 _ (h.r _) (h.r _)) λy hy=>Q0e (Qqz h hi.a hy) λx hx=>⟨k hx (Q0s _),U_0⟩
  |refine w_lf ?_)
 all_goals(first
  |exact⟨k h (Q0s _),U_0⟩
  |exact⟨k h (Q0s _),h.r _⟩)
theorem Z2d{P:Nat}{m:List Int}(hm:Q0q P m):(Qec c m i).w (λr=>Q29 r.1/\Q0q P r.2):=by
 have w:=Z9e i.Op
 unfold Qec
 refine w_cn (rc hi.b) (w_lv λx0 h0=>?_)
 rw[<-h0]at w
 refine Q0e (Q7t hm (Q0s _) w 2) λx1 h1=>w_br (λ_=>w_lv λy hy=>⟨by rw[hy];exact Qot h _ (Q0s _),h1.2⟩) (λ_=>w_lv λx3 h3=>?_)
 rw[h0,<-h3]at w
 exact Q0e (Qrj h1.2 h1.1 w) λx4 h4=>w_br (λ_=>Q0e (Qvi h4.1 8) λy hy=>Q0e (Qqz h hi.a hy) λx hx=>⟨⟨hx.x,Q0s _,hx.csr⟩,h1.2⟩) (λ_=>Q0e (Qqz h hi.a h4.1) λx hx=>⟨⟨hx.x,Q0s _,hx.csr⟩,h1.2⟩)
theorem Qy2{P:Nat}{m:List Int}(hm:Q0q P m):(Qc3 c m i).w (λr=>Q29 r.1/\Q0q P r.2):=by
 have w:=Z9e i.Op
 unfold Qc3
 refine w_cn (rc hi.b) (w_lv λx0 h0=>?_)
 rw[<-h0]at w
 refine Q0e (Q7t hm (Q0s _) w 3) λx1 h1=>w_br (λ_=>w_lv λy hy=>⟨by rw[hy];exact Qot h _ (Q0s _),h1.2⟩) (λ_=>w_lv λx3 h3=>w_cn (rc hi.a) ?_)
 rw[h0,<-h3]at w
 exact Q0e (Z02 h1.2 h1.1 w (h.r _)) λx hx=>⟨⟨h.x,Q0s _,h.csr⟩,hx⟩
end
theorem Zgs{c:Q02}(h:Q29 c){P:Nat}{m:List Int}(hm:Q0q P m):(Qad c m).w (λr=>Q29 r.1/\Q0q P r.2.1/\U r.2.2.Value):=by
 unfold Qad
 refine Q0e (Qcy hm h) λx0 h0=>w_br (λ_=>w_lv λy hy=>⟨by rw[hy];exact Qot h _ h.pc,h0.2,U_0⟩) (λ_=>Q0e (Qnv _) λx2 h2=>w_br (λ_=>w_lv λy hy=>⟨by rw[hy];exact Qot h _ h0.1,h0.2,U_0⟩) (λhb=>?_))
 have hi:=h2 (by simpa using hb)
 refine w_lv λx4 _=>?_
 repeat'(first
  |refine w_br (λ_=>?_) (λ_=>?_)
  |exact Q0e (Z2d h hi h0.2) λx hx=>⟨hx.1,hx.2,U_0⟩
  |exact Q0e (Qy2 h hi h0.2) λx hx=>⟨hx.1,hx.2,U_0⟩
  |exact Q0e (Zn9 h hi) λx hx=>⟨hx.1,h0.2,hx.2⟩
  |exact w_lv λy hy=>⟨by rw[hy];exact Qot h _ h0.1,h0.2,U_0⟩
  |refine w_lv λ_ _=>?_)
theorem Zkt{a:Int}(h:U a)(k:Nat)(hk:k<=32):0<=ishr .u32 a k/\ishr .u32 a k*2^k<=a:=by
 obtain⟨h1,h2⟩:=h
 unfold ishr
 have e:min (k:Int).toNat u32.bits=k:=by show min (k:Int).toNat 32=k;omega
 have hp:(0:Int)<2^k:=dJ (by decide)
 rw[e,dK _ (dL hp)]
 exact⟨Int.ediv_nonneg h1 (dL hp),Int.ediv_mul_le a (Int.ne_of_gt hp)⟩
theorem Zl2(x:Int):0<=u8.wrap x/\u8.wrap x<256:=by rw[wrap_u8];omega
theorem zam{x:Int}(h:U x):(Q2i x).w (λ_=>True):=by
 have s16:=Zkt h 16 (by omega)
 have s8:=Zkt h 8 (by omega)
 have s24:=Zkt (Qvl h 16) 8 (by omega)
 obtain⟨h1,h2⟩:=h
 unfold Q2i
 repeat'(first
  |refine w_br (λ_=>?_) (λ_=>?_)
  |refine w_cn (dY ⟨?_,iJ (b:=256) ?_ (fZ (by kernel_rfl))⟩) ?_
  |exact trivial
  |refine w_lf ?_)
 all_goals(first
  |trivial
  |exact(Zl2 _).1
  |exact(Zl2 _).2
  |(simp only[decide_eq_true_eq,decide_eq_false_iff_not]at*;simp at s16 s8 s24;omega))
theorem and255(a:Int):iand .u32 a 255<256:=by
 unfold iand
 rw[wrap_u32]
 have:(dS u32.bits a&&&dS u32.bits 255).toNat<=255:=by
  show(dS 32 a&&&dS 32 255).toNat<=255
  rw[dV]
  exact Nat.le_trans Nat.and_le_right (by decide)
 omega
theorem xay{x:Int}(h:U x):(Q3x x).w (λ_=>True):=by
 have s24:=Zkt h 24 (by omega)
 obtain⟨h1,h2⟩:=h
 have i24:ishr .u32 x 24<256:=by simp at s24;omega
 unfold Q3x
 repeat'(first
  |refine w_cn (dY ⟨?_,iJ (b:=256) ?_ (fZ (by kernel_rfl))⟩) ?_
  |exact trivial
  |refine w_lf ?_)
 all_goals(first
  |trivial
  |exact(Q0s _).1
  |exact s24.1
  |exact i24
  |exact and255 _)
structure okS(P:Nat)(m:Q00):Prop where
 cpu:Q29 m.A4
 mem:Q0q P m.Mem
 disk:Q4t m.B0
 nic:Qas m.C2
 target:U m.A1.C6
 given:U m.A1.C0
theorem Zkm{b:Q06}(h:U b.C0):(Qa6 b).w (λ_=>True):=by
 unfold Qa6
 exact Q0e (xay h) λ_ _=>trivial
theorem Z6d{m:Q00}(h:U m.A1.C0):(Q6w m).w (λ_=>True):=by
 have b:∀x,(Q71 m.A1 x).w (λ_=>True):=λx=>by
  unfold Q71
  exact Q0e (zam h) λ_ _=>trivial
 have d:(Q26 m).w (λ_=>True):=by
  unfold Q26
  exact w_lv λ_ _=>w_lv λ_ _=>w_br (λ_=>w_lv λ_ _=>w_br (λ_=>w_lv λ_ _=>w_br (λ_=>w_lv λ_ _=>w_br (λ_=>Q0e (b _) λ_ _=>trivial) (λ_=>trivial)) (λ_=>trivial)) (λ_=>trivial)) (λ_=>trivial)
 unfold Q6w
 repeat'(first
  |refine w_br (λ_=>?_) (λ_=>?_)
  |exact Q0e d λ_ _=>trivial
  |refine w_lv λ_ _=>?_
  |exact trivial)
theorem Z8z{m:Q00}(h:U m.A1.C0):(Q7w m).w (λ_=>True):=by
 have p:(Q5z m.A1).w (λ_=>True):=by
  unfold Q5z
  exact Q0e (Zkm h) λ_ _=>trivial
 unfold Q7w
 refine w_lv λx0 _=>w_lv λx1 _=>w_lv λx2 _=>w_lv λx3 _=>Q0e p λx4 _=>w_lp (inv:=λz=>0<=z.2/\z.2<=5) (μ:=Qi0 m) ⟨by omega,by omega⟩ (cL _) (λz hz=>?_)
 obtain⟨z1,z2⟩:=hz
 have ew:z.2<5->i64.wrap (z.2+1)=z.2+1:=λ_=>by rw[wrap_i64];omega
 refine w_br (λhb=>?_) (λ_=>trivial)
 have hb:=oY hb
 have nx:(0<=i64.wrap (z.2+1)/\i64.wrap (z.2+1)<=5)/\(5-i64.wrap (z.2+1)).toNat<(5-z.2).toNat:=by rw[ew hb];omega
 refine w_cn (by simp;omega) (w_br (λ_=>w_cn (dY z1) (w_nx nx)) (λ_=>w_nx nx))
theorem Z7n{m:Q00}(h:U m.A1.C0):(Q3p m).w U:=by
 unfold Q3p
 exact Q0e (Z8z h) λ_ _=>Z9q _ _
theorem yu{m:Q00}(h:U m.A1.C0):(Q3r m).w (λ_=>True):=by
 have i:(Q5v m).w (λ_=>True):=by
  unfold Q5v
  exact w_br (λ_=>Q0e (Z7n h) λ_ _=>trivial) (λ_=>trivial)
 unfold Q3r
 exact Q0e (Z6d h) λ_ _=>w_br (λ_=>w_br (λ_=>Q0e i λ_ _=>w_br (λ_=>trivial) (λ_=>trivial)) (λ_=>trivial)) (λ_=>trivial)
theorem Qew{P:Nat}{m:List Int}(h:Q0q P m):Q4p m=P:=by
 obtain⟨h1,h2,h3,_⟩:=h
 simp only[Q4p,Qoq,Tree.m]
 have e:(m.length:Int)=32*P:=by omega
 rw[e]
 have e1:(dA (32*(P:Int)) 32 !=0)=false:=by simp[iH]
 have e2:decide ((32*(P:Int))>1024)=false:=dN (by omega)
 rw[e1,e2]
 simp only[cond_false]
 rw[iI _ (by decide),wrap_i64];omega
theorem Qlr{P:Nat}{m:List Int}(h:Q0q P m){f:Int}(hf:U f):Q2h m f=decide (f<P):=by
 have:=Qew h
 obtain⟨h1,h2⟩:=hf
 have h3:=h.p2
 simp only[Q2h,Qin,Tree.m,letv,this]
 congr 1
 rw[wrap_u64,wrap_u64,dI h1 (by omega),dI (by omega) (by omega)]
theorem qaz{P:Nat}{m:List Int}(h:Q0q P m):(Qa0 m).w (λr=>r=m):=by
 obtain⟨h1,h2,h3,_⟩:=h
 unfold Qa0
 refine w_cn ?_ ?_
 ·simp[bJ,D.plain];omega
 ·show _=_
  simp
theorem put_w{P:Nat}{m:List Int}(h:Q0q P m){addr size v:Int}(ha:U addr)(hl:addr<4*m.length)(hv:U v):(Qdw m addr size v).w (Q0q P):=by
 obtain⟨h1,h2,h3,h4⟩:=h
 obtain⟨a1,a2⟩:=ha
 have e:wrap u32 (eN addr 4)=addr/4:=by rw[wrap_u32,eO a1];omega
 have hc:(bT 1 1&&bJ 0 1&&decide (0<=wrap u32 (eN addr 4)/\wrap u32 (eN addr 4)<(m.length:Int)))=true:=by
  rw[e];simp[bJ];omega
 have h0:∀x,decide (0<=wrap u32 x)=true:=λx=>dY (Q0s x).1
 have hs:∀i v,U v->Q0q P (m.set i v):=λi v hv=>⟨by simp[h1],h2,h3,Z4k h4 hv i⟩
 unfold Qdw
 exact w_br (λ_=>w_cn hc (hs _ _ hv)) (λ_=>w_cn hc (w_cn (h0 _) (w_cn (h0 _) (w_cn hc (hs _ _ (U_or _ _))))))
theorem vU{P:Nat}{m:List Int}(h:Q0q P m){frame:Int}(f0:0<=frame)(f1:frame<P)(s:List UInt8):(Qa3 m frame s).w (Q0q P):=by
 unfold Qa3
 have h3:=h.p2
 refine w_lp (inv:=λz=>0<=z.1/\z.1<=128/\Q0q P z.2) (μ:=Qi m frame s) ⟨by omega,by omega,h⟩ (cL _) (λv0 hv0=>?_)
 obtain⟨i0,i1,hm⟩:=hv0
 refine w_br (λh1=>w_br (λh2=>w_cn ?_ ?_) (λ_=>hm)) (λ_=>hm)
 ·have:=oY h1
  simp[bJ];omega
 ·have h2:=oY h2
  have e:wrap u32 (wrap i64 (wrap i64 (frame*128)+v0.1))=frame*128+v0.1:=by
   rw[wrap_u32,wrap_i64,wrap_i64];omega
  rw[e]
  obtain⟨g1,g2⟩:=Tree.pp (put_w hm (size:=1) (addr:=frame*128+v0.1) ⟨by omega,by omega⟩ (by rw[hm.len];omega) (Q0s (UInt8.toNat (s.getD v0.1.toNat 0))))
  refine w_an g1 (w_lv λx0 hx0=>?_)
  rw[hx0]
  have ew:i64.wrap (v0.1+1)=v0.1+1:=by rw[wrap_i64];omega
  refine w_nx ?_
  show(0<=i64.wrap (v0.1+1)/\i64.wrap (v0.1+1)<=128/\Q0q P _)/\(128-i64.wrap (v0.1+1)).toNat<(128-v0.1).toNat
  rw[ew]
  exact⟨⟨by omega,by omega,g2⟩,by omega⟩
theorem vN{P:Nat}{m:List Int}(h:Q0q P m){d:Q0d}(hd:Q4t d)(e:Q0f):(Qao d m e).w (λr=>Q4t r.1/\Q0q P r.2.2):=by
 have fl:Q2h m d.B1=true->(Qa3 m (i64.wrap d.B1) e.C5).w (Q0q P):=λhp=>by
   rw[Qlr h hd.opFrame]at hp
   have:=oY hp
   have h1:=hd.opFrame.1
   have h3:=h.p2
   have ew:i64.wrap d.B1=d.B1:=by rw[wrap_i64];omega
   rw[ew]
   exact vU h h1 this _
 have l0:Q4t d/\Q0q P m:=⟨hd,h⟩
 have l1: ∀st,Q4t {Blocks:=d.Blocks,B8:=d.B8,Frame:=d.Frame,B9:=st,D5:=0,B5:=0,B1:=0,C1:=[]}:=λst=>⟨hd.block,hd.frame,U_0,U_0⟩
 unfold Qao
 repeat'(first
   |exact l0
   |exact⟨l1 _,h⟩
   |refine w_br (λ_=> ?_) (λ_=> ?_)
   |refine w_lv (λ_ _=> ?_))
 all_goals(
   first
     | (have hp:Q2h m d.B1=true:=by simp_all
        obtain⟨g1,g2⟩:=Tree.pp (fl hp)
        refine w_an g1 (w_lv λx hx=> ?_)
        rw[hx]
        exact w_br (λ_=>⟨l1 _,g2⟩) (λ_=>⟨l1 _,g2⟩))
     |(exfalso;simp_all;done))
section
variable {c:Q02} (h:Q29 c)
include h
theorem Z2t(k:Int){b:Int}(hb:U b):Q29 (Q3d c k b):=by
 refine(Tree.post (Qik c k b) (W:=Q29) ?_)
 unfold Qik
 refine w_lv λ_ _=>w_lv λ_ _=>⟨h.x,h.a1,?_⟩
 intro w hw
 simp only[A8.l,cO,cP,or_false]at hw
 rcases hw with rfl|rfl|rfl|rfl|rfl|rfl|rfl|rfl
 ·exact U_or _ _
 ·exact h.a1
 ·exact h.pc
 ·exact Q0s _
 ·exact hb
 ·exact h.a5
 ·exact h.a6
 ·exact h.a7
theorem qO:Q29 (Qj5 c):=by
 refine(Tree.post (Qcx c) (W:=Q29) ?_)
 unfold Qcx
 refine w_lv λ_ _=>w_lv λ_ _=>⟨h.x,h.a2,?_⟩
 intro w hw
 simp only[A8.l,cO,cP,or_false]at hw
 rcases hw with rfl|rfl|rfl|rfl|rfl|rfl|rfl|rfl
 ·exact U_or _ _
 ·exact h.a1
 ·exact h.a2
 ·exact h.a3
 ·exact h.a4
 ·exact h.a5
 ·exact h.a6
 ·exact h.a7
theorem Z8v(r:Int){v:Int}(hv:U v):(Qe5 c r v).w Q29:=by
 unfold Qe5
 refine w_br (λh1=>w_br (λh2=>w_cn ?_ ⟨Ziy h.x hv _,h.pc,h.csr⟩) (λ_=>h)) (λ_=>h)
 have h1:=oY h1
 have h2:=oY h2
 simp[bJ];omega
theorem xam(k:Int){v:Int}(hv:U v):(Qcd c k v).w Q29:=by
 have ok:∀i v,U v->Q29 {X:=c.X,Pc:=c.Pc,B3:=A8.of 0 (dC (A8.l c.B3) i v)}:=λi v hv=>⟨h.x,h.pc,Zds h.csr hv i⟩
 unfold Qcd
 repeat'(first
  |exact h
  |exact ok _ _ (Q0s _)
  |exact ok _ _ hv
  |refine w_br (λhk=>?_) (λ_=>?_)
  |refine w_cn (by rw[eq_of_beq (by assumption:(k==_)=true)];decide) ?_)
end
section
variable {P:Nat} {m:List Int} (h:Q0q P m)
include h
theorem Zar(a:Int){size:Int}(hs:size=1\/size=4):(Q8g m a size).w (λb=>b=true->a<128*P):=by
 have hp:=Qew h
 have h2:=h.p2
 have e:decide (wrap u32 size≠0)=true:=by rcases hs with rfl|rfl<;>decide
 have l:∀x,x=Q4p m->decide (a<wrap u32 (wrap i64 (128*x)))=true->a<128*P:=λx hx hd=>by
  rw[hx,hp,wrap_u32,wrap_i64]at hd
  have:=oY hd
  omega
 unfold Q8g
 refine w_br (λ_=>w_br (λ_=>λh=>by cases h) (λ_=>?_)) (λ_=>?_)<;>
 exact w_cn e (w_br (λ_=>w_lv λx hx=>l x hx) (λ_=>λh=>by cases h))
theorem idx{a:Int}(ha:U a)(hl:a<128*P):(bT 1 1&&bJ 0 1&&decide (0<=wrap u32 (eN a 4)/\wrap u32 (eN a 4)<(m.length:Int)))=true:=by
 obtain⟨a1,a2⟩:=ha
 have e:wrap u32 (eN a 4)=a/4:=by rw[wrap_u32,eO a1];omega
 have:=h.len
 rw[e];simp[bJ];omega
theorem Zfx{a:Int}(ha:U a){size:Int}(hs:size=1\/size=4):(Q7c m a size).w (λr=>U r.1):=by
 obtain⟨g1,g2⟩:=Tree.pp (Zar h a hs)
 unfold Q7c
 refine w_an g1 (w_lv λx hx=>w_br (λ_=>U_0) (λhb=>?_))
 have hb:x=true:=by simpa using hb
 have hl:=g2 (hx.symm.trans hb)
 refine w_cn (idx h ha hl) (w_br (λ_=>w_cn (dY (Q0s _).1) (Q0s _)) (λ_=>Qi5 h.u _))
theorem zaz{a:Int}(ha:U a)(access:Int):(Qe1 m a access).w (Q0q P):=by
 obtain⟨g1,g2⟩:=Tree.pp (Zar h a (size:=4) (.inr rfl))
 have hs:∀{m:List Int} i v,Q0q P m->U v->Q0q P (m.set i v):=λi v h hv=>⟨by simp[h.len],h.p1,h.p2,Z4k h.u hv i⟩
 unfold Qe1
 refine w_an g1 (w_lv λx hx=>w_br (λ_=>h) (λhb=>?_))
 have hb:x=true:=by simpa using hb
 have hl:=g2 (hx.symm.trans hb)
 have i0:=idx h ha hl
 have h':=hs (Int.toNat (wrap u32 (eN a 4))) (ior u32 (m.getD (Int.toNat (wrap u32 (eN a 4))) 0) 8) h (U_or _ _)
 have i1:=idx h' ha hl
 exact w_cn i0 (w_cn i0 (w_br (λ_=>w_cn i1 (w_cn i1 (hs _ _ h' (U_or _ _)))) (λ_=>h')))
theorem xV{root va:Int}(hr:U root)(hv:U va)(access:Int):(Qaa m root va access).w (λt=>U t.Addr/\U t.D9/\(t.D1=0->t.Addr<128*P)):=by
 have hp:=Qew h
 have h2:=h.p2
 have hlen:=h.len
 obtain⟨r1,r2⟩:=hr
 obtain⟨v1,v2⟩:=hv
 unfold Qaa
 refine w_lv λx0 hx0=>w_lv λx1 hx1=>w_lv λx2 _=>?_
 have hc:x0≠0:=by
  rw[hx0]
  simp only[Q42,Q93,Tree.m]
  cases access==1<;>cases access==3<;>simp
 rw[hp]at hx1
 have bad:U (0:Int)/\U (0:Int)/\(x0=0->(0:Int)<128*P):=⟨U_0,U_0,λe=>absurd e hc⟩
 refine w_br (λ_=>bad) (λ_=>w_br (λ_=>bad) (λhva=>w_br (λ_=>bad) (λhro=>?_)))
 have hva:=oN hva
 have hro:=oN hro
 have e1:wrap u32 x1=P:=by rw[hx1,wrap_u32];omega
 rw[e1]at hro
 have e2:wrap u32 (wrap u32 (root*128)+wrap u32 (4*wrap u32 (eN va 128)))=root*128+4*(va/128):=by
  rw[eO v1,wrap_u32,wrap_u32,wrap_u32,wrap_u32];omega
 have hU:U (wrap u32 (wrap u32 (root*128)+wrap u32 (4*wrap u32 (eN va 128)))):=Q0s _
 have ci:=idx h hU (by rw[e2];omega)
 have good:∀w:Int,decide (iand u32 w 255>=wrap u32 x1)=false->(U (wrap u32 (wrap u32 (iand u32 w 255*128)+dA va 128))/\U (wrap u32 (wrap u32 (root*128)+wrap u32 (4*wrap u32 (eN va 128))))/\((0:Int)=0->wrap u32 (wrap u32 (iand u32 w 255*128)+dA va 128)<128*P)):=λw hw=>by
  have hw:=oN hw
  rw[e1]at hw
  have hn:=(Z9q w 255).1
  refine⟨Q0s _,Q0s _,λ_=>?_⟩
  rw[Int.tmod_eq_emod_of_nonneg v1,wrap_u32,wrap_u32]
  generalize iand u32 w 255=q at*
  omega
 refine w_cn ci ?_
 repeat'(first
  |exact bad
  |exact good _ (by assumption)
  |refine w_br (λ_=>?_) (λ_=>?_)
  |refine w_cn ci ?_)
theorem Za0{c:Q02}(hc:Q29 c){va:Int}(hv:U va){size:Int}(hs:size=1\/size=4)(access:Int):(Q9o c m va size access).w (λr=>Q0q P r.2.2/\U r.1/\(r.2.1=0->r.1<128*P)):=by
 have e:decide (wrap u32 size≠0)=true:=by rcases hs with rfl|rfl<;>decide
 obtain⟨g1,g2⟩:=Tree.pp (Zar h va hs)
 obtain⟨k1,k2⟩:=Tree.pp (xV h hc.a6 hv access)
 have bad:∀k:Int,k≠0->Q0q P m/\U (0:Int)/\(k=0->(0:Int)<128*P):=λk hk=>⟨h,U_0,λe=>absurd e hk⟩
 have hca:Q42 access≠0:=by
  simp only[Q42,Q93,Tree.m]
  cases access==1<;>cases access==3<;>simp
 unfold Q9o
 refine w_lv λx0 _=>w_br (λ_=>bad 5 (by decide)) (λ_=>w_br (λh1=>w_br (λh2=>?_) (λ_=>?_)) (λ_=>?_))
 ·exact bad 5 (by decide)
 all_goals(
  refine w_cn e (w_br (λ_=>bad 3 (by decide)) (λ_=>w_lv λx1 _=>w_br (λ_=>w_an g1 (w_lv λx2 hx2=>w_br (λ_=>w_lv λx3 hx3=>bad x3 (by rw[hx3];exact hca)) (λhb=>?_))) (λ_=>w_an k1 (w_lv λx4 hx4=>w_br (λhb=>?_) (λhb=>?_)))))
  ·have hb:x2=true:=by simpa using hb
   exact⟨h,hv,λ_=>g2 (hx2.symm.trans hb)⟩
  ·exact bad _ (by simpa using hb)
  ·obtain⟨t1,t2,t3⟩:=k2
   rw[show(Qaa m c.B3.a6 va access).m=x4 from hx4.symm]at t1 t2 t3
   obtain⟨m1,m2⟩:=Tree.pp (zaz h t2 access)
   refine w_an m1 (w_lv λx5 hx5=>?_)
   exact⟨hx5▸m2,t1,λ_=>t3 (by simpa using hb)⟩)
end
theorem vu{r:Int}(h:Q8a r=true):0<=r/\r<16:=by
 simp only[Q8a,Qdd,Tree.m]at h
 cases h1:decide (r>=0)<;>rw[h1]at h
 ·cases h
 ·have h1:=oY h1
  have h:=oY h
  omega
theorem xO{i:Q0g}(hi:wrap .i64 i.Imm=i.Imm)(h:Q90 i=true):Qbq i:=by
 have no:false=true->Qbq i:=λh=>by cases h
 refine(Tree.post (Qf3 i) (W:=λb=>b=true->Qbq i) ?_) h
 unfold Qf3
 refine w_lv λx0 h0=>w_br (λ_=>no) (λ_=>w_lv λx1 h1=>w_br (λ_=>no) (λb1=>w_lv λx2 h2=>w_br (λ_=>no) (λb2=>w_lv λx3 h3=>w_br (λ_=>no) (λb3=>w_lv λx4 h4=>w_br (λ_=>no) (λb4=>w_br (λ_=>no) (λb5=>?_))))))
 have b1:x1=true:=by simpa using b1
 have b2:x2=true:=by simpa using b2
 have b3:x3=true:=by simpa using b3
 have b4:=oN b4
 have b5:=oN b5
 rw[hi]at b4 b5
 have ok:Qbq i:=⟨vu (h1.symm.trans b1),vu (h2.symm.trans b2),vu (h3.symm.trans b3),λe=>by
  rw[e]at h0
  have h0:x0=8:=h0
  subst h0
  have h4:x4=(0,7):=h4
  subst h4
  simp at b4 b5;omega⟩
 repeat'(first
  |exactλ_=>ok
  |exact no
  |refine w_br (λ_=>?_) (λ_=>?_))
theorem Zj2(w:Int):(Qaj w).w (λr=>r.2=true->Qbq r.1):=by
 have no:∀{p:Prop},false=true->p:=λh=>by cases h
 have e:∀x,wrap .i64 (wrap .i32 x)=wrap .i32 x:=λx=>by rw[wrap_i64,wrap_i32];omega
 have ok:∀i,wrap .i64 i.Imm=i.Imm->∀x,x=Q90 i->(!x)=false->true=true->Qbq i:=λi hi x hx hb _=>xO hi (hx.symm.trans (by simpa using hb))
 unfold Qaj
 refine w_lv λx0 _=>?_
 have l:∀i,wrap .i64 i.Imm=i.Imm->(Tree.lv (Q90 i) λx=>.br (!x) (.lf ((⟨0,0,0,0,0⟩:Q0g),false)) (.lf (i,true))).w (λr=>r.2=true->Qbq r.1):=λi hi=>w_lv λx hx=>w_br (λ_=>no) (λhb=>ok i hi x hx hb)
 refine w_br (λ_=>no) (λ_=>w_br (λ_=>l _ rfl) (λ_=>w_br (λ_=>l _ (e _)) (λ_=>w_br (λ_=>l _ (e _)) (λ_=>l _ (e _)))))
theorem bit_w(b:Bool):U (Qbx b):=by cases b<;>exact⟨by decide,by decide⟩
theorem Zjo{a b:Int}(ha:U a)(hb:U b):(Qak a b).w (λr=>U r.1/\U r.2):=by
 unfold Qak
 refine w_br (λ_=>⟨⟨by omega,by omega⟩,ha⟩) (λh=>?_)
 have h:¬b=0:=by simpa using h
 obtain⟨b1,b2⟩:=hb
 have hc:decide (wrap i64 (wrap i32 b)≠0)=true:=dY (by rw[wrap_i64,wrap_i32];omega)
 exact w_cn hc (w_cn hc ⟨Q0s _,Q0s _⟩)
theorem alu_w(op:Int){a b:Int}(ha:U a)(hb:U b):(Qkn op a b).w (λr=>U r.1):=by
 unfold Qkn
 refine w_lv λx0 _=>?_
 repeat'(first
  |exact Q0s _
  |exact Qvl ha _
  |exact U_0
  |refine w_br (λ_=>?_) (λ_=>?_)
  |exact Q0e (Zjo ha hb) λx hx=>hx.1
  |exact Q0e (Zjo ha hb) λx hx=>hx.2
  |exact w_lv λx hx=>(by rw[hx];exact bit_w _))
theorem qv{x:Int}(hx:U x):(Q8 x 8).w U:=by
 unfold Q8
 have h0:decide (0<=wrap u64 8)=true:=by decide
 refine w_br (λh=>absurd h (by decide)) λ_=>w_br (λh=>absurd h (by decide)) λ_=>w_cn h0 (w_cn (by decide) (w_br (λ_=>w_cn h0 (U_or _ _)) (λ_=>Z9q _ _)))
section
variable {c:Q02} (h:Q29 c) {i:Q0g} (hi:Qbq i)
include h hi
theorem zO:(Qdc c i).w (λr=>Q29 r.1/\U r.2.Value):=by
 unfold Qdc
 refine w_br (λ_=>w_lv λx hx=>⟨hx▸Z2t h _ U_0,U_0⟩) (λ_=>w_br (λ_=>w_lv λx hx=>⟨hx▸qO h,U_0⟩) (λ_=>w_br (λe=>w_cn ?_ (Q0e (Z8v h _ (h.a _)) λx hx=>⟨hx.pcs (Q0s _),U_0⟩)) (λ_=>w_br (λ_=>w_cn (rc hi.a) (Q0e (xam h _ (h.r _)) λx hx=>⟨hx.pcs (Q0s _),U_0⟩)) (λ_=>?_))))
 ·have:=hi.csr (by simpa using e)
  simp[bJ];omega
 ·have k:=h.pcs (Q0s (c.Pc+4))
  repeat'(first
   |exact⟨k,U_0⟩
   |exact⟨k,h.r _⟩
   |refine w_br (λ_=>?_) (λ_=>?_)
   |refine w_cn (rc hi.a) ?_)
theorem xaz:(Qhn c i).w Q29:=by
 unfold Qhn
 exact w_br (λ_=>Q0e (Z8v h _ (Q0s _)) λx hx=>hx.pcs (Q0s _)) (λ_=>w_br (λ_=>w_cn (rc hi.b) (Q0e (Z8v h _ (Q0s _)) λx hx=>hx.pcs (Q0s _))) (λ_=>w_cn (rc hi.a) (w_cn (rc hi.b) (w_lv λx _=>w_br (λ_=>h.pcs (Q0s _)) (λ_=>h.pcs (Q0s _))))))
theorem Zlk{P:Nat}{m:List Int}(hm:Q0q P m):(Q9w c m i).w (λr=>Q29 r.1/\Q0q P r.2):=by
  unfold Q9w
  refine w_cn (rc hi.b) ?_
  have e1:(1:Int)=1\/(1:Int)=4:= .inl rfl
  have e4:(4:Int)=1\/(4:Int)=4:= .inr rfl
  repeat'(first
    |refine w_br (λ_=> ?_) (λ_=> ?_)
    | (refine Q0e (Za0 hm h (Q0s _) e4 _) λx hx=> ?_
       obtain⟨m1,m2,m3⟩:=hx
       refine w_br (λ_=>w_lv λy hy=>⟨hy▸Z2t h _ (Q0s _),m1⟩) (λhb=> ?_)
       have m3:=m3 (by simpa using hb)
       have m4:x.1<4*x.2.2.length:=by rw[m1.len];omega
       clear hb)
    | (refine Q0e (Za0 hm h (Q0s _) e1 _) λx hx=> ?_
       obtain⟨m1,m2,m3⟩:=hx
       refine w_br (λ_=>w_lv λy hy=>⟨hy▸Z2t h _ (Q0s _),m1⟩) (λhb=> ?_)
       have m3:=m3 (by simpa using hb)
       have m4:x.1<4*x.2.2.length:=by rw[m1.len];omega
       clear hb)
    |exact w_cn (rc hi.a) (Q0e (put_w (by assumption) (by assumption) (by assumption) (h.r _)) λy hy=>⟨h.pcs (Q0s _),hy⟩)
    |(refine Q0e (Zfx (by assumption) (by assumption) e4) λy hy=> ?_)
    |(refine Q0e (Zfx (by assumption) (by assumption) e1) λy hy=> ?_)
    |exact Q0e (qv (by assumption)) λz hz=>Q0e (Z8v h _ hz) λu hu=>⟨hu.pcs (Q0s _),by assumption⟩
    |exact Q0e (Z8v h _ (by assumption)) λu hu=>⟨hu.pcs (Q0s _),by assumption⟩)
end
theorem do_w{c:Q02}(h:Q29 c){P:Nat}{m:List Int}(hm:Q0q P m):(Qp c m).w (λr=>Q29 r.1/\U r.2.1.Value/\Q0q P r.2.2):=by
 unfold Qp
 refine Q0e (Za0 hm h h.pc (.inr rfl) 1) λx0 hx=>?_
 obtain⟨m1,m2,m3⟩:=hx
 refine w_br (λ_=>w_lv λy hy=>⟨hy▸Z2t h _ h.pc,U_0,m1⟩) (λhb=>?_)
 refine Q0e (Zfx m1 m2 (.inr rfl)) λx2 h2=>Zkd (Zj2 _) λx3 h3=>w_br (λ_=>w_lv λy hy=>⟨hy▸Z2t h _ h2,U_0,m1⟩) (λb3=>?_)
 have hi:=h3 (by simpa using b3)
 refine w_lv λx5 _=>?_
 repeat'(first
  |refine w_br (λ_=>?_) (λ_=>?_)
  |exact w_lv λy hy=>⟨hy▸Z2t h _ h2,U_0,m1⟩
  |exact Q0e (zO h hi) λy hy=>⟨hy.1,hy.2,m1⟩
  |exact Q0e (xaz h hi) λy hy=>⟨hy,U_0,m1⟩
  |exact Q0e (Zlk h hi m1) λy hy=>⟨hy.1,U_0,hy.2⟩
  |exact Q0e (Z8v h _ (Q0s _)) λy hy=>⟨hy.pcs (Q0s _),U_0,m1⟩
  |refine w_cn (rc hi.c) ?_
  |refine w_cn (rc hi.b) ?_
  |exact Q0e (alu_w _ (h.r _) (h.r _)) λy hy=>Q0e (Z8v h _ hy) λz hz=>⟨hz.pcs (Q0s _),U_0,m1⟩
  |exact Q0e (alu_w _ (h.r _) (Q0s _)) λy hy=>Q0e (Z8v h _ hy) λz hz=>⟨hz.pcs (Q0s _),U_0,m1⟩)
theorem and1{q:Int}(h:U q):iand .u32 q 1=q%2:=by
 obtain⟨h1,h2⟩:=h
 unfold iand
 rw[wrap_u32]
 have e1:(dS 32 q).toNat=q.toNat:=by rw[BitVec.toNat_ofInt];omega
 have e2:(dS 32 1).toNat=1:=by decide
 have:(dS u32.bits q&&&dS u32.bits 1).toNat=q.toNat%2:=by
  show(dS 32 q&&&dS 32 1).toNat=_
  rw[dV,e1,e2,Nat.and_one_is_mod]
 rw[this];omega
theorem Zfc(b:Bool)(n:Int):(Qi9 b n).w (λ_=>True):=by
 unfold Qi9
 exact w_br (λ_=>w_cn (dY (by rw[wrap_u64];omega)) trivial) (λ_=>trivial)
theorem qan(m:Q00):(Qfk m).w (λ_=>True):=by
 unfold Qfk
 exact w_lv λ_ _=>Q0e (Zfc _ _) λ_ _=>w_lv λ_ _=>Q0e (Zfc _ _) λ_ _=>w_lv λ_ _=>Q0e (Zfc _ _) λ_ _=>w_lv λ_ _=>Q0e (Zfc _ _) λ_ _=>w_lv λ_ _=>Q0e (Zfc _ _) λ_ _=>trivial
theorem Zdt(m:Q00):(Q96 m).w U:=by
 unfold Q96
 exact Q0e (qan m) λ_ _=>Z9q _ _
theorem zV(m:Q00):(Qek m).w (λ_=>True):=by
 unfold Qek
 exact w_br (λ_=>Q0e (Zdt m) λ_ _=>trivial) (λ_=>trivial)
theorem zan(m:Q00):(Q9j m).w (λ_=>True):=by
 unfold Q9j
 exact w_lv λ_ _=>w_br (λ_=>trivial) (λ_=>w_br (λ_=>trivial) (λ_=>Q0e (zV m) λ_ _=>w_br (λ_=>trivial) (λ_=>trivial)))
theorem Qtz{m:Q00}(h:Q29 m.A4):(Q5b m).w Q29:=by
 unfold Q5b
 refine Q0e (Zdt m) λx0 hx=>w_br (λ_=>h) (λ_=>w_br (λ_=>h) (λhb=>?_))
 have hb:x0≠0:=by simpa using hb
 have sh:∀z:Int,0<=z->z<=31->ishr .u32 x0 (wrap .u64 z)=x0/2^z.toNat:=λz h1 h2=>by
  unfold ishr
  have e:min (wrap .u64 z).toNat u32.bits=z.toNat:=by
   show min (wrap .u64 z).toNat 32=z.toNat
   rw[wrap_u64];omega
  rw[e,dK _ (dL (dJ (by decide)))]
 refine w_lp (inv:=λz=>0<=z/\z<=31/\x0/2^z.toNat≠0) (μ:=Qdq m) ⟨by omega,by omega,by simpa using hb⟩ (cL _) (λz hz=>?_)
 obtain⟨z1,z2,z3⟩:=hz
 refine w_cn (dY (by rw[wrap_u64];omega)) (w_br (λe=>w_nx ?_) (λ_=>w_lv λy hy=>hy▸Z2t h _ U_0))
 have e:=eq_of_beq e
 have hq:=Qvl hx (wrap .u64 z)
 rw[and1 hq,sh z z1 z2]at e
 rw[sh z z1 z2]at hq
 have hlt:x0/2^z.toNat/2≠0:=by omega
 have z4:z<=30:=by
  rcases Int.lt_or_le z 31 with h|h
  ·omega
  ·have:z=31:=by omega
   subst this
   have:=hx.2
   have:=hx.1
   simp at z3 e hlt
   omega
 show(0<=i64.wrap (z+1)/\i64.wrap (z+1)<=31/\x0/2^(i64.wrap (z+1)).toNat≠0)/\(32-i64.wrap (z+1)).toNat<(32-z).toNat
 have ew:i64.wrap (z+1)=z+1:=by rw[wrap_i64];omega
 rw[ew]
 refine⟨⟨by omega,by omega,?_⟩,by omega⟩
 have et:(z+1).toNat=z.toNat+1:=by omega
 rw[et,Int.pow_succ,<-Int.ediv_ediv_of_nonneg (dL (dJ (by decide)))]
 exact hlt
theorem xan{P:Nat}{m:Q00}(h:Q29 m.A4)(hm:Q0q P m.Mem):(Qf8 m).w (λ_=>True):=by
 unfold Qf8
 refine Q0e (Qtz h) λx0 hx=>w_br (λ_=>trivial) (λ_=>Q0e (Zfx hm hx.pc (.inr rfl)) λx1 _=>w_lv λx2 _=>?_)
 exact w_br (λ_=>w_br (λ_=>w_br (λ_=>trivial) (λ_=>trivial)) (λ_=>trivial)) (λ_=>trivial)
theorem Qj2(l:List Int):(bytesOf l).length=l.length:=by simp[bytesOf]
theorem Qq3(l:List UInt8):(Qbt l).length=l.length:=by simp[Qbt]
theorem low_w(x:Int):(Qh1 x 4).w (λr=>r.length=4):=by
 unfold Qh1
 refine w_lp (inv:=λz=>0<=z.1/\z.1<=4/\(z.2.length:Int)=z.1) (μ:=Qex x 4) ⟨by omega,by omega,rfl⟩ (cL _) (λz hz=>?_)
 obtain⟨z1,z2,z3⟩:=hz
 refine w_br (λh=>w_cn (dY (by rw[wrap_u64];omega)) (w_cn (dY (by omega)) (w_nx ?_))) (λh=>?_)
 ·have h:=oY h
  show(0<=i64.wrap (z.1+1)/\i64.wrap (z.1+1)<=4/\((z.2++[_]).length:Int)=i64.wrap (z.1+1))/\(4-i64.wrap (z.1+1)).toNat<(4-z.1).toNat
  have ew:i64.wrap (z.1+1)=z.1+1:=by rw[wrap_i64];omega
  rw[ew]
  refine⟨⟨by omega,by omega,by simp;omega⟩,by omega⟩
 ·have h:=oN h
  show(bytesOf z.2).length=4
  rw[Qj2];omega
theorem yV{P:Nat}{m:List Int}(hm:Q0q P m)(frame:Int):(Qa2 m frame).w (λr=>0<=frame->frame<P->r.1.length=128):=by
 have hp:=Qew hm
 have hl:=hm.len
 have h2:=hm.p2
 unfold Qa2
 refine w_br (λh=>λh0 _=>by have:=oY h;omega) (λh=>w_lv λx0 hx=>w_br (λh1=>λ_ h2=>by have:=oY h1;rw[hx,hp]at this;omega) (λh1=>?_))
 have h:=oN h
 have h1:=oN h1
 rw[hx,hp]at h1
 refine w_lp (inv:=λz=>0<=z.1/\z.1<=32/\(z.2.length:Int)=4*z.1) (μ:=Qiw m frame) ⟨by omega,by omega,rfl⟩ (cL _) (λz hz=>?_)
 obtain⟨z1,z2,z3⟩:=hz
 refine w_br (λhb=>?_) (λhb=>?_)
 ·have hb:=oY hb
  have e:wrap i64 (wrap i64 (frame*32)+z.1)=frame*32+z.1:=by rw[wrap_i64,wrap_i64];omega
  refine w_cn (by rw[e];simp[bJ];omega) (w_an (show(4:Int)<=1000000000000 by decide) (Zkd (low_w _) λx1 h4=>w_cn (dY (by rw[Qq3,h4];omega)) (w_nx ?_)))
  show(0<=i64.wrap (z.1+1)/\i64.wrap (z.1+1)<=32/\((z.2++Qbt x1).length:Int)=4*i64.wrap (z.1+1))/\(32-i64.wrap (z.1+1)).toNat<(32-z.1).toNat
  have ew:i64.wrap (z.1+1)=z.1+1:=by rw[wrap_i64];omega
  rw[ew,lA,Qq3,h4]
  exact⟨⟨by omega,by omega,by omega⟩,by omega⟩
 ·have hb:=oN hb
  intro _ _
  show(bytesOf z.2).length=128
  rw[Qj2];omega
theorem xv{P:Nat}{m:List Int}(hm:Q0q P m){d:Q0d}(hd:Q4t d)(port:Int){v:Int}(hv:U v)(at0:Int):(Q91 d m port v at0).w (λr=>Q4t r.1/\r.2.length<=1):=by
 have k:∀st,Q4t {Blocks:=d.Blocks,B8:=d.B8,Frame:=d.Frame,B9:=st,D5:=d.D5,B5:=d.B5,B1:=d.B1,C1:=d.C1}:=λst=>⟨hd.block,hd.frame,hd.opBlock,hd.opFrame⟩
 have k2:∀c o,Q4t {Blocks:=d.Blocks,B8:=d.B8,Frame:=d.Frame,B9:=1,D5:=c,B5:=d.B8,B1:=d.Frame,C1:=o}:=λc o=>⟨hd.block,hd.frame,hd.block,hd.frame⟩
 have k3:Q4t {Blocks:=d.Blocks,B8:=v,Frame:=d.Frame,B9:=d.B9,D5:=d.D5,B5:=d.B5,B1:=d.B1,C1:=d.C1}:=⟨hv,hd.frame,hd.opBlock,hd.opFrame⟩
 have k4:Q4t {Blocks:=d.Blocks,B8:=d.B8,Frame:=v,B9:=d.B9,D5:=d.D5,B5:=d.B5,B1:=d.B1,C1:=d.C1}:=⟨hd.block,hv,hd.opBlock,hd.opFrame⟩
 unfold Q91
 repeat'(first
  |refine w_br (λ_=>?_) (λ_=>?_)
  |exact Q0e (yV hm _) λ_ _=>w_lv λ_ _=>⟨k2 _ _,aO _⟩
  |refine w_lv (λ_ _=>?_)
  |refine w_lf ?_)
 all_goals(first
  |exact⟨hd,aT _⟩
  |exact⟨k _,aT _⟩
  |exact⟨k2 _ _,aO _⟩
  |exact⟨k3,aT _⟩
  |exact⟨k4,aT _⟩)
theorem yO{P:Nat}{m:List Int}(hm:Q0q P m){n:Q0u}(hn:Qas n)(port:Int){v:Int}(hv:U v)(at0:Int):(Qav n m port v at0).w (λr=>Qas r.1/\r.2.length<=1):=by
 have k1:Qas {Frame:=v,D7:=n.D7,C4:=n.C4,B6:=n.B6,B7:=n.B7,E0:=n.E0}:=⟨hv,hn.len,hn.buffer,hn.got⟩
 have k2:Qas {Frame:=n.Frame,D7:=v,C4:=n.C4,B6:=n.B6,B7:=n.B7,E0:=n.E0}:=⟨hn.frame,hv,hn.buffer,hn.got⟩
 have k3:Qas {Frame:=n.Frame,D7:=n.D7,C4:=n.C4,B6:=n.B6,B7:=false,E0:=0}:=⟨hn.frame,hn.len,hn.buffer,U_0⟩
 have k4:∀p r,Qas {Frame:=n.Frame,D7:=n.D7,C4:=p,B6:=n.Frame,B7:=r,E0:=n.E0}:=λp r=>⟨hn.frame,hn.len,hn.frame,hn.got⟩
 have send:∀K:List UInt8×Bool->Tree (Q0u×List Q0a),Q2h m n.Frame=true->(∀x:List UInt8×Bool,x.1.length=128->(K x).w (λr=>Qas r.1/\r.2.length<=1))->(Tree.an (Qgu m (wrap .i64 n.Frame)) (.lv (Qhd m (wrap .i64 n.Frame)) K)).w (λr=>Qas r.1/\r.2.length<=1):=λK hp hK=>by
  rw[Qlr hm hn.frame]at hp
  have hp:=oY hp
  obtain⟨f1,f2⟩:=hn.frame
  have ew:i64.wrap n.Frame=n.Frame:=by rw[wrap_i64];omega
  exact Q0e (yV hm _) λx hx=>hK x (hx (by rw[ew];exact f1) (by rw[ew];exact hp))
 unfold Qav
 repeat'(first
  |refine w_br (λ_=>?_) (λ_=>?_)
  |refine send _ (by simp_all) (λx hx=>w_cn (by simp_all;exact hn.len.1) ?_)
  |refine w_lv (λ_ _=>?_)
  |refine w_lf ?_)
 all_goals(first
  |exact⟨hn,aT _⟩
  |exact⟨hn,aO _⟩
  |exact⟨k1,aT _⟩
  |exact⟨k2,aT _⟩
  |exact⟨k3,aT _⟩
  |exact⟨k4 _ _,aT _⟩)
def okB(b:Q06):Prop:=U b.C6/\U b.C0
theorem qaA{P:Nat}{m:List Int}(hm:Q0q P m){b:Q06}(hb:okB b)(port:Int){v:Int}(hv:U v):(Q5d b m port v).w (λr=>okB r.1/\Q0q P r.2):=by
 have hv0:decide (0<=v)=true:=dY hv.1
 have h2:=hm.p2
 have rest:(Tree.br (port==11) (.br (decide (v<32)) (.cn (decide (0<=v)) (.lf (({C6:=b.C6,C0:=Q7 .u32 b.C0 (ishl .u32 1 v)}:Q06),m))) (.lf (b,m))) (.lf (b,m))).w (λr=>okB r.1/\Q0q P r.2):=
  w_br (λ_=>w_br (λ_=>w_cn hv0 ⟨⟨hb.1,Q0s _⟩,hm⟩) (λ_=>⟨hb,hm⟩)) (λ_=>⟨hb,hm⟩)
 unfold Q5d
 refine w_br (λ_=>w_lv λx0 hx=>w_br (λhp=>w_cn hv0 (w_br (λ_=>w_cn hv0 ?_) (λ_=>rest))) (λ_=>rest)) (λ_=>rest)
 have hp:Q2h m v=true:=hx.symm.trans hp
 rw[Qlr hm hv]at hp
 have hp:=oY hp
 obtain⟨v1,v2⟩:=hv
 refine w_lp (inv:=λz=>0<=z.1/\z.1<=32/\Q0q P z.2) (μ:=Qhp b m port v) ⟨by omega,by omega,hm⟩ (cL _) (λz hz=>?_)
 obtain⟨z1,z2,z3⟩:=hz
 have hl:=z3.len
 refine w_br (λh=>?_) (λ_=>⟨⟨hb.1,Q0s _⟩,z3⟩)
 have h:=oY h
 have e:wrap i64 (wrap i64 (wrap i64 v*32)+z.1)=v*32+z.1:=by rw[wrap_i64,wrap_i64,wrap_i64];omega
 refine w_cn (by rw[e];simp[bJ];omega) (w_nx ?_)
 show(0<=i64.wrap (z.1+1)/\i64.wrap (z.1+1)<=32/\Q0q P (dC _ _ _))/\(32-i64.wrap (z.1+1)).toNat<(32-z.1).toNat
 have ew:i64.wrap (z.1+1)=z.1+1:=by rw[wrap_i64];omega
 rw[ew]
 exact⟨⟨by omega,by omega,⟨by simp[hl],z3.p1,z3.p2,Z4k z3.u U_0 _⟩⟩,by omega⟩
structure okM(P:Nat)(m:Q00):Prop where
 cpu:Q29 m.A4
 mem:Q0q P m.Mem
 disk:Q4t m.B0
 nic:Qas m.C2
 target:okB m.A1
 cnt:0<=m.A2
theorem Zik(c:Q0c)(port:Int):U (Q7k c port).2:=by
 refine Tree.post (Q43 c port) (W:=λr=>U r.2) ?_
 have u1:U 4294967295:=⟨by omega,by omega⟩
 unfold Q43
 refine w_br (λ_=>w_br (λ_=>u1) (λh=>w_br (λ_=>w_cn ?_ (w_cn ?_ (Q0s _))) (λ_=>w_br (λ_=>Q0s _) (λ_=>U_0)))) (λh1=>w_br (λh=>(by rw[h1]at h;cases h)) (λ_=>w_br (λ_=>Q0s _) (λ_=>U_0)))
 ·have h:¬(c.D0.length:Int)=0:=by simpa using h
  exact dY ⟨by omega,by omega,by omega⟩
 ·have h:¬(c.D0.length:Int)=0:=by simpa using h
  simp[bJ];omega
theorem qao{n:Q0u}(h:Qas n)(port:Int):U (Qlj n port):=by
 refine Tree.post (Qfn n port) (W:=U) ?_
 have u1:U 1:=⟨by omega,by omega⟩
 unfold Qfn
 exact w_br (λ_=>h.frame) (λ_=>w_br (λ_=>h.got) (λ_=>w_br (λ_=>w_br (λ_=>w_br (λ_=>Q0s _) (λ_=>u1)) (λ_=>w_br (λ_=>Q0s _) (λ_=>U_0))) (λ_=>U_0)))
theorem vO{d:Q0d}(h:Q4t d)(port:Int):U (Qmj d port):=by
 refine Tree.post (Qgs d port) (W:=U) ?_
 unfold Qgs
 exact w_br (λ_=>h.block) (λ_=>w_br (λ_=>h.frame) (λ_=>w_br (λ_=>Q0s _) (λ_=>U_0)))
theorem zv(t:Q0n):U (Qjk t):=by
 refine Tree.post (Qf t) (W:=U) ?_
 unfold Qf
 exact w_br (λ_=>⟨by omega,by omega⟩) (λ_=>U_0)
theorem Zix{b:Q06}(h:U b.C6)(port:Int):U (Q7h b port):=by
 refine Tree.post (Q6l b port) (W:=U) ?_
 unfold Q6l
 exact w_br (λ_=>h) (λ_=>w_br (λ_=>w_lv λ_ _=>Q0s _) (λ_=>U_0))
structure okR(P:Nat)(r:Q2d):Prop where
 m:okM P r.A0
 clock:U r.Clock
structure okL(P:Nat)(r x:Q2d):Prop where
 ok:okR P x
 log:x.Log=r.Log
 queue:x.Queue=r.Queue
theorem w0(x:Int):0<=u64.wrap x:=by rw[wrap_u64];omega
section
variable {P:Nat} {r:Q2d} (h:okR P r)
include h
end
theorem zaA(c:Q0c)(b:Int):(Qim c b).w (λ_=>True):=by
 unfold Qim
 refine w_br (λ_=>trivial) (λh=>w_cn (dY ?_) trivial)
 have h:=oN h
 simp[maxLen];omega
theorem qP{P:Nat}{m:List Int}(hm:Q0q P m){n:Q0u}(hn:Qas n)(frame:List UInt8):(Qaw n m frame).w (λr=>Qas r.1/\Q0q P r.2.2):=by
 unfold Qaw
 refine w_br (λ_=>⟨hn,hm⟩) (λ_=>w_br (λ_=>⟨hn,hm⟩) (λ_=>w_br (λ_=>⟨hn,hm⟩) (λ_=>w_lv λx0 hx=>w_br (λ_=>⟨hn,hm⟩) (λhb=>?_))))
 have hp:Q2h m n.B6=true:=hx.symm.trans (by simpa using hb)
 rw[Qlr hm hn.buffer]at hp
 have hp:=oY hp
 obtain⟨b1,b2⟩:=hn.buffer
 have ew:i64.wrap n.B6=n.B6:=by rw[wrap_i64];omega
 exact Q0e (vU hm (frame:=i64.wrap n.B6) (by rw[ew];exact b1) (by rw[ew];exact hp) frame) λx hx=>⟨⟨hn.frame,hn.len,U_0,Q0s _⟩,hx⟩
section
variable {P:Nat} {r:Q2d} (h:okR P r)
include h
end
theorem Zhi(n:Int):(Qfh n).w (λe=>U e.N):=by
 have u1:U 1:=⟨by omega,by omega⟩
 have ev40:∀x y,Qag x (wrap .i64 (1+dA y 40)):=λx y=>by
  show wrap .i64 (1+dA y 40)<=1000000000000
  have h1:=Int.tmod_lt_of_pos y (b:=40) (by decide)
  have h2:=Int.lt_tmod_of_pos y (b:=40) (by decide)
  rw[wrap_i64];omega
 unfold Qfh
 refine w_lv λx0 _=>?_
 repeat'(first
  |exact U_0
  |exact u1
  |exact Q0s _
  |exact w_an (show(128:Int)<=1000000000000 by decide) (w_lv λ_ _=>u1)
  |exact w_an (ev40 _ _) (w_lv λ_ _=>U_0)
  |refine w_br (λ_=>?_) (λ_=>?_))

import Derived.Test.YtmalmklaonainaaGreatReplayTellsZx
open List renaming set->dB, mem_cons->cP, not_mem_nil->cQ
open Nat renaming blt->bT, beq->bS, lt_succ_self->cK, le_refl->aO, zero_le->aT
open Int renaming pow_pos->dI, le_of_lt->dK, fdiv_eq_ediv_of_nonneg->dJ, tmod->cX, mul_tmod_right->gU, mul_tdiv_cancel_left->gW, tdiv->eO, tdiv_eq_ediv_of_nonneg->eQ, emod_eq_of_lt->dH, lt_of_lt_of_le->gX, le_of_eq->gY
open BitVec renaming ofInt->dS, toNat_and->dV
set_option maxRecDepth 100000
set_option linter.all false
namespace Go.Proofs.YtmalmklaonainaaGreat
open Go Go.GD
open Go.IntKind(wrap i64 u32 u64 u8 i32 wrap_i64 wrap_u32 wrap_u64 wrap_u8 wrap_i32)
def U(x:Int):Prop:=0<=x/\x<4294967296
theorem Q0u(x:Int):U (u32.wrap x):=by rw[wrap_u32];unfold U;omega
theorem Zmk(x y:Int):U (iand .u32 x y):=Q0u _
theorem U_or(x y:Int):U (ior .u32 x y):=Q0u _
theorem U_0:U 0:=⟨by omega,by omega⟩
theorem Z8j{m:List Int}(h: ∀w∈m,U w){v:Int}(hv:U v)(i:Nat): ∀w∈m.set i v,U w:=by
 intro w hw
 rcases List.mem_or_eq_of_mem_set hw with h1|h1
 . exact h w h1
 . rw[h1];exact hv
structure Q17(P:Nat)(m:List Int):Prop where
 len:m.length=32*P
 p1:0<=P
 p2:P<=32
 u: ∀w∈m,U w
structure Q9p(d:Q0h):Prop where
 block:U d.C3
 frame:U d.Frame
 opBlock:U d.B9
 opFrame:U d.B4
structure Ql6(n:Q0q):Prop where
 frame:U n.Frame
 len:U n.E0
 buffer:U n.C1
 got:U n.F1
theorem Qmr{l:List Int}(h: ∀w∈l,U w)(i:Nat):U (l.getD i 0):=by
 by_cases hi:i<l.length
 . have:l.getD i 0=l[i]:=by simp [List.getD,hi]
   rw[this];exact h _ (List.getElem_mem hi)
 . have:l.getD i 0=0:=by simp [List.getD,List.getElem?_eq_none (by omega:l.length<=i)]
   rw[this];exact U_0
structure Q2n(c:Q05):Prop where
 x: ∀w∈A16.l c.X,U w
 pc:U c.Pc
 csr: ∀w∈A8.l c.B8,U w
theorem Zla{X:A16 Int}(h: ∀w∈A16.l X,U w){v:Int}(hv:U v)(i:Nat): ∀w∈A16.l (A16.of 0 (dB (A16.l X) i v)),U w:=by
 have hs:=Z8j h hv i
 intro w hw
 simp only[A16.l,A16.of,cP,cQ,or_false]at hw
 repeat(first|(rcases hw with rfl|hw; · exact Qmr hs _)|(subst hw;exact Qmr hs _))
theorem Zhv{X:A8 Int}(h: ∀w∈A8.l X,U w){v:Int}(hv:U v)(i:Nat): ∀w∈A8.l (A8.of 0 (dB (A8.l X) i v)),U w:=by
 have hs:=Z8j h hv i
 intro w hw
 simp only[A8.l,A8.of,cP,cQ,or_false]at hw
 repeat(first|(rcases hw with rfl|hw; · exact Qmr hs _)|(subst hw;exact Qmr hs _))
section
variable {c:Q05} (h:Q2n c)
include h
theorem Q2n.a(i:Nat):U ((A8.l c.B8).getD i 0):=Qmr h.csr i
theorem Q2n.r(i:Nat):U ((A16.l c.X).getD i 0):=Qmr h.x i
theorem Q2n.a0:U c.B8.a0:=h.a 0
theorem Q2n.a1:U c.B8.a1:=h.a 1
theorem Q2n.a2:U c.B8.a2:=h.a 2
theorem Q2n.a3:U c.B8.a3:=h.a 3
theorem Q2n.a4:U c.B8.a4:=h.a 4
theorem Q2n.a5:U c.B8.a5:=h.a 5
theorem Q2n.a6:U c.B8.a6:=h.a 6
theorem Q2n.a7:U c.B8.a7:=h.a 7
theorem Q2n.pcs{p:Int}(hp:U p):Q2n {X:=c.X,Pc:=p,B8:=c.B8}:=⟨h.x,hp,h.csr⟩
end
section
variable {α β:Type} {W:β->Prop} {t:Tree α} {Q:α->Prop} {k:α->Tree β}
theorem Q0c(hq:t.w Q)(g: ∀x,Q x->(k x).w W):(Tree.an t.p (Tree.lv t.m k)).w W:=⟨(Tree.pp hq).1,λy hy=>g y (by rw[hy];exact(Tree.pp hq).2)⟩
theorem Zbi(hq:t.w Q)(g: ∀x,Q x->(k x).w W):(Tree.lv t.m k).w W:=λy hy=>g y (by rw[hy];exact t.post hq)
end
theorem rc{r:Int}(h:0<=r/\r<16):(bT 0 1&&decide (0<=r/\r<((16:Nat):Int)))=true:=by simp [bT];omega
theorem Qyg{a:Int}(h:U a)(b:Int):U (ishr .u32 a b):=by
 unfold ishr U
 obtain⟨h1,h2⟩:=h
 have hp:(0:Int)<2^(min b.toNat u32.bits):=dI (by decide)
 have:=Int.fdiv_nonneg h1 (dK hp)
 refine⟨this,?_⟩
 rw[dJ _ (dK hp)]
 have h3:=Int.ediv_le_self (2^(min b.toNat u32.bits)) h1
 omega
structure Qhc(i:Q0o):Prop where
 a:0<=i.A/\i.A<16
 b:0<=i.B/\i.B<16
 c:0<=i.C/\i.C<16
 csr:i.Op=58->0<=i.Imm/\i.Imm<8
theorem Z59{P:Nat}{m:List Int}(h:Q17 P m):Q1 m=P:=by
 obtain⟨h1,h2,h3,_⟩:=h
 simp only[Q1,Qcw,Tree.m]
 have e:(m.length:Int)=32*P:=by omega
 rw[e]
 have e1:(cX (32*(P:Int)) 32 !=0)=false:=by simp [gU]
 have e2:decide ((32*(P:Int))>1024)=false:=dN (by omega)
 rw[e1,e2]
 simp only[cond_false]
 rw[gW _ (by decide),wrap_i64];omega
theorem v7(n:Int):(Qdk n).w (λ_=>True):=by
 unfold Qdk
 exact w_br (λ_=>trivial) (λ_=>w_cn (dY (by rw[wrap_u64];omega)) trivial)
theorem Qz8(w low n:Int):(Qa7 w low n).w U:=by
 unfold Qa7
 exact w_br (λ_=>U_0) (λ_=>w_br (λ_=>U_0) (λ_=>w_br (λ_=>U_0) (λ_=>w_cn (dY (by rw[wrap_u64];omega)) (Q0c (v7 n) λ_ _=>Zmk _ _))))
theorem Zpy{w:Int}(hw:U w)(low n v:Int):(Qah w low n v).w U:=by
 have h0:decide (0<=wrap u64 low)=true:=dY (by rw[wrap_u64];omega)
 unfold Qah
 exact w_br (λ_=>hw) (λ_=>w_br (λ_=>hw) (λ_=>w_br (λ_=>hw) (λ_=>Q0c (v7 n) λ_ _=>w_cn h0 (w_cn h0 (U_or _ _)))))
theorem Qy2{x:Int}(hx:U x)(n:Int):(Q84 x n).w U:=by
 have h0: ∀y,decide (0<=wrap u64 y)=true:=λy=>dY (by rw[wrap_u64];omega)
 unfold Q84
 exact w_br (λ_=>U_0) (λ_=>w_br (λ_=>hx) (λ_=>w_cn (h0 _) (w_cn (h0 _) (Q0u _))))
section
variable {P:Nat} {m:List Int} (h:Q17 P m)
include h
theorem Qac:Q09 m:=by
 have:=h.len
 have:=h.p2
 show m.length<=35184372088832
 omega
theorem Zir{a:Int}(ha:U a){size:Int}(hs:size=1\/size=4):(Q3g m a size).w (λb=>b=true->a+size<=128*P):=by
 have hp:=Z59 h
 have h2:=h.p2
 obtain⟨a1,a2⟩:=ha
 have e:decide (wrap u32 size≠0)=true:=by rcases hs with rfl|rfl<;>decide
 have l: ∀x,x=Q1 m->decide (wrap u64 (wrap u64 a+wrap u64 size)<=wrap u64 (wrap u64 x*128))=true->a+size<=128*P:=λx hx hd=>by
   rw[hx,hp]at hd
   have:=oY hd
   simp only[wrap_u64]at this
   omega
 unfold Q3g
 refine w_br (λ_=>w_br (λ_=>λh=>by cases h) (λ_=> ?_)) (λ_=> ?_)<;>
 exact w_cn e (w_br (λ_=>λh=>by cases h) (λ_=>w_lv λx hx=>l x hx))
theorem idxP{a:Int}(ha:U a)(hl:a<128*P):(bS 1 1&&bT 0 1&&decide (0<=wrap u32 (eO a 4)/\wrap u32 (eO a 4)<(m.length:Int)))=true:=by
 obtain⟨a1,a2⟩:=ha
 have e:wrap u32 (eO a 4)=a/4:=by rw[wrap_u32,eQ a1];omega
 have:=h.len
 rw[e];simp [bT];omega
theorem Qup{a:Int}(ha:U a){size:Int}(hs:size=1\/size=4):(Q72 m a size).w (λr=>U r.1/\(r.2=true->a<128*P)):=by
 unfold Q72
 refine Q0c (Zir h ha hs) λx hx=>w_br (λ_=>⟨U_0,λh=>by cases h⟩) (λhb=> ?_)
 have hl:=hx (by simpa using hb)
 have hl:a<128*P:=by omega
 exact w_cn (idxP h ha hl) (w_br (λ_=>Q0c (Qz8 _ _ _) λy hy=>⟨hy,λ_=>hl⟩) (λ_=>⟨Qmr h.u _,λ_=>hl⟩))
theorem Z2g{a:Int}(ha:U a){size:Int}(hs:size=1\/size=4){v:Int}(hv:U v):(Q9f m a size v).w (λr=>Q17 P r.1):=by
 have st: ∀i v,U v->Q17 P (m.set i v):=λi v hv=>⟨by simp [h.len],h.p1,h.p2,Z8j h.u hv i⟩
 have hcl:Q04 m=m:=rfl
 unfold Q9f
 refine w_an (Qac h) (w_lv λx0 hx0=> ?_)
 rw[hcl]at hx0;subst hx0
 refine Q0c (Zir h ha hs) λx hx=>w_br (λ_=>h) (λhb=> ?_)
 have hl:=hx (by simpa using hb)
 have hl:a<128*P:=by omega
 exact w_br (λ_=>w_cn (idxP h ha hl) (Q0c (Zpy (Qmr h.u _) _ _ _) λy hy=>w_cn (idxP h ha hl) (st _ _ hy))) (λ_=>w_cn (idxP h ha hl) (st _ _ hv))
end
theorem Zmy{r:Int}{used:Bool}(h:Qai r used=true):0<=r/\r<16:=by
 simp only[Qai,Qgh,Tree.m]at h
 cases used
 . have h:(r==0)=true:=h
   have:=eq_of_beq h;omega
 . cases h1:decide (r>=0)<;>rw[h1]at h
   . cases h
   . have h1:=oY h1
     have h:=oY h
     omega
theorem xw{i:Q0o}(h:Qhj i=true):Qhc i:=by
 have no:false=true->Qhc i:=λh=>by cases h
 refine(Tree.post (Qkm i) (W:=λb=>b=true->Qhc i) ?_) h
 unfold Qkm
 refine w_lv λx0 h0=>w_br (λ_=>w_lv λx1 h1=>w_br (λb1=>w_lv λx2 h2=>w_br (λb2=>w_lv λx3 h3=>w_br (λb3=>w_br (λb4=>λb5=> ?_) (λ_=>no)) (λ_=>no)) (λ_=>no)) (λ_=>no)) (λ_=>no)
 have b4:=oY b4
 have b5:=oY b5
 refine⟨Zmy (h1.symm.trans b1),Zmy (h2.symm.trans b2),Zmy (h3.symm.trans b3),λe=> ?_⟩
 rw[e]at h0
 have h0:x0=({a:=true,b:=false,c:=false,low:=0,D6:=7},true):=h0
 subst h0
 simp at b4 b5;omega
theorem Z5i(w:Int):(Q8b w).w (λr=>r.2=true->Qhc r.1):=by
 have no: ∀{p:Prop},false=true->p:=λh=>by cases h
 have l: ∀i,(Tree.lv (Qhj i) λx=> .br (!x) (.lf ((⟨0,0,0,0,0⟩:Q0o),false)) (.lf (i,true))).w (λr=>r.2=true->Qhc r.1):=λi=>w_lv λx hx=>w_br (λ_=>no) (λhb=>λ_=>xw (hx.symm.trans (by simpa using hb)))
 unfold Q8b
 exact Q0c (Qz8 _ _ _) λx0 _=>Q0c (Qz8 _ _ _) λx1 _=>Q0c (Qz8 _ _ _) λx2 _=>w_lv λx3 _=>w_br (λ_=>no) (λ_=>Q0c (Qz8 _ _ _) λx4 h4=>w_br (λ_=>l _) (λ_=>w_br (λ_=>Q0c (Qy2 h4 _) λx6 _=>l _) (λ_=>l _)))
section
variable {P:Nat} {m:List Int} (h:Q17 P m)
include h
theorem vT{f:Int}(hf:U f):Qbk m f=decide (f<P):=by
 have:=Z59 h
 obtain⟨h1,h2⟩:=hf
 have h3:=h.p2
 simp only[Qbk,Qjs,Tree.m,letv,this]
 congr 1
 rw[wrap_u64,wrap_u64,dH h1 (by omega),dH (by omega) (by omega)]
theorem xaw{root va:Int}(hv:U va)(access:Int):(Qb4 m root va access).w (λt=>U t.Addr/\U t.F2):=by
 have bad:U (0:Int)/\U (0:Int):=⟨U_0,U_0⟩
 have fr: ∀x,(Q91 x).w U:=λx=>by
   unfold Q91
   exact Q0c (Qz8 _ _ _) λy hy=>hy
 unfold Qb4
 exact w_lv λx0 _=>w_br (λ_=>bad) (λ_=>w_br (λ_=>bad) (λ_=>w_lv λx1 _=>w_br (λ_=>bad) (λ_=>Q0c (Qup h (Q0u _) (.inr rfl)) λx2 _=>w_br (λ_=>bad) (λ_=>w_lv λx3 _=>w_br (λ_=>bad) (λ_=>Q0c (fr _) λx4 _=>w_lv λx5 _=>w_br (λ_=>bad) (λ_=>Q0c (fr _) λx6 _=>⟨Q0u _,Q0u _⟩))))))
theorem qU{a:Int}(ha:U a)(access:Int):(Q9d m a access).w (Q17 P):=by
 have hcl:Q04 m=m:=rfl
 unfold Q9d
 exact Q0c (Qup h ha (.inr rfl)) λx0 _=>w_br (λ_=>w_an (Qac h) (w_lv λx1 h1=>by rw[h1,hcl];exact h)) (λ_=>w_br (λ_=>Q0c (Z2g h ha (.inr rfl) (U_or _ _)) λx hx=>hx) (λ_=>Q0c (Z2g h ha (.inr rfl) (U_or _ _)) λx hx=>hx))
theorem Qng{c:Q05}{va:Int}(hv:U va){size:Int}(hs:size=1\/size=4)(access:Int):(Q73 c m va size access).w (λr=>U r.1/\Q17 P r.2.1):=by
 have hcl:Q04 m=m:=rfl
 have e:decide (wrap u32 size≠0)=true:=by rcases hs with rfl|rfl<;>decide
 have cl: ∀(K:List Int->Int×List Int×Int),(∀x,x=m->U (K x).1/\Q17 P (K x).2.1)->(Tree.an (Q09 m) (.lv (Q04 m) λx=> .lf (K x))).w (λr=>U r.1/\Q17 P r.2.1):=λK hK=>w_an (Qac h) (w_lv λx hx=>hK x (hx.trans hcl))
 have z: ∀(k:Nat) (x:List Int),x=m->U (0:Int)/\Q17 P x:=λ_ x hx=>⟨U_0,hx▸h⟩
 have v: ∀x,x=m->U va/\Q17 P x:=λx hx=>⟨hv,hx▸h⟩
 have main: ∀(x0:Int×Bool),(Tree.cn (decide (wrap u32 size≠0)) (.br (cX va (wrap u32 size) !=0) (.an (Q09 m) (.lv (Q04 m) λx3=> .lf ((0:Int),x3,(3:Int)))) (.lv (Qb c) λx4=> .br (!x4) (.br (iand u32 c.B8.a0 4 !=0) (.an (Qkk m c.B8.a6 va access) (.lv (Qkn m c.B8.a6 va access) λx5=> .br (x5.F0 !=0) (.an (Q09 m) (.lv (Q04 m) λx6=> .lf (0,x6,x5.F0))) (.an (Qhs m x5.F2 access) (.lv (Qe7 m x5.F2 access) λx7=> .lf (x5.Addr,x7,0))))) (.an (Q3h m va size) (.lv (Q59 m va size) λx8=> .br (!x8.2) (.an (Q09 m) (.lv (Q04 m) λx9=> .lf (0,x9,x0.1))) (.an (Q09 m) (.lv (Q04 m) λx10=> .lf (va,x10,0)))))) (.an (Q3h m va size) (.lv (Q59 m va size) λx11=> .br (!x11.2) (.an (Q09 m) (.lv (Q04 m) λx12=> .lf (0,x12,x0.1))) (.an (Q09 m) (.lv (Q04 m) λx13=> .lf (va,x13,0)))))))).w (λr=>U r.1/\Q17 P r.2.1):=λx0=>
   w_cn e (w_br (λ_=>cl _ (z 0)) (λ_=>w_lv λx4 _=>w_br (λ_=>w_br (λ_=>Q0c (xaw h hv access) λx5 hx=>w_br (λ_=>cl _ (z 0)) (λ_=>Q0c (qU h hx.2 access) λx7 h7=>⟨hx.1,h7⟩)) (λ_=>Q0c (Qup h hv hs) λx8 _=>w_br (λ_=>cl _ (z 0)) (λ_=>cl _ v))) (λ_=>Q0c (Qup h hv hs) λx8 _=>w_br (λ_=>cl _ (z 0)) (λ_=>cl _ v))))
 unfold Q73
 exact w_lv λx0 _=>w_br (λ_=>cl _ (z 0)) (λ_=>w_br (λ_=>w_br (λ_=>cl _ (z 0)) (λ_=>main x0)) (λ_=>main x0))
theorem Zcu{c:Q05}(hc:Q2n c):(Qdo c m).w (λr=>U r.1/\Q17 P r.2.1):=by
 unfold Qdo
 exact Q0c (Qng h hc.pc (.inr rfl) 1) λx0 h0=>w_br (λ_=>⟨U_0,h0.2⟩) (λ_=>Q0c (Qup h0.2 h0.1 (.inr rfl)) λx1 h1=>⟨h1.1,h0.2⟩)
end
theorem qax{s a b:Int}:U (Q9u s a b):=by
 refine Tree.post (Qru s a b) (W:=U) ?_
 unfold Qru
 exact w_br (λ_=>Q0u _) (λ_=>Q0u _)
section
variable {c:Q05} (h:Q2n c)
include h
theorem Qqn(k:Int){b:Int}(hb:U b):Q2n (Q4u c k b):=by
 refine(Tree.post (Qni c k b) (W:=Q2n) ?_)
 unfold Qni
 refine w_lv λ_ _=>w_lv λ_ _=>⟨h.x,h.a1,?_⟩
 intro w hw
 simp only[A8.l,cP,cQ,or_false]at hw
 rcases hw with rfl|rfl|rfl|rfl|rfl|rfl|rfl|rfl
 . exact Q0u _
 . exact h.a1
 . exact h.pc
 . exact Q0u _
 . exact hb
 . exact h.a5
 . exact h.a6
 . exact h.a7
theorem zw:Q2n (Qg8 c):=by
 refine(Tree.post (Qhb c) (W:=Q2n) ?_)
 unfold Qhb
 refine w_lv λx0 _=>w_lv λx1 h1=>⟨h.x,h.a2,?_⟩
 intro w hw
 simp only[A8.l,cP,cQ,or_false]at hw
 rcases hw with rfl|rfl|rfl|rfl|rfl|rfl|rfl|rfl
 . rw[h1];exact qax
 . exact h.a1
 . exact h.a2
 . exact h.a3
 . exact h.a4
 . exact h.a5
 . exact h.a6
 . exact h.a7
theorem Qtk{r:Int}(hr:0<=r/\r<16){v:Int}(hv:U v):(Qef c r v).w Q2n:=by
 unfold Qef
 exact w_br (λ_=>w_cn (rc hr) ⟨Zla h.x hv _,h.pc,h.csr⟩) (λ_=>h)
theorem Zo(k:Int){v:Int}(hv:U v):(Qds c k v).w Q2n:=by
 have ok: ∀i v,U v->Q2n {X:=c.X,Pc:=c.Pc,B8:=A8.of 0 (dB (A8.l c.B8) i v)}:=λi v hv=>⟨h.x,h.pc,Zhv h.csr hv i⟩
 unfold Qds
 repeat'(first
   |exact h
   |exact ok _ _ (Q0u _)
   |exact ok _ _ hv
   |refine w_br (λhk=> ?_) (λ_=> ?_)
   |refine w_cn (by rw[eq_of_beq (by assumption:(k==_)=true)];decide) ?_)
end
theorem Zi8{a b:Int}(ha:U a)(hb:U b):(Qb8 a b).w (λr=>U r.1/\U r.2):=by
 have u1:U 4294967295:=⟨by omega,by omega⟩
 unfold Qb8
 refine w_br (λ_=>⟨u1,ha⟩) (λh=> ?_)
 have h: ¬b=0:=by simpa using h
 obtain⟨b1,b2⟩:=hb
 have hc:decide (wrap i32 b≠0)=true:=dY (by rw[wrap_i32];omega)
 exact w_br (λ_=>w_br (λ_=>⟨ha,U_0⟩) (λ_=>w_cn hc (w_cn hc ⟨Q0u _,Q0u _⟩))) (λ_=>w_cn hc (w_cn hc ⟨Q0u _,Q0u _⟩))
theorem zax(b:Bool):U (Qr4 b):=by cases b<;>exact⟨by decide,by decide⟩
theorem Z9t(op:Int){a b:Int}(ha:U a)(hb:U b):(Qr2 op a b).w (λr=>U r.1):=by
 unfold Qr2
 repeat'(first
   |refine w_br (λ_=> ?_) (λ_=> ?_)
   |exact Q0c (Zi8 ha hb) λx hx=>hx.1
   |exact Q0c (Zi8 ha hb) λx hx=>hx.2
   |exact w_lv λx hx=>(by rw[hx];exact zax _)
   |refine w_lf ?_)
 all_goals(first
   |exact Q0u _
   |exact Qyg ha _
   |exact U_0)
theorem Zct(op:Int):Qhk op=1\/Qhk op=4:=by
 simp only[Qhk,Qu9,Tree.m]
 cases op==32<;>cases op==35<;>simp
section
variable {c:Q05} (h:Q2n c) {i:Q0o} (hi:Qhc i)
include h hi
theorem Zrl:(Q5g c i).w (λr=>Q2n r.1/\U r.2.Value):=by
 have k: ∀{x:Q05} {p:Int},Q2n x->U p->Q2n {X:=x.X,Pc:=p,B8:=x.B8}:=λhx hp=>⟨hx.x,hp,hx.csr⟩
 unfold Q5g
 refine w_cn (rc hi.a) (w_cn (rc hi.b) ?_)
 repeat'(first
   |refine w_br (λ_=> ?_) (λ_=> ?_)
   |exact Q0c (Qtk h hi.a (Q0u _)) λx hx=>⟨k hx (Q0u _),U_0⟩
   |exact w_lv λx _=>w_br (λ_=>⟨k h (Q0u _),U_0⟩) (λ_=>⟨k h (Q0u _),U_0⟩)
   |exact w_lv λx hx=>⟨by rw[hx];exact Qqn h _ U_0,U_0⟩
   |exact w_lv λx hx=>⟨by rw[hx];exact zw h,U_0⟩
   |exact w_cn (by have:=hi.csr (by simp_all);simp [bT];omega) (Q0c (Qtk h hi.a (h.a _)) λx hx=>⟨k hx (Q0u _),U_0⟩)
   |exact Q0c (Zo h _ (h.r _)) λx hx=>⟨k hx (Q0u _),U_0⟩
   |refine w_cn (rc hi.c) ?_
   |exact Q0c (Z9t _ (h.r _) (Q0u _)) λy hy=>Q0c (Qtk h hi.a hy) λx hx=>⟨k hx (Q0u _),U_0⟩
   |exact Q0c (Z9t _ (h.r _) (h.r _)) λy hy=>Q0c (Qtk h hi.a hy) λx hx=>⟨k hx (Q0u _),U_0⟩
   |refine w_lf ?_)
 all_goals(first
   |exact⟨k h (Q0u _),U_0⟩
   |exact⟨k h (Q0u _),h.r _⟩)
theorem Z46{P:Nat}{m:List Int}(hm:Q17 P m):(Qfz c m i).w (λr=>Q2n r.1/\Q17 P r.2):=by
 have w:=Zct i.Op
 unfold Qfz
 refine w_cn (rc hi.b) (w_lv λx0 h0=> ?_)
 rw[<-h0]at w
 refine Q0c (Qng hm (Q0u _) w 2) λx1 h1=>w_br (λ_=>w_lv λy hy=>⟨by rw[hy];exact Qqn h _ (Q0u _),h1.2⟩) (λ_=>w_lv λx3 h3=> ?_)
 rw[h0,<-h3]at w
 exact Q0c (Qup h1.2 h1.1 w) λx4 h4=>w_br (λ_=>Q0c (Qy2 h4.1 8) λy hy=>Q0c (Qtk h hi.a hy) λx hx=>⟨⟨hx.x,Q0u _,hx.csr⟩,h1.2⟩) (λ_=>Q0c (Qtk h hi.a h4.1) λx hx=>⟨⟨hx.x,Q0u _,hx.csr⟩,h1.2⟩)
theorem Z0b{P:Nat}{m:List Int}(hm:Q17 P m):(Qdh c m i).w (λr=>Q2n r.1/\Q17 P r.2):=by
 have w:=Zct i.Op
 unfold Qdh
 refine w_cn (rc hi.b) (w_lv λx0 h0=> ?_)
 rw[<-h0]at w
 refine Q0c (Qng hm (Q0u _) w 3) λx1 h1=>w_br (λ_=>w_lv λy hy=>⟨by rw[hy];exact Qqn h _ (Q0u _),h1.2⟩) (λ_=>w_lv λx3 h3=>w_cn (rc hi.a) ?_)
 rw[h0,<-h3]at w
 exact Q0c (Z2g h1.2 h1.1 w (h.r _)) λx hx=>⟨⟨h.x,Q0u _,h.csr⟩,hx⟩
end
theorem yw{c:Q05}(h:Q2n c){P:Nat}{m:List Int}(hm:Q17 P m):(Q7x c m).w (λr=>Q2n r.1/\Q17 P r.2.1/\U r.2.2.Value):=by
 unfold Q7x
 refine Q0c (Zcu hm h) λx0 h0=>w_br (λ_=>w_lv λy hy=>⟨by rw[hy];exact Qqn h _ h.pc,h0.2,U_0⟩) (λ_=>Q0c (Z5i _) λx2 h2=>w_br (λ_=>w_lv λy hy=>⟨by rw[hy];exact Qqn h _ h0.1,h0.2,U_0⟩) (λhb=> ?_))
 have hi:=h2 (by simpa using hb)
 refine w_lv λx4 _=> ?_
 repeat'(first
   |refine w_br (λ_=> ?_) (λ_=> ?_)
   |exact Q0c (Z46 h hi h0.2) λx hx=>⟨hx.1,hx.2,U_0⟩
   |exact Q0c (Z0b h hi h0.2) λx hx=>⟨hx.1,hx.2,U_0⟩
   |exact Q0c (Zrl h hi) λx hx=>⟨hx.1,h0.2,hx.2⟩
   |exact w_lv λy hy=>⟨by rw[hy];exact Qqn h _ h0.1,h0.2,U_0⟩
   |refine w_lv λ_ _=> ?_)
theorem Zp{a:Int}(h:U a)(k:Nat)(hk:k<=32):0<=ishr .u32 a k/\ishr .u32 a k*2^k<=a:=by
 obtain⟨h1,h2⟩:=h
 unfold ishr
 have e:min (k:Int).toNat u32.bits=k:=by show min (k:Int).toNat 32=k;omega
 have hp:(0:Int)<2^k:=dI (by decide)
 rw[e,dJ _ (dK hp)]
 exact⟨Int.ediv_nonneg h1 (dK hp),Int.ediv_mul_le a (Int.ne_of_gt hp)⟩
theorem Zoy(x:Int):0<=u8.wrap x/\u8.wrap x<256:=by rw[wrap_u8];omega
theorem xax{x:Int}(h:U x):(Q2b x).w (λ_=>True):=by
 have s16:=Zp h 16 (by omega)
 have s8:=Zp h 8 (by omega)
 have s24:=Zp (Qyg h 16) 8 (by omega)
 obtain⟨h1,h2⟩:=h
 unfold Q2b
 repeat'(first
   |refine w_br (λ_=> ?_) (λ_=> ?_)
   |refine w_cn (dY ⟨?_,gX (b:=256) ?_ (gY (by kernel_rfl))⟩) ?_
   |exact trivial
   |refine w_lf ?_)
 all_goals(first
   |trivial
   |exact(Zoy _).1
   |exact(Zoy _).2
   |(simp only[decide_eq_true_eq,decide_eq_false_iff_not]at*;simp at s16 s8 s24;omega))
theorem and255(a:Int):iand .u32 a 255<256:=by
 unfold iand
 rw[wrap_u32]
 have:(dS u32.bits a&&&dS u32.bits 255).toNat<=255:=by
   show(dS 32 a&&&dS 32 255).toNat<=255
   rw[dV]
   exact Nat.le_trans Nat.and_le_right (by decide)
 omega
theorem xaM{x:Int}(h:U x):(Q3k x).w (λ_=>True):=by
 have s24:=Zp h 24 (by omega)
 obtain⟨h1,h2⟩:=h
 have i24:ishr .u32 x 24<256:=by simp at s24;omega
 unfold Q3k
 repeat'(first
   |refine w_cn (dY ⟨?_,gX (b:=256) ?_ (gY (by kernel_rfl))⟩) ?_
   |exact trivial
   |refine w_lf ?_)
 all_goals(first
   |trivial
   |exact(Q0u _).1
   |exact s24.1
   |exact i24
   |exact and255 _)
structure okS(P:Nat)(m:Q00):Prop where
 cpu:Q2n m.B2
 mem:Q17 P m.Mem
 disk:Q9p m.B1
 nic:Ql6 m.C2
 target:U m.A1.C9
 given:U m.A1.C5
theorem Zod{b:Q07}(h:U b.C5):(Qa5 b).w (λ_=>True):=by
 unfold Qa5
 exact Q0c (xaM h) λ_ _=>trivial
theorem Zak{m:Q00}(h:U m.A1.C5):(Q8m m).w (λ_=>True):=by
 have b: ∀x,(Q5i m.A1 x).w (λ_=>True):=λx=>by
   unfold Q5i
   exact Q0c (xax h) λ_ _=>trivial
 have d:(Q2c m).w (λ_=>True):=by
   unfold Q2c
   exact w_lv λ_ _=>w_lv λ_ _=>w_br (λ_=>w_lv λ_ _=>w_br (λ_=>w_lv λ_ _=>w_br (λ_=>w_lv λ_ _=>w_br (λ_=>Q0c (b _) λ_ _=>trivial) (λ_=>trivial)) (λ_=>trivial)) (λ_=>trivial)) (λ_=>trivial)
 unfold Q8m
 repeat'(first
   |refine w_br (λ_=> ?_) (λ_=> ?_)
   |exact Q0c d λ_ _=>trivial
   |refine w_lv λ_ _=> ?_
   |exact trivial)
theorem Znn{m:Q00}(h:U m.A1.C5):(Q7t m).w (λ_=>True):=by
 have p:(Q5w m.A1).w (λ_=>True):=by
   unfold Q5w
   exact Q0c (Zod h) λ_ _=>trivial
 unfold Q7t
 refine w_lv λx0 _=>w_lv λx1 _=>w_lv λx2 _=>w_lv λx3 _=>Q0c p λx4 _=>w_lp (inv:=λz=>0<=z.2/\z.2<=5) (μ:=Qjn m) ⟨by omega,by omega⟩ (cK _) (λz hz=> ?_)
 obtain⟨z1,z2⟩:=hz
 have ew:z.2<5->i64.wrap (z.2+1)=z.2+1:=λ_=>by rw[wrap_i64];omega
 refine w_br (λhb=> ?_) (λ_=>trivial)
 have hb:=oY hb
 have nx:(0<=i64.wrap (z.2+1)/\i64.wrap (z.2+1)<=5)/\(5-i64.wrap (z.2+1)).toNat<(5-z.2).toNat:=by rw[ew hb];omega
 refine w_cn (by simp;omega) (w_br (λ_=>w_cn (dY z1) (w_nx nx)) (λ_=>w_nx nx))
theorem Qxd{m:Q00}(h:U m.A1.C5):(Q39 m).w U:=by
 unfold Q39
 exact Q0c (Znn h) λ_ _=>Zmk _ _
theorem Zms{m:Q00}(h:U m.A1.C5):(Q4e m).w (λ_=>True):=by
 have i:(Q3e m).w (λ_=>True):=by
   unfold Q3e
   exact w_br (λ_=>Q0c (Qxd h) λ_ _=>trivial) (λ_=>trivial)
 unfold Q4e
 exact Q0c (Zak h) λ_ _=>w_br (λ_=>w_br (λ_=>Q0c i λ_ _=>w_br (λ_=>trivial) (λ_=>trivial)) (λ_=>trivial)) (λ_=>trivial)
theorem xU{P:Nat}{m:Q00}(h:okS P m):(Q2w m).w (okS P):=by
 obtain⟨h1,h2,h3,h4,h5,h6⟩:=h
 unfold Q2w
 refine w_br (λ_=>⟨h1,h2,h3,h4,h5,h6⟩) (λ_=>Q0c (Qxd (m:=⟨_,_,_,_,_,_,m.A1,_,_,_⟩) h6) λx0 _=>w_lp (inv:=λz=>0<=z/\z<=5) (μ:=Qdj m) ⟨by omega,by omega⟩ (cK _) (λz hz=> ?_))
 obtain⟨z1,z2⟩:=hz
 refine w_br (λhb=>w_cn (dY z1) (w_br (λ_=>w_lv λx1 hx=>⟨by rw[hx];exact Qqn h1 _ U_0,h2,h3,h4,h5,h6⟩) (λ_=>w_nx ?_))) (λ_=>⟨h1,h2,h3,h4,h5,h6⟩)
 have hb:=oY hb
 show(0<=i64.wrap (z+1)/\i64.wrap (z+1)<=5)/\(5-i64.wrap (z+1)).toNat<(5-z).toNat
 have ew:i64.wrap (z+1)=z+1:=by rw[wrap_i64];omega
 rw[ew];omega
theorem Qgk{P:Nat}{m:List Int}(h:Q17 P m):Q40 m=P:=by
 obtain⟨h1,h2,h3,_⟩:=h
 simp only[Q40,Qqd,Tree.m]
 have e:(m.length:Int)=32*P:=by omega
 rw[e]
 have e1:(cX (32*(P:Int)) 32 !=0)=false:=by simp [gU]
 have e2:decide ((32*(P:Int))>1024)=false:=dN (by omega)
 rw[e1,e2]
 simp only[cond_false]
 rw[gW _ (by decide),wrap_i64];omega
theorem Qo5{P:Nat}{m:List Int}(h:Q17 P m){f:Int}(hf:U f):Q29 m f=decide (f<P):=by
 have:=Qgk h
 obtain⟨h1,h2⟩:=hf
 have h3:=h.p2
 simp only[Q29,Ql3,Tree.m,letv,this]
 congr 1
 rw[wrap_u64,wrap_u64,dH h1 (by omega),dH (by omega) (by omega)]
theorem z8{P:Nat}{m:List Int}(h:Q17 P m):(Qa0 m).w (λr=>r=m):=by
 obtain⟨h1,h2,h3,_⟩:=h
 unfold Qa0
 refine w_cn ?_ ?_
 . simp [bT,D.plain];omega
 . show _=_
   simp
theorem put_w{P:Nat}{m:List Int}(h:Q17 P m){addr size v:Int}(ha:U addr)(hl:addr<4*m.length)(hv:U v):(Qfo m addr size v).w (Q17 P):=by
 obtain⟨h1,h2,h3,h4⟩:=h
 obtain⟨a1,a2⟩:=ha
 have e:wrap u32 (eO addr 4)=addr/4:=by rw[wrap_u32,eQ a1];omega
 have hc:(bS 1 1&&bT 0 1&&decide (0<=wrap u32 (eO addr 4)/\wrap u32 (eO addr 4)<(m.length:Int)))=true:=by
   rw[e];simp [bT];omega
 have h0: ∀x,decide (0<=wrap u32 x)=true:=λx=>dY (Q0u x).1
 have hs: ∀i v,U v->Q17 P (m.set i v):=λi v hv=>⟨by simp [h1],h2,h3,Z8j h4 hv i⟩
 unfold Qfo
 exact w_br (λ_=>w_cn hc (hs _ _ hv)) (λ_=>w_cn hc (w_cn (h0 _) (w_cn (h0 _) (w_cn hc (hs _ _ (U_or _ _))))))
theorem y8{P:Nat}{m:List Int}(h:Q17 P m){frame:Int}(f0:0<=frame)(f1:frame<P)(s:List UInt8):(Qa8 m frame s).w (Q17 P):=by
 unfold Qa8
 have h3:=h.p2
 refine w_lp (inv:=λz=>0<=z.1/\z.1<=128/\Q17 P z.2) (μ:=Qk7 m frame s) ⟨by omega,by omega,h⟩ (cK _) (λv0 hv0=> ?_)
 obtain⟨i0,i1,hm⟩:=hv0
 refine w_br (λh1=>w_br (λh2=>w_cn ?_ ?_) (λ_=>hm)) (λ_=>hm)
 . have:=oY h1
   simp [bT];omega
 . have h2:=oY h2
   have e:wrap u32 (wrap i64 (wrap i64 (frame*128)+v0.1))=frame*128+v0.1:=by
     rw[wrap_u32,wrap_i64,wrap_i64];omega
   rw[e]
   obtain⟨g1,g2⟩:=Tree.pp (put_w hm (size:=1) (addr:=frame*128+v0.1) ⟨by omega,by omega⟩ (by rw[hm.len];omega) (Q0u (UInt8.toNat (s.getD v0.1.toNat 0))))
   refine w_an g1 (w_lv λx0 hx0=> ?_)
   rw[hx0]
   have ew:i64.wrap (v0.1+1)=v0.1+1:=by rw[wrap_i64];omega
   refine w_nx ?_
   show(0<=i64.wrap (v0.1+1)/\i64.wrap (v0.1+1)<=128/\Q17 P _)/\(128-i64.wrap (v0.1+1)).toNat<(128-v0.1).toNat
   rw[ew]
   exact⟨⟨by omega,by omega,g2⟩,by omega⟩
theorem Zdm{P:Nat}{m:List Int}(h:Q17 P m){d:Q0h}(hd:Q9p d)(e:Q0b):(Qbh d m e).w (λr=>Q9p r.1/\Q17 P r.2.2):=by
 have fl:Q29 m d.B4=true->(Qa8 m (i64.wrap d.B4) e.D0).w (Q17 P):=λhp=>by
   rw[Qo5 h hd.opFrame]at hp
   have:=oY hp
   have h1:=hd.opFrame.1
   have h3:=h.p2
   have ew:i64.wrap d.B4=d.B4:=by rw[wrap_i64];omega
   rw[ew]
   exact y8 h h1 this _
 have l0:Q9p d/\Q17 P m:=⟨hd,h⟩
 have l1: ∀st,Q9p {Blocks:=d.Blocks,C3:=d.C3,Frame:=d.Frame,C4:=st,D8:=0,B9:=0,B4:=0,C6:=[]}:=λst=>⟨hd.block,hd.frame,U_0,U_0⟩
 unfold Qbh
 repeat'(first
   |exact l0
   |exact⟨l1 _,h⟩
   |refine w_br (λ_=> ?_) (λ_=> ?_)
   |refine w_lv (λ_ _=> ?_))
 all_goals(
   first
     | (have hp:Q29 m d.B4=true:=by simp_all
        obtain⟨g1,g2⟩:=Tree.pp (fl hp)
        refine w_an g1 (w_lv λx hx=> ?_)
        rw[hx]
        exact w_br (λ_=>⟨l1 _,g2⟩) (λ_=>⟨l1 _,g2⟩))
     |(exfalso;simp_all;done))
section
variable {c:Q05} (h:Q2n c)
include h
theorem Z35(k:Int){b:Int}(hb:U b):Q2n (Q2x c k b):=by
 refine(Tree.post (Qkd c k b) (W:=Q2n) ?_)
 unfold Qkd
 refine w_lv λ_ _=>w_lv λ_ _=>⟨h.x,h.a1,?_⟩
 intro w hw
 simp only[A8.l,cP,cQ,or_false]at hw
 rcases hw with rfl|rfl|rfl|rfl|rfl|rfl|rfl|rfl
 . exact U_or _ _
 . exact h.a1
 . exact h.pc
 . exact Q0u _
 . exact hb
 . exact h.a5
 . exact h.a6
 . exact h.a7
theorem zU:Q2n (Qk c):=by
 refine(Tree.post (Qek c) (W:=Q2n) ?_)
 unfold Qek
 refine w_lv λ_ _=>w_lv λ_ _=>⟨h.x,h.a2,?_⟩
 intro w hw
 simp only[A8.l,cP,cQ,or_false]at hw
 rcases hw with rfl|rfl|rfl|rfl|rfl|rfl|rfl|rfl
 . exact U_or _ _
 . exact h.a1
 . exact h.a2
 . exact h.a3
 . exact h.a4
 . exact h.a5
 . exact h.a6
 . exact h.a7
theorem Z6r(r:Int){v:Int}(hv:U v):(Qg1 c r v).w Q2n:=by
 unfold Qg1
 refine w_br (λh1=>w_br (λh2=>w_cn ?_ ⟨Zla h.x hv _,h.pc,h.csr⟩) (λ_=>h)) (λ_=>h)
 have h1:=oY h1
 have h2:=oY h2
 simp [bT];omega
theorem qay(k:Int){v:Int}(hv:U v):(Qe1 c k v).w Q2n:=by
 have ok: ∀i v,U v->Q2n {X:=c.X,Pc:=c.Pc,B8:=A8.of 0 (dB (A8.l c.B8) i v)}:=λi v hv=>⟨h.x,h.pc,Zhv h.csr hv i⟩
 unfold Qe1
 repeat'(first
   |exact h
   |exact ok _ _ (Q0u _)
   |exact ok _ _ hv
   |refine w_br (λhk=> ?_) (λ_=> ?_)
   |refine w_cn (by rw[eq_of_beq (by assumption:(k==_)=true)];decide) ?_)
end
section
variable {P:Nat} {m:List Int} (h:Q17 P m)
include h
theorem Zdc(a:Int){size:Int}(hs:size=1\/size=4):(Q8x m a size).w (λb=>b=true->a<128*P):=by
 have hp:=Qgk h
 have h2:=h.p2
 have e:decide (wrap u32 size≠0)=true:=by rcases hs with rfl|rfl<;>decide
 have l: ∀x,x=Q40 m->decide (a<wrap u32 (wrap i64 (128*x)))=true->a<128*P:=λx hx hd=>by
   rw[hx,hp,wrap_u32,wrap_i64]at hd
   have:=oY hd
   omega
 unfold Q8x
 refine w_br (λ_=>w_br (λ_=>λh=>by cases h) (λ_=> ?_)) (λ_=> ?_)<;>
 exact w_cn e (w_br (λ_=>w_lv λx hx=>l x hx) (λ_=>λh=>by cases h))
theorem idx{a:Int}(ha:U a)(hl:a<128*P):(bS 1 1&&bT 0 1&&decide (0<=wrap u32 (eO a 4)/\wrap u32 (eO a 4)<(m.length:Int)))=true:=by
 obtain⟨a1,a2⟩:=ha
 have e:wrap u32 (eO a 4)=a/4:=by rw[wrap_u32,eQ a1];omega
 have:=h.len
 rw[e];simp [bT];omega
theorem Zh{a:Int}(ha:U a){size:Int}(hs:size=1\/size=4):(Q43 m a size).w (λr=>U r.1):=by
 obtain⟨g1,g2⟩:=Tree.pp (Zdc h a hs)
 unfold Q43
 refine w_an g1 (w_lv λx hx=>w_br (λ_=>U_0) (λhb=> ?_))
 have hb:x=true:=by simpa using hb
 have hl:=g2 (hx.symm.trans hb)
 refine w_cn (idx h ha hl) (w_br (λ_=>w_cn (dY (Q0u _).1) (Q0u _)) (λ_=>Qmr h.u _))
theorem qaN{a:Int}(ha:U a)(access:Int):(Qgc m a access).w (Q17 P):=by
 obtain⟨g1,g2⟩:=Tree.pp (Zdc h a (size:=4) (.inr rfl))
 have hs: ∀{m:List Int} i v,Q17 P m->U v->Q17 P (m.set i v):=λi v h hv=>⟨by simp [h.len],h.p1,h.p2,Z8j h.u hv i⟩
 unfold Qgc
 refine w_an g1 (w_lv λx hx=>w_br (λ_=>h) (λhb=> ?_))
 have hb:x=true:=by simpa using hb
 have hl:=g2 (hx.symm.trans hb)
 have i0:=idx h ha hl
 have h':=hs (Int.toNat (wrap u32 (eO a 4))) (ior u32 (m.getD (Int.toNat (wrap u32 (eO a 4))) 0) 8) h (U_or _ _)
 have i1:=idx h' ha hl
 exact w_cn i0 (w_cn i0 (w_br (λ_=>w_cn i1 (w_cn i1 (hs _ _ h' (U_or _ _)))) (λ_=>h')))
theorem y9{root va:Int}(hr:U root)(hv:U va)(access:Int):(Qa3 m root va access).w (λt=>U t.Addr/\U t.F2/\(t.F0=0->t.Addr<128*P)):=by
 have hp:=Qgk h
 have h2:=h.p2
 have hlen:=h.len
 obtain⟨r1,r2⟩:=hr
 obtain⟨v1,v2⟩:=hv
 unfold Qa3
 refine w_lv λx0 hx0=>w_lv λx1 hx1=>w_lv λx2 _=> ?_
 have hc:x0≠0:=by
   rw[hx0]
   simp only[Q26,Q9i,Tree.m]
   cases access==1<;>cases access==3<;>simp
 rw[hp]at hx1
 have bad:U (0:Int)/\U (0:Int)/\(x0=0->(0:Int)<128*P):=⟨U_0,U_0,λe=>absurd e hc⟩
 refine w_br (λ_=>bad) (λ_=>w_br (λ_=>bad) (λhva=>w_br (λ_=>bad) (λhro=> ?_)))
 have hva:=oN hva
 have hro:=oN hro
 have e1:wrap u32 x1=P:=by rw[hx1,wrap_u32];omega
 rw[e1]at hro
 have e2:wrap u32 (wrap u32 (root*128)+wrap u32 (4*wrap u32 (eO va 128)))=root*128+4*(va/128):=by
   rw[eQ v1,wrap_u32,wrap_u32,wrap_u32,wrap_u32];omega
 have hU:U (wrap u32 (wrap u32 (root*128)+wrap u32 (4*wrap u32 (eO va 128)))):=Q0u _
 have ci:=idx h hU (by rw[e2];omega)
 have good: ∀w:Int,decide (iand u32 w 255>=wrap u32 x1)=false->(U (wrap u32 (wrap u32 (iand u32 w 255*128)+cX va 128))/\U (wrap u32 (wrap u32 (root*128)+wrap u32 (4*wrap u32 (eO va 128))))/\((0:Int)=0->wrap u32 (wrap u32 (iand u32 w 255*128)+cX va 128)<128*P)):=λw hw=>by
   have hw:=oN hw
   rw[e1]at hw
   have hn:=(Zmk w 255).1
   refine⟨Q0u _,Q0u _,λ_=> ?_⟩
   rw[Int.tmod_eq_emod_of_nonneg v1,wrap_u32,wrap_u32]
   generalize iand u32 w 255=q at*
   omega
 refine w_cn ci ?_
 repeat'(first
   |exact bad
   |exact good _ (by assumption)
   |refine w_br (λ_=> ?_) (λ_=> ?_)
   |refine w_cn ci ?_)
theorem Ze3{c:Q05}(hc:Q2n c){va:Int}(hv:U va){size:Int}(hs:size=1\/size=4)(access:Int):(Q8d c m va size access).w (λr=>Q17 P r.2.2/\U r.1/\(r.2.1=0->r.1<128*P)):=by
 have e:decide (wrap u32 size≠0)=true:=by rcases hs with rfl|rfl<;>decide
 obtain⟨g1,g2⟩:=Tree.pp (Zdc h va hs)
 obtain⟨k1,k2⟩:=Tree.pp (y9 h hc.a6 hv access)
 have bad: ∀k:Int,k≠0->Q17 P m/\U (0:Int)/\(k=0->(0:Int)<128*P):=λk hk=>⟨h,U_0,λe=>absurd e hk⟩
 have hca:Q26 access≠0:=by
   simp only[Q26,Q9i,Tree.m]
   cases access==1<;>cases access==3<;>simp
 unfold Q8d
 refine w_lv λx0 _=>w_br (λ_=>bad 5 (by decide)) (λ_=>w_br (λh1=>w_br (λh2=> ?_) (λ_=> ?_)) (λ_=> ?_))
 . exact bad 5 (by decide)
 all_goals(
   refine w_cn e (w_br (λ_=>bad 3 (by decide)) (λ_=>w_lv λx1 _=>w_br (λ_=>w_an g1 (w_lv λx2 hx2=>w_br (λ_=>w_lv λx3 hx3=>bad x3 (by rw[hx3];exact hca)) (λhb=> ?_))) (λ_=>w_an k1 (w_lv λx4 hx4=>w_br (λhb=> ?_) (λhb=> ?_)))))
   . have hb:x2=true:=by simpa using hb
     exact⟨h,hv,λ_=>g2 (hx2.symm.trans hb)⟩
   . exact bad _ (by simpa using hb)
   . obtain⟨t1,t2,t3⟩:=k2
     rw[show(Qa3 m c.B8.a6 va access).m=x4 from hx4.symm]at t1 t2 t3
     obtain⟨m1,m2⟩:=Tree.pp (qaN h t2 access)
     refine w_an m1 (w_lv λx5 hx5=> ?_)
     exact⟨hx5▸m2,t1,λ_=>t3 (by simpa using hb)⟩)
end
theorem vw{r:Int}(h:Q8w r=true):0<=r/\r<16:=by
 simp only[Q8w,Qf3,Tree.m]at h
 cases h1:decide (r>=0)<;>rw[h1]at h
 . cases h
 . have h1:=oY h1
   have h:=oY h
   omega
theorem yU{i:Q0o}(hi:wrap .i64 i.Imm=i.Imm)(h:Q81 i=true):Qhc i:=by
 have no:false=true->Qhc i:=λh=>by cases h
 refine(Tree.post (Qh6 i) (W:=λb=>b=true->Qhc i) ?_) h
 unfold Qh6
 refine w_lv λx0 h0=>w_br (λ_=>no) (λ_=>w_lv λx1 h1=>w_br (λ_=>no) (λb1=>w_lv λx2 h2=>w_br (λ_=>no) (λb2=>w_lv λx3 h3=>w_br (λ_=>no) (λb3=>w_lv λx4 h4=>w_br (λ_=>no) (λb4=>w_br (λ_=>no) (λb5=> ?_))))))
 have b1:x1=true:=by simpa using b1
 have b2:x2=true:=by simpa using b2
 have b3:x3=true:=by simpa using b3
 have b4:=oN b4
 have b5:=oN b5
 rw[hi]at b4 b5
 have ok:Qhc i:=⟨vw (h1.symm.trans b1),vw (h2.symm.trans b2),vw (h3.symm.trans b3),λe=>by
   rw[e]at h0
   have h0:x0=8:=h0
   subst h0
   have h4:x4=(0,7):=h4
   subst h4
   simp at b4 b5;omega⟩
 repeat'(first
   |exact λ_=>ok
   |exact no
   |refine w_br (λ_=> ?_) (λ_=> ?_))
theorem Zob(w:Int):(Q6z w).w (λr=>r.2=true->Qhc r.1):=by
 have no: ∀{p:Prop},false=true->p:=λh=>by cases h
 have e: ∀x,wrap .i64 (wrap .i32 x)=wrap .i32 x:=λx=>by rw[wrap_i64,wrap_i32];omega
 have ok: ∀i,wrap .i64 i.Imm=i.Imm-> ∀x,x=Q81 i->(!x)=false->true=true->Qhc i:=λi hi x hx hb _=>yU hi (hx.symm.trans (by simpa using hb))
 unfold Q6z
 refine w_lv λx0 _=> ?_
 have l: ∀i,wrap .i64 i.Imm=i.Imm->(Tree.lv (Q81 i) λx=> .br (!x) (.lf ((⟨0,0,0,0,0⟩:Q0o),false)) (.lf (i,true))).w (λr=>r.2=true->Qhc r.1):=λi hi=>w_lv λx hx=>w_br (λ_=>no) (λhb=>ok i hi x hx hb)
 refine w_br (λ_=>no) (λ_=>w_br (λ_=>l _ rfl) (λ_=>w_br (λ_=>l _ (e _)) (λ_=>w_br (λ_=>l _ (e _)) (λ_=>l _ (e _)))))
theorem bit_w(b:Bool):U (Qd6 b):=by cases b<;>exact⟨by decide,by decide⟩
theorem Znz{a b:Int}(ha:U a)(hb:U b):(Qbp a b).w (λr=>U r.1/\U r.2):=by
 unfold Qbp
 refine w_br (λ_=>⟨⟨by omega,by omega⟩,ha⟩) (λh=> ?_)
 have h: ¬b=0:=by simpa using h
 obtain⟨b1,b2⟩:=hb
 have hc:decide (wrap i64 (wrap i32 b)≠0)=true:=dY (by rw[wrap_i64,wrap_i32];omega)
 exact w_cn hc (w_cn hc ⟨Q0u _,Q0u _⟩)
theorem alu_w(op:Int){a b:Int}(ha:U a)(hb:U b):(Qnj op a b).w (λr=>U r.1):=by
 unfold Qnj
 refine w_lv λx0 _=> ?_
 repeat'(first
   |exact Q0u _
   |exact Qyg ha _
   |exact U_0
   |refine w_br (λ_=> ?_) (λ_=> ?_)
   |exact Q0c (Znz ha hb) λx hx=>hx.1
   |exact Q0c (Znz ha hb) λx hx=>hx.2
   |exact w_lv λx hx=>(by rw[hx];exact bit_w _))
theorem qx{x:Int}(hx:U x):(Q88 x 8).w U:=by
 unfold Q88
 have h0:decide (0<=wrap u64 8)=true:=by decide
 refine w_br (λh=>absurd h (by decide)) λ_=>w_br (λh=>absurd h (by decide)) λ_=>w_cn h0 (w_cn (by decide) (w_br (λ_=>w_cn h0 (U_or _ _)) (λ_=>Zmk _ _)))
section
variable {c:Q05} (h:Q2n c) {i:Q0o} (hi:Qhc i)
include h hi
theorem vU:(Q8n c i).w (λr=>Q2n r.1/\U r.2.Value):=by
 unfold Q8n
 refine w_br (λ_=>w_lv λx hx=>⟨hx▸Z35 h _ U_0,U_0⟩) (λ_=>w_br (λ_=>w_lv λx hx=>⟨hx▸zU h,U_0⟩) (λ_=>w_br (λe=>w_cn ?_ (Q0c (Z6r h _ (h.a _)) λx hx=>⟨hx.pcs (Q0u _),U_0⟩)) (λ_=>w_br (λ_=>w_cn (rc hi.a) (Q0c (qay h _ (h.r _)) λx hx=>⟨hx.pcs (Q0u _),U_0⟩)) (λ_=> ?_))))
 . have:=hi.csr (by simpa using e)
   simp [bT];omega
 . have k:=h.pcs (Q0u (c.Pc+4))
   repeat'(first
     |exact⟨k,U_0⟩
     |exact⟨k,h.r _⟩
     |refine w_br (λ_=> ?_) (λ_=> ?_)
     |refine w_cn (rc hi.a) ?_)
theorem zaN:(Qjd c i).w Q2n:=by
 unfold Qjd
 exact w_br (λ_=>Q0c (Z6r h _ (Q0u _)) λx hx=>hx.pcs (Q0u _)) (λ_=>w_br (λ_=>w_cn (rc hi.b) (Q0c (Z6r h _ (Q0u _)) λx hx=>hx.pcs (Q0u _))) (λ_=>w_cn (rc hi.a) (w_cn (rc hi.b) (w_lv λx _=>w_br (λ_=>h.pcs (Q0u _)) (λ_=>h.pcs (Q0u _))))))
theorem Zrg{P:Nat}{m:List Int}(hm:Q17 P m):(Qa c m i).w (λr=>Q2n r.1/\Q17 P r.2):=by
  unfold Qa
  refine w_cn (rc hi.b) ?_
  have e1:(1:Int)=1\/(1:Int)=4:= .inl rfl
  have e4:(4:Int)=1\/(4:Int)=4:= .inr rfl
  repeat'(first
    |refine w_br (λ_=> ?_) (λ_=> ?_)
    | (refine Q0c (Ze3 hm h (Q0u _) e4 _) λx hx=> ?_
       obtain⟨m1,m2,m3⟩:=hx
       refine w_br (λ_=>w_lv λy hy=>⟨hy▸Z35 h _ (Q0u _),m1⟩) (λhb=> ?_)
       have m3:=m3 (by simpa using hb)
       have m4:x.1<4*x.2.2.length:=by rw[m1.len];omega
       clear hb)
    | (refine Q0c (Ze3 hm h (Q0u _) e1 _) λx hx=> ?_
       obtain⟨m1,m2,m3⟩:=hx
       refine w_br (λ_=>w_lv λy hy=>⟨hy▸Z35 h _ (Q0u _),m1⟩) (λhb=> ?_)
       have m3:=m3 (by simpa using hb)
       have m4:x.1<4*x.2.2.length:=by rw[m1.len];omega
       clear hb)
    |exact w_cn (rc hi.a) (Q0c (put_w (by assumption) (by assumption) (by assumption) (h.r _)) λy hy=>⟨h.pcs (Q0u _),hy⟩)
    |(refine Q0c (Zh (by assumption) (by assumption) e4) λy hy=> ?_)
    |(refine Q0c (Zh (by assumption) (by assumption) e1) λy hy=> ?_)
    |exact Q0c (qx (by assumption)) λz hz=>Q0c (Z6r h _ hz) λu hu=>⟨hu.pcs (Q0u _),by assumption⟩
    |exact Q0c (Z6r h _ (by assumption)) λu hu=>⟨hu.pcs (Q0u _),by assumption⟩)
end
theorem do_w{c:Q05}(h:Q2n c){P:Nat}{m:List Int}(hm:Q17 P m):(Qr0 c m).w (λr=>Q2n r.1/\U r.2.1.Value/\Q17 P r.2.2):=by
 unfold Qr0
 refine Q0c (Ze3 hm h h.pc (.inr rfl) 1) λx0 hx=> ?_
 obtain⟨m1,m2,m3⟩:=hx
 refine w_br (λ_=>w_lv λy hy=>⟨hy▸Z35 h _ h.pc,U_0,m1⟩) (λhb=> ?_)
 refine Q0c (Zh m1 m2 (.inr rfl)) λx2 h2=>Zbi (Zob _) λx3 h3=>w_br (λ_=>w_lv λy hy=>⟨hy▸Z35 h _ h2,U_0,m1⟩) (λb3=> ?_)
 have hi:=h3 (by simpa using b3)
 refine w_lv λx5 _=> ?_
 repeat'(first
   |refine w_br (λ_=> ?_) (λ_=> ?_)
   |exact w_lv λy hy=>⟨hy▸Z35 h _ h2,U_0,m1⟩
   |exact Q0c (vU h hi) λy hy=>⟨hy.1,hy.2,m1⟩
   |exact Q0c (zaN h hi) λy hy=>⟨hy,U_0,m1⟩
   |exact Q0c (Zrg h hi m1) λy hy=>⟨hy.1,U_0,hy.2⟩
   |exact Q0c (Z6r h _ (Q0u _)) λy hy=>⟨hy.pcs (Q0u _),U_0,m1⟩
   |refine w_cn (rc hi.c) ?_
   |refine w_cn (rc hi.b) ?_
   |exact Q0c (alu_w _ (h.r _) (h.r _)) λy hy=>Q0c (Z6r h _ hy) λz hz=>⟨hz.pcs (Q0u _),U_0,m1⟩
   |exact Q0c (alu_w _ (h.r _) (Q0u _)) λy hy=>Q0c (Z6r h _ hy) λz hz=>⟨hz.pcs (Q0u _),U_0,m1⟩)
theorem and1{q:Int}(h:U q):iand .u32 q 1=q%2:=by
 obtain⟨h1,h2⟩:=h
 unfold iand
 rw[wrap_u32]
 have e1:(dS 32 q).toNat=q.toNat:=by rw[BitVec.toNat_ofInt];omega
 have e2:(dS 32 1).toNat=1:=by decide
 have:(dS u32.bits q&&&dS u32.bits 1).toNat=q.toNat%2:=by
   show(dS 32 q&&&dS 32 1).toNat=_
   rw[dV,e1,e2,Nat.and_one_is_mod]
 rw[this];omega
theorem Zfd(b:Bool)(n:Int):(Qk8 b n).w (λ_=>True):=by
 unfold Qk8
 exact w_br (λ_=>w_cn (dY (by rw[wrap_u64];omega)) trivial) (λ_=>trivial)
theorem zay(m:Q00):(Qh m).w (λ_=>True):=by
 unfold Qh
 exact w_lv λ_ _=>Q0c (Zfd _ _) λ_ _=>w_lv λ_ _=>Q0c (Zfd _ _) λ_ _=>w_lv λ_ _=>Q0c (Zfd _ _) λ_ _=>w_lv λ_ _=>Q0c (Zfd _ _) λ_ _=>w_lv λ_ _=>Q0c (Zfd _ _) λ_ _=>trivial
theorem Zh0(m:Q00):(Q9a m).w U:=by
 unfold Q9a
 exact Q0c (zay m) λ_ _=>Zmk _ _
theorem qaa(m:Q00):(Qfr m).w (λ_=>True):=by
 unfold Qfr
 exact w_br (λ_=>Q0c (Zh0 m) λ_ _=>trivial) (λ_=>trivial)
theorem Zcs(m:Q00):(Q8e m).w (λ_=>True):=by
 unfold Q8e
 exact w_lv λ_ _=>w_br (λ_=>trivial) (λ_=>w_br (λ_=>trivial) (λ_=>Q0c (qaa m) λ_ _=>w_br (λ_=>trivial) (λ_=>trivial)))
theorem Qit{m:Q00}(h:Q2n m.B2):(Q4y m).w Q2n:=by
 unfold Q4y
 refine Q0c (Zh0 m) λx0 hx=>w_br (λ_=>h) (λ_=>w_br (λ_=>h) (λhb=> ?_))
 have hb:x0≠0:=by simpa using hb
 have sh: ∀z:Int,0<=z->z<=31->ishr .u32 x0 (wrap .u64 z)=x0/2^z.toNat:=λz h1 h2=>by
   unfold ishr
   have e:min (wrap .u64 z).toNat u32.bits=z.toNat:=by
     show min (wrap .u64 z).toNat 32=z.toNat
     rw[wrap_u64];omega
   rw[e,dJ _ (dK (dI (by decide)))]
 refine w_lp (inv:=λz=>0<=z/\z<=31/\x0/2^z.toNat≠0) (μ:=Qfj m) ⟨by omega,by omega,by simpa using hb⟩ (cK _) (λz hz=> ?_)
 obtain⟨z1,z2,z3⟩:=hz
 refine w_cn (dY (by rw[wrap_u64];omega)) (w_br (λe=>w_nx ?_) (λ_=>w_lv λy hy=>hy▸Z35 h _ U_0))
 have e:=eq_of_beq e
 have hq:=Qyg hx (wrap .u64 z)
 rw[and1 hq,sh z z1 z2]at e
 rw[sh z z1 z2]at hq
 have hlt:x0/2^z.toNat/2≠0:=by omega
 have z4:z<=30:=by
   rcases Int.lt_or_le z 31 with h|h
   . omega
   . have:z=31:=by omega
     subst this
     have:=hx.2
     have:=hx.1
     simp at z3 e hlt
     omega
 show(0<=i64.wrap (z+1)/\i64.wrap (z+1)<=31/\x0/2^(i64.wrap (z+1)).toNat≠0)/\(32-i64.wrap (z+1)).toNat<(32-z).toNat
 have ew:i64.wrap (z+1)=z+1:=by rw[wrap_i64];omega
 rw[ew]
 refine⟨⟨by omega,by omega,?_⟩,by omega⟩
 have et:(z+1).toNat=z.toNat+1:=by omega
 rw[et,Int.pow_succ,<-Int.ediv_ediv_of_nonneg (dK (dI (by decide)))]
 exact hlt
theorem xx{P:Nat}{m:Q00}(h:Q2n m.B2)(hm:Q17 P m.Mem):(Qgx m).w (λ_=>True):=by
 unfold Qgx
 refine Q0c (Qit h) λx0 hx=>w_br (λ_=>trivial) (λ_=>Q0c (Zh hm hx.pc (.inr rfl)) λx1 _=>w_lv λx2 _=> ?_)
 exact w_br (λ_=>w_br (λ_=>w_br (λ_=>trivial) (λ_=>trivial)) (λ_=>trivial)) (λ_=>trivial)
theorem Qq4{P:Nat}{m:Q00}(h:Q2n m.B2)(hm:Q17 P m.Mem):(Q87 m).w (λ_=>True):=by
 unfold Q87
 exact Q0c (Zcs m) λ_ _=>w_br (λ_=>trivial) (λ_=>Q0c (xx h hm) λ_ _=>trivial)
theorem Qj6(l:List Int):(bytesOf l).length=l.length:=by simp [bytesOf]
theorem Qrq(l:List UInt8):(Qc9 l).length=l.length:=by simp [Qc9]
theorem low_w(x:Int):(Qiy x 4).w (λr=>r.length=4):=by
 unfold Qiy
 refine w_lp (inv:=λz=>0<=z.1/\z.1<=4/\(z.2.length:Int)=z.1) (μ:=Qgl x 4) ⟨by omega,by omega,rfl⟩ (cK _) (λz hz=> ?_)
 obtain⟨z1,z2,z3⟩:=hz
 refine w_br (λh=>w_cn (dY (by rw[wrap_u64];omega)) (w_cn (dY (by omega)) (w_nx ?_))) (λh=> ?_)
 . have h:=oY h
   show(0<=i64.wrap (z.1+1)/\i64.wrap (z.1+1)<=4/\((z.2++[_]).length:Int)=i64.wrap (z.1+1))/\(4-i64.wrap (z.1+1)).toNat<(4-z.1).toNat
   have ew:i64.wrap (z.1+1)=z.1+1:=by rw[wrap_i64];omega
   rw[ew]
   refine⟨⟨by omega,by omega,by simp;omega⟩,by omega⟩
 . have h:=oN h
   show(bytesOf z.2).length=4
   rw[Qj6];omega
theorem zaa{P:Nat}{m:List Int}(hm:Q17 P m)(frame:Int):(Qak m frame).w (λr=>0<=frame->frame<P->r.1.length=128):=by
 have hp:=Qgk hm
 have hl:=hm.len
 have h2:=hm.p2
 unfold Qak
 refine w_br (λh=>λh0 _=>by have:=oY h;omega) (λh=>w_lv λx0 hx=>w_br (λh1=>λ_ h2=>by have:=oY h1;rw[hx,hp]at this;omega) (λh1=> ?_))
 have h:=oN h
 have h1:=oN h1
 rw[hx,hp]at h1
 refine w_lp (inv:=λz=>0<=z.1/\z.1<=32/\(z.2.length:Int)=4*z.1) (μ:=Qjz m frame) ⟨by omega,by omega,rfl⟩ (cK _) (λz hz=> ?_)
 obtain⟨z1,z2,z3⟩:=hz
 refine w_br (λhb=> ?_) (λhb=> ?_)
 . have hb:=oY hb
   have e:wrap i64 (wrap i64 (frame*32)+z.1)=frame*32+z.1:=by rw[wrap_i64,wrap_i64];omega
   refine w_cn (by rw[e];simp [bT];omega) (w_an (show(4:Int)<=1000000000000 by decide) (Zbi (low_w _) λx1 h4=>w_cn (dY (by rw[Qrq,h4];omega)) (w_nx ?_)))
   show(0<=i64.wrap (z.1+1)/\i64.wrap (z.1+1)<=32/\((z.2++Qc9 x1).length:Int)=4*i64.wrap (z.1+1))/\(32-i64.wrap (z.1+1)).toNat<(32-z.1).toNat
   have ew:i64.wrap (z.1+1)=z.1+1:=by rw[wrap_i64];omega
   rw[ew,lA,Qrq,h4]
   exact⟨⟨by omega,by omega,by omega⟩,by omega⟩
 . have hb:=oN hb
   intro _ _
   show(bytesOf z.2).length=128
   rw[Qj6];omega
theorem Z3a{P:Nat}{m:List Int}(hm:Q17 P m){d:Q0h}(hd:Q9p d)(port:Int){v:Int}(hv:U v)(at0:Int):(Q97 d m port v at0).w (λr=>Q9p r.1/\r.2.length<=1):=by
 have k: ∀st,Q9p {Blocks:=d.Blocks,C3:=d.C3,Frame:=d.Frame,C4:=st,D8:=d.D8,B9:=d.B9,B4:=d.B4,C6:=d.C6}:=λst=>⟨hd.block,hd.frame,hd.opBlock,hd.opFrame⟩
 have k2: ∀c o,Q9p {Blocks:=d.Blocks,C3:=d.C3,Frame:=d.Frame,C4:=1,D8:=c,B9:=d.C3,B4:=d.Frame,C6:=o}:=λc o=>⟨hd.block,hd.frame,hd.block,hd.frame⟩
 have k3:Q9p {Blocks:=d.Blocks,C3:=v,Frame:=d.Frame,C4:=d.C4,D8:=d.D8,B9:=d.B9,B4:=d.B4,C6:=d.C6}:=⟨hv,hd.frame,hd.opBlock,hd.opFrame⟩
 have k4:Q9p {Blocks:=d.Blocks,C3:=d.C3,Frame:=v,C4:=d.C4,D8:=d.D8,B9:=d.B9,B4:=d.B4,C6:=d.C6}:=⟨hd.block,hv,hd.opBlock,hd.opFrame⟩
 unfold Q97
 repeat'(first
   |refine w_br (λ_=> ?_) (λ_=> ?_)
   |exact Q0c (zaa hm _) λ_ _=>w_lv λ_ _=>⟨k2 _ _,aO _⟩
   |refine w_lv (λ_ _=> ?_)
   |refine w_lf ?_)
 all_goals(first
   |exact⟨hd,aT _⟩
   |exact⟨k _,aT _⟩
   |exact⟨k2 _ _,aO _⟩
   |exact⟨k3,aT _⟩
   |exact⟨k4,aT _⟩)
theorem Zde{P:Nat}{m:List Int}(hm:Q17 P m){n:Q0q}(hn:Ql6 n)(port:Int){v:Int}(hv:U v)(at0:Int):(Qb9 n m port v at0).w (λr=>Ql6 r.1/\r.2.length<=1):=by
 have k1:Ql6 {Frame:=v,E0:=n.E0,C7:=n.C7,C1:=n.C1,C0:=n.C0,F1:=n.F1}:=⟨hv,hn.len,hn.buffer,hn.got⟩
 have k2:Ql6 {Frame:=n.Frame,E0:=v,C7:=n.C7,C1:=n.C1,C0:=n.C0,F1:=n.F1}:=⟨hn.frame,hv,hn.buffer,hn.got⟩
 have k3:Ql6 {Frame:=n.Frame,E0:=n.E0,C7:=n.C7,C1:=n.C1,C0:=false,F1:=0}:=⟨hn.frame,hn.len,hn.buffer,U_0⟩
 have k4: ∀p r,Ql6 {Frame:=n.Frame,E0:=n.E0,C7:=p,C1:=n.Frame,C0:=r,F1:=n.F1}:=λp r=>⟨hn.frame,hn.len,hn.frame,hn.got⟩
 have send: ∀K:List UInt8×Bool->Tree (Q0q×List Q03),Q29 m n.Frame=true->(∀x:List UInt8×Bool,x.1.length=128->(K x).w (λr=>Ql6 r.1/\r.2.length<=1))->(Tree.an (Qig m (wrap .i64 n.Frame)) (.lv (Qkg m (wrap .i64 n.Frame)) K)).w (λr=>Ql6 r.1/\r.2.length<=1):=λK hp hK=>by
   rw[Qo5 hm hn.frame]at hp
   have hp:=oY hp
   obtain⟨f1,f2⟩:=hn.frame
   have ew:i64.wrap n.Frame=n.Frame:=by rw[wrap_i64];omega
   exact Q0c (zaa hm _) λx hx=>hK x (hx (by rw[ew];exact f1) (by rw[ew];exact hp))
 unfold Qb9
 repeat'(first
   |refine w_br (λ_=> ?_) (λ_=> ?_)
   |refine send _ (by simp_all) (λx hx=>w_cn (by simp_all;exact hn.len.1) ?_)
   |refine w_lv (λ_ _=> ?_)
   |refine w_lf ?_)
 all_goals(first
   |exact⟨hn,aT _⟩
   |exact⟨hn,aO _⟩
   |exact⟨k1,aT _⟩
   |exact⟨k2,aT _⟩
   |exact⟨k3,aT _⟩
   |exact⟨k4 _ _,aT _⟩)
def okB(b:Q07):Prop:=U b.C9/\U b.C5
theorem zx{P:Nat}{m:List Int}(hm:Q17 P m){b:Q07}(hb:okB b)(port:Int){v:Int}(hv:U v):(Q55 b m port v).w (λr=>okB r.1/\Q17 P r.2):=by
 have hv0:decide (0<=v)=true:=dY hv.1
 have h2:=hm.p2
 have rest:(Tree.br (port==11) (.br (decide (v<32)) (.cn (decide (0<=v)) (.lf (({C9:=b.C9,C5:=Qir .u32 b.C5 (ishl .u32 1 v)}:Q07),m))) (.lf (b,m))) (.lf (b,m))).w (λr=>okB r.1/\Q17 P r.2):=
   w_br (λ_=>w_br (λ_=>w_cn hv0 ⟨⟨hb.1,Q0u _⟩,hm⟩) (λ_=>⟨hb,hm⟩)) (λ_=>⟨hb,hm⟩)
 unfold Q55
 refine w_br (λ_=>w_lv λx0 hx=>w_br (λhp=>w_cn hv0 (w_br (λ_=>w_cn hv0 ?_) (λ_=>rest))) (λ_=>rest)) (λ_=>rest)
 have hp:Q29 m v=true:=hx.symm.trans hp
 rw[Qo5 hm hv]at hp
 have hp:=oY hp
 obtain⟨v1,v2⟩:=hv
 refine w_lp (inv:=λz=>0<=z.1/\z.1<=32/\Q17 P z.2) (μ:=Qk9 b m port v) ⟨by omega,by omega,hm⟩ (cK _) (λz hz=> ?_)
 obtain⟨z1,z2,z3⟩:=hz
 have hl:=z3.len
 refine w_br (λh=> ?_) (λ_=>⟨⟨hb.1,Q0u _⟩,z3⟩)
 have h:=oY h
 have e:wrap i64 (wrap i64 (wrap i64 v*32)+z.1)=v*32+z.1:=by rw[wrap_i64,wrap_i64,wrap_i64];omega
 refine w_cn (by rw[e];simp [bT];omega) (w_nx ?_)
 show(0<=i64.wrap (z.1+1)/\i64.wrap (z.1+1)<=32/\Q17 P (dB _ _ _))/\(32-i64.wrap (z.1+1)).toNat<(32-z.1).toNat
 have ew:i64.wrap (z.1+1)=z.1+1:=by rw[wrap_i64];omega
 rw[ew]
 exact⟨⟨by omega,by omega,⟨by simp [hl],z3.p1,z3.p2,Z8j z3.u U_0 _⟩⟩,by omega⟩
structure okM(P:Nat)(m:Q00):Prop where
 cpu:Q2n m.B2
 mem:Q17 P m.Mem
 disk:Q9p m.B1
 nic:Ql6 m.C2
 target:okB m.A1
 cnt:0<=m.A2
theorem Qu1(c:Q0e)(port:Int):U (Q4h c port).2:=by
 refine Tree.post (Q3v c port) (W:=λr=>U r.2) ?_
 have u1:U 4294967295:=⟨by omega,by omega⟩
 unfold Q3v
 refine w_br (λ_=>w_br (λ_=>u1) (λh=>w_br (λ_=>w_cn ?_ (w_cn ?_ (Q0u _))) (λ_=>w_br (λ_=>Q0u _) (λ_=>U_0)))) (λh1=>w_br (λh=>(by rw[h1]at h;cases h)) (λ_=>w_br (λ_=>Q0u _) (λ_=>U_0)))
 . have h: ¬(c.D2.length:Int)=0:=by simpa using h
   exact dY ⟨by omega,by omega,by omega⟩
 . have h: ¬(c.D2.length:Int)=0:=by simpa using h
   simp [bT];omega
theorem Zko{n:Q0q}(h:Ql6 n)(port:Int):U (Qfp n port):=by
 refine Tree.post (Qgr n port) (W:=U) ?_
 have u1:U 1:=⟨by omega,by omega⟩
 unfold Qgr
 exact w_br (λ_=>h.frame) (λ_=>w_br (λ_=>h.got) (λ_=>w_br (λ_=>w_br (λ_=>w_br (λ_=>Q0u _) (λ_=>u1)) (λ_=>w_br (λ_=>Q0u _) (λ_=>U_0))) (λ_=>U_0)))
theorem Zcg{d:Q0h}(h:Q9p d)(port:Int):U (Qg9 d port):=by
 refine Tree.post (Qii d port) (W:=U) ?_
 unfold Qii
 exact w_br (λ_=>h.block) (λ_=>w_br (λ_=>h.frame) (λ_=>w_br (λ_=>Q0u _) (λ_=>U_0)))
theorem Z6j(t:Q0j):U (Qe4 t):=by
 refine Tree.post (Qgn t) (W:=U) ?_
 unfold Qgn
 exact w_br (λ_=>⟨by omega,by omega⟩) (λ_=>U_0)
theorem Qul{b:Q07}(h:U b.C9)(port:Int):U (Q4f b port):=by
 refine Tree.post (Q6s b port) (W:=U) ?_
 unfold Q6s
 exact w_br (λ_=>h) (λ_=>w_br (λ_=>w_lv λ_ _=>Q0u _) (λ_=>U_0))
structure okR(P:Nat)(r:Q02):Prop where
 m:okM P r.A0
 clock:U r.A7
structure okL(P:Nat)(r x:Q02):Prop where
 ok:okR P x
 log:x.B3=r.B3
 queue:x.A9=r.A9
theorem w0(x:Int):0<=u64.wrap x:=by rw[wrap_u64];omega
section
variable {P:Nat} {r:Q02} (h:okR P r)
include h
theorem in_w(port:Int){clock:Int}(hc:U clock):(Qjh r port clock).w (λx=>U x.1/\okL P r x.2):=by
 have k:okL P r r:=⟨h,rfl,rfl⟩
 obtain⟨⟨h1,h2,h3,h4,h5,h7⟩,h6⟩:=h
 unfold Qjh
 exact w_br (λ_=>w_lv λx hx=>⟨hx▸Qu1 _ _,⟨⟨⟨h1,h2,h3,h4,h5,h7⟩,h6⟩,rfl,rfl⟩⟩) (λ_=>w_br (λ_=>⟨hc,k⟩) (λ_=>w_br (λ_=>w_lv λx hx=>⟨hx▸Z6j _,k⟩) (λ_=>w_br (λ_=>w_lv λx hx=>⟨hx▸Zcg h3 _,k⟩) (λ_=>w_br (λ_=>w_lv λx hx=>⟨hx▸Zko h4 _,k⟩) (λ_=>w_lv λx hx=>⟨hx▸Qul h5.1 _,k⟩)))))
theorem out_w(port:Int){v:Int}(hv:U v):(Qe0 r port v).w (λx=>x.1.length<=1/\okL P r x.2):=by
 have k:okL P r r:=⟨h,rfl,rfl⟩
 obtain⟨⟨h1,h2,h3,h4,h5,h7⟩,h6⟩:=h
 unfold Qe0
 exact w_br (λ_=>⟨aO _,k⟩) (λ_=>w_br (λ_=>⟨aT _,k⟩) (λ_=>w_br (λ_=>w_lv λ_ _=>⟨aT _,⟨⟨⟨h1,h2,h3,h4,h5,h7⟩,h6⟩,rfl,rfl⟩⟩) (λ_=>w_br (λ_=>Q0c (Z3a h2 h3 _ hv _) λx hx=>⟨hx.2,⟨⟨⟨h1,h2,hx.1,h4,h5,h7⟩,h6⟩,rfl,rfl⟩⟩) (λ_=>w_br (λ_=>Q0c (Zde h2 h4 _ hv _) λx hx=>⟨hx.2,⟨⟨⟨h1,h2,h3,hx.1,h5,h7⟩,h6⟩,rfl,rfl⟩⟩) (λ_=>Q0c (zx h2 h5 _ hv) λx hx=>⟨aT _,⟨⟨⟨h1,hx.2,h3,h4,hx.1,h7⟩,h6⟩,rfl,rfl⟩⟩)))))
theorem Qv4{clock:Int}(hc:U clock):(Q6t r clock).w (λx=>x.1.length<=1/\okL P r x.2):=by
 obtain⟨⟨h1,h2,h3,h4,h5,h7⟩,h6⟩:=h
 unfold Q6t
 refine Q0c (Qit h1) λx0 c0=>Q0c (do_w c0 h2) λx1 hx=> ?_
 obtain⟨c1,v1,m1⟩:=hx
 refine w_br (λ_=>Zbi (in_w (r:=⟨⟨_,_,_,_,_,_,_,_,_,_⟩,_,_,_⟩) ⟨⟨c1,m1,h3,h4,h5,h7⟩,h6⟩ _ hc) λx2 hx=> ?_) (λ_=>w_br (λ_=>Q0c (out_w (r:=⟨⟨_,_,_,_,_,_,_,_,_,_⟩,_,_,_⟩) ⟨⟨c1,m1,h3,h4,h5,h7⟩,h6⟩ _ v1) λx4 hx=> ?_) (λ_=> ?_))
 . obtain⟨u,⟨⟨⟨k1,k2,k3,k4,k5,k7⟩,k6⟩,e1,e2⟩⟩:=hx
   exact Q0c (Z6r k1 _ u) λx3 h3=>⟨aT _,⟨⟨⟨h3,k2,k3,k4,k5,w0 _⟩,k6⟩,e1,e2⟩⟩
 . obtain⟨u,⟨⟨⟨k1,k2,k3,k4,k5,k7⟩,k6⟩,e1,e2⟩⟩:=hx
   exact⟨u,⟨⟨⟨k1,k2,k3,k4,k5,w0 _⟩,k6⟩,e1,e2⟩⟩
 . repeat'(first
     |exact⟨aT _,⟨⟨⟨c1,m1,h3,h4,h5,w0 _⟩,h6⟩,rfl,rfl⟩⟩
     |refine w_br (λ_=> ?_) (λ_=> ?_))
end
theorem yx(c:Q0e)(b:Int):(Ql1 c b).w (λ_=>True):=by
 unfold Ql1
 refine w_br (λ_=>trivial) (λh=>w_cn (dY ?_) trivial)
 have h:=oN h
 simp [maxLen];omega
theorem Zdj{P:Nat}{m:List Int}(hm:Q17 P m){n:Q0q}(hn:Ql6 n)(frame:List UInt8):(Qaz n m frame).w (λr=>Ql6 r.1/\Q17 P r.2.2):=by
 unfold Qaz
 refine w_br (λ_=>⟨hn,hm⟩) (λ_=>w_br (λ_=>⟨hn,hm⟩) (λ_=>w_br (λ_=>⟨hn,hm⟩) (λ_=>w_lv λx0 hx=>w_br (λ_=>⟨hn,hm⟩) (λhb=> ?_))))
 have hp:Q29 m n.C1=true:=hx.symm.trans (by simpa using hb)
 rw[Qo5 hm hn.buffer]at hp
 have hp:=oY hp
 obtain⟨b1,b2⟩:=hn.buffer
 have ew:i64.wrap n.C1=n.C1:=by rw[wrap_i64];omega
 exact Q0c (y8 hm (frame:=i64.wrap n.C1) (by rw[ew];exact b1) (by rw[ew];exact hp) frame) λx hx=>⟨⟨hn.frame,hn.len,U_0,Q0u _⟩,hx⟩
section
variable {P:Nat} {r:Q02} (h:okR P r)
include h
theorem xay{e:Q0b}(he:U e.N):(Q9b r e).w (λx=>okL P r x.2):=by
 have k:okL P r r:=⟨h,rfl,rfl⟩
 obtain⟨⟨h1,h2,h3,h4,h5,h7⟩,h6⟩:=h
 unfold Q9b
 repeat'(first
   |exact k
   |exact⟨⟨⟨h1,h2,h3,h4,⟨he,h5.2⟩,h7⟩,h6⟩,rfl,rfl⟩
   |exact w_lv λ_ _=>⟨⟨⟨h1,h2,h3,h4,h5,h7⟩,h6⟩,rfl,rfl⟩
   |exact Q0c (yx _ _) λ_ _=>⟨⟨⟨h1,h2,h3,h4,h5,h7⟩,h6⟩,rfl,rfl⟩
   |exact Q0c (Zdm h2 h3 _) λx hx=>⟨⟨⟨h1,hx.2,hx.1,h4,h5,h7⟩,h6⟩,rfl,rfl⟩
   |exact Q0c (Zdj h2 h4 _) λx hx=>⟨⟨⟨h1,hx.2,h3,hx.1,h5,h7⟩,h6⟩,rfl,rfl⟩
   |refine w_br (λ_=> ?_) (λ_=> ?_))
theorem qy{e:Q0b}(he:U e.N)(hl:r.B3.length<=1000000):(Qb1 r e).w (λx=>okR P x/\x.B3.length<=r.B3.length+1/\x.A9=r.A9):=by
 have acc:(Q89 r e).w (λx=>okL P r x.2):=by
   unfold Q89
   exact Q0c (xay h he) λx hx=>hx
 unfold Qb1
 refine Q0c acc λx hx=> ?_
 obtain⟨⟨k1,k2⟩,e1,e2⟩:=hx
 refine w_br (λ_=>w_cn (dY (by rw[e1];omega)) ⟨⟨k1,k2⟩,by simp [e1],e2⟩) (λ_=>⟨⟨k1,k2⟩,by rw[e1];omega,e2⟩)
theorem own_w(hl:r.B3.length<=1000000)(hq:r.A9.length<=1000000):(Qfy r).w (λx=>okR P x/\x.B3=r.B3/\x.A9=r.A9):=by
 have ow:(Q9e r.A0).w (λm=>okM P m):=by
   obtain⟨⟨h1,h2,h3,h4,h5,h7⟩,h6⟩:=h
   unfold Q9e
   exact Q0c (z8 h2) λx hx=>⟨h1,by rw[hx];exact h2,h3,h4,h5,h7⟩
 unfold Qfy
 refine Q0c ow λx hx=>w_cn (dY (by simp;omega)) (w_cn (dY (by simp;omega)) ⟨⟨hx,h.clock⟩,rfl,rfl⟩)
theorem xV(e:Q0b)(hl:r.B3.length<=1000000)(hq:r.A9.length<=16)(hu: ∀q∈r.A9,U q.N)(he:U e.N):(Q9g r e).w (λx=>okR P x.1/\x.1.B3=r.B3/\x.1.A9.length<=16/\ ∀q∈x.1.A9,U q.N):=by
 unfold Q9g
 refine Q0c (own_w h hl (by omega)) λx hx=> ?_
 obtain⟨k1,k2,k3⟩:=hx
 have g:okR P x/\x.B3=r.B3/\x.A9.length<=16/\ ∀q∈x.A9,U q.N:=⟨k1,k2,by rw[k3];exact hq,by rw[k3];exact hu⟩
 refine w_lv λx1 _=>w_br (λ_=>g) (λ_=>w_br (λ_=>g) (λ_=>w_br (λ_=>g) (λhb=>w_cn (dY (by rw[k3];omega)) ?_)))
 have hb:=oN hb
 refine⟨⟨k1.m,k1.clock⟩,k2,?_,?_⟩
 . show(x.A9++[e]).length<=16
   rw[lA];simp at hb⊢;omega
 . intro q hq
   have hq:q∈x.A9++[e]:=hq
   rw[List.mem_append]at hq
   rcases hq with hq|hq
   . exact hu q (k3▸hq)
   . rw[List.mem_singleton.1 hq];exact he
end
theorem Zm0(n:Int):(Qhm n).w (λe=>U e.N):=by
 have u1:U 1:=⟨by omega,by omega⟩
 have ev40: ∀x y,Qb3 x (wrap .i64 (1+cX y 40)):=λx y=>by
   show wrap .i64 (1+cX y 40)<=1000000000000
   have h1:=Int.tmod_lt_of_pos y (b:=40) (by decide)
   have h2:=Int.lt_tmod_of_pos y (b:=40) (by decide)
   rw[wrap_i64];omega
 unfold Qhm
 refine w_lv λx0 _=> ?_
 repeat'(first
   |exact U_0
   |exact u1
   |exact Q0u _
   |exact w_an (show(128:Int)<=1000000000000 by decide) (w_lv λ_ _=>u1)
   |exact w_an (ev40 _ _) (w_lv λ_ _=>U_0)
   |refine w_br (λ_=> ?_) (λ_=> ?_))

import Derived.Test.YtmalmklaonainaaGreatMachineEncodesZx
open List renaming set->dH, mem_cons->cU, not_mem_nil->cV
open Nat renaming blt->bT, beq->bS, lt_succ_self->cO, le_refl->aO, zero_le->aT
open Int renaming pow_pos->dP, le_of_lt->dR, fdiv_eq_ediv_of_nonneg->dQ, tmod->dF, mul_tmod_right->hH, mul_tdiv_cancel_left->hJ, tdiv->eX, tdiv_eq_ediv_of_nonneg->eY, emod_eq_of_lt->dO, lt_of_lt_of_le->hY, le_of_eq->hZ
open BitVec renaming ofInt->dX, toNat_and->eB
set_option maxRecDepth 100000
set_option linter.all false
namespace Go.Proofs.YtmalmklaonainaaGreat
open Go Go.GD
open Go.IntKind(wrap i64 u32 u64 u8 i32 wrap_i64 wrap_u32 wrap_u64 wrap_u8 wrap_i32)
def U(x:Int):Prop:=0<=x/\x<4294967296
theorem Q0l(x:Int):U (u32.wrap x):=by rw[wrap_u32];unfold U;omega
theorem Qh6(x y:Int):U (iand .u32 x y):=Q0l _
theorem U_or(x y:Int):U (ior .u32 x y):=Q0l _
theorem U_0:U 0:=⟨by omega,by omega⟩
theorem Qyh{m:List Int}(h: ∀w∈m,U w){v:Int}(hv:U v)(i:Nat): ∀w∈m.set i v,U w:=by
 intro w hw
 rcases List.mem_or_eq_of_mem_set hw with h1|h1
 . exact h w h1
 . rw[h1];exact hv
structure Q0t(P:Nat)(m:List Int):Prop where
 len:m.length=32*P
 p1:0<=P
 p2:P<=32
 u: ∀w∈m,U w
structure Q7i(d:Q0d):Prop where
 block:U d.C1
 frame:U d.Frame
 opBlock:U d.B5
 opFrame:U d.B2
structure Qhl(n:Q0m):Prop where
 frame:U n.Frame
 len:U n.D8
 buffer:U n.C0
 got:U n.D9
theorem Qka{l:List Int}(h: ∀w∈l,U w)(i:Nat):U (l.getD i 0):=by
 by_cases hi:i<l.length
 . have:l.getD i 0=l[i]:=by simp [List.getD,hi]
   rw[this];exact h _ (List.getElem_mem hi)
 . have:l.getD i 0=0:=by simp [List.getD,List.getElem?_eq_none (by omega:l.length<=i)]
   rw[this];exact U_0
structure Q27(c:Q02):Prop where
 x: ∀w∈A16.l c.X,U w
 pc:U c.Pc
 csr: ∀w∈A8.l c.B4,U w
theorem Z9x{X:A16 Int}(h: ∀w∈A16.l X,U w){v:Int}(hv:U v)(i:Nat): ∀w∈A16.l (A16.of 0 (dH (A16.l X) i v)),U w:=by
 have hs:=Qyh h hv i
 intro w hw
 simp only[A16.l,A16.of,cU,cV,or_false]at hw
 repeat(first|(rcases hw with rfl|hw; · exact Qka hs _)|(subst hw;exact Qka hs _))
theorem Qse{X:A8 Int}(h: ∀w∈A8.l X,U w){v:Int}(hv:U v)(i:Nat): ∀w∈A8.l (A8.of 0 (dH (A8.l X) i v)),U w:=by
 have hs:=Qyh h hv i
 intro w hw
 simp only[A8.l,A8.of,cU,cV,or_false]at hw
 repeat(first|(rcases hw with rfl|hw; · exact Qka hs _)|(subst hw;exact Qka hs _))
section
variable {c:Q02} (h:Q27 c)
include h
theorem Q27.a(i:Nat):U ((A8.l c.B4).getD i 0):=Qka h.csr i
theorem Q27.r(i:Nat):U ((A16.l c.X).getD i 0):=Qka h.x i
theorem Q27.a0:U c.B4.a0:=h.a 0
theorem Q27.a1:U c.B4.a1:=h.a 1
theorem Q27.a2:U c.B4.a2:=h.a 2
theorem Q27.a3:U c.B4.a3:=h.a 3
theorem Q27.a4:U c.B4.a4:=h.a 4
theorem Q27.a5:U c.B4.a5:=h.a 5
theorem Q27.a6:U c.B4.a6:=h.a 6
theorem Q27.a7:U c.B4.a7:=h.a 7
theorem Q27.pcs{p:Int}(hp:U p):Q27 {X:=c.X,Pc:=p,B4:=c.B4}:=⟨h.x,hp,h.csr⟩
end
section
variable {α β:Type} {W:β->Prop} {t:Tree α} {Q:α->Prop} {k:α->Tree β}
theorem Q0a(hq:t.w Q)(g: ∀x,Q x->(k x).w W):(Tree.an t.p (Tree.lv t.m k)).w W:=⟨(Tree.pp hq).1,λy hy=>g y (by rw[hy];exact(Tree.pp hq).2)⟩
theorem Zbc(hq:t.w Q)(g: ∀x,Q x->(k x).w W):(Tree.lv t.m k).w W:=λy hy=>g y (by rw[hy];exact t.post hq)
end
theorem rc{r:Int}(h:0<=r/\r<16):(bT 0 1&&decide (0<=r/\r<((16:Nat):Int)))=true:=by simp [bT];omega
theorem Qrd{a:Int}(h:U a)(b:Int):U (ishr .u32 a b):=by
 unfold ishr U
 obtain⟨h1,h2⟩:=h
 have hp:(0:Int)<2^(min b.toNat u32.bits):=dP (by decide)
 have:=Int.fdiv_nonneg h1 (dR hp)
 refine⟨this,?_⟩
 rw[dQ _ (dR hp)]
 have h3:=Int.ediv_le_self (2^(min b.toNat u32.bits)) h1
 omega
structure Qef(i:Q0i):Prop where
 a:0<=i.A/\i.A<16
 b:0<=i.B/\i.B<16
 c:0<=i.C/\i.C<16
 csr:i.Op=58->0<=i.Imm/\i.Imm<8
theorem Z30{P:Nat}{m:List Int}(h:Q0t P m):Q0o m=P:=by
 obtain⟨h1,h2,h3,_⟩:=h
 simp only[Q0o,Q7v,Tree.m]
 have e:(m.length:Int)=32*P:=by omega
 rw[e]
 have e1:(dF (32*(P:Int)) 32 !=0)=false:=by simp [hH]
 have e2:decide ((32*(P:Int))>1024)=false:=dN (by omega)
 rw[e1,e2]
 simp only[cond_false]
 rw[hJ _ (by decide),wrap_i64];omega
theorem qX(n:Int):(Qap n).w (λ_=>True):=by
 unfold Qap
 exact w_br (λ_=>trivial) (λ_=>w_cn (dY (by rw[wrap_u64];omega)) trivial)
theorem Qvk(w low n:Int):(Q8g w low n).w U:=by
 unfold Q8g
 exact w_br (λ_=>U_0) (λ_=>w_br (λ_=>U_0) (λ_=>w_br (λ_=>U_0) (λ_=>w_cn (dY (by rw[wrap_u64];omega)) (Q0a (qX n) λ_ _=>Qh6 _ _))))
theorem Zl8{w:Int}(hw:U w)(low n v:Int):(Q8z w low n v).w U:=by
 have h0:decide (0<=wrap u64 low)=true:=dY (by rw[wrap_u64];omega)
 unfold Q8z
 exact w_br (λ_=>hw) (λ_=>w_br (λ_=>hw) (λ_=>w_br (λ_=>hw) (λ_=>Q0a (qX n) λ_ _=>w_cn h0 (w_cn h0 (U_or _ _)))))
theorem Qty{x:Int}(hx:U x)(n:Int):(Q6d x n).w U:=by
 have h0: ∀y,decide (0<=wrap u64 y)=true:=λy=>dY (by rw[wrap_u64];omega)
 unfold Q6d
 exact w_br (λ_=>U_0) (λ_=>w_br (λ_=>hx) (λ_=>w_cn (h0 _) (w_cn (h0 _) (Q0l _))))
section
variable {P:Nat} {m:List Int} (h:Q0t P m)
include h
theorem Q8m:Q06 m:=by
 have:=h.len
 have:=h.p2
 show m.length<=35184372088832
 omega
theorem Zcj{a:Int}(ha:U a){size:Int}(hs:size=1\/size=4):(Q2s m a size).w (λb=>b=true->a+size<=128*P):=by
 have hp:=Z30 h
 have h2:=h.p2
 obtain⟨a1,a2⟩:=ha
 have e:decide (wrap u32 size≠0)=true:=by rcases hs with rfl|rfl<;>decide
 have l: ∀x,x=Q0o m->decide (wrap u64 (wrap u64 a+wrap u64 size)<=wrap u64 (wrap u64 x*128))=true->a+size<=128*P:=λx hx hd=>by
   rw[hx,hp]at hd
   have:=oY hd
   simp only[wrap_u64]at this
   omega
 unfold Q2s
 refine w_br (λ_=>w_br (λ_=>λh=>by cases h) (λ_=> ?_)) (λ_=> ?_)<;>
 exact w_cn e (w_br (λ_=>λh=>by cases h) (λ_=>w_lv λx hx=>l x hx))
theorem idxP{a:Int}(ha:U a)(hl:a<128*P):(bS 1 1&&bT 0 1&&decide (0<=wrap u32 (eX a 4)/\wrap u32 (eX a 4)<(m.length:Int)))=true:=by
 obtain⟨a1,a2⟩:=ha
 have e:wrap u32 (eX a 4)=a/4:=by rw[wrap_u32,eY a1];omega
 have:=h.len
 rw[e];simp [bT];omega
theorem Qqo{a:Int}(ha:U a){size:Int}(hs:size=1\/size=4):(Q5l m a size).w (λr=>U r.1/\(r.2=true->a<128*P)):=by
 unfold Q5l
 refine Q0a (Zcj h ha hs) λx hx=>w_br (λ_=>⟨U_0,λh=>by cases h⟩) (λhb=> ?_)
 have hl:=hx (by simpa using hb)
 have hl:a<128*P:=by omega
 exact w_cn (idxP h ha hl) (w_br (λ_=>Q0a (Qvk _ _ _) λy hy=>⟨hy,λ_=>hl⟩) (λ_=>⟨Qka h.u _,λ_=>hl⟩))
theorem Qys{a:Int}(ha:U a){size:Int}(hs:size=1\/size=4){v:Int}(hv:U v):(Q7u m a size v).w (λr=>Q0t P r.1):=by
 have st: ∀i v,U v->Q0t P (m.set i v):=λi v hv=>⟨by simp [h.len],h.p1,h.p2,Qyh h.u hv i⟩
 have hcl:Q03 m=m:=rfl
 unfold Q7u
 refine w_an (Q8m h) (w_lv λx0 hx0=> ?_)
 rw[hcl]at hx0;subst hx0
 refine Q0a (Zcj h ha hs) λx hx=>w_br (λ_=>h) (λhb=> ?_)
 have hl:=hx (by simpa using hb)
 have hl:a<128*P:=by omega
 exact w_br (λ_=>w_cn (idxP h ha hl) (Q0a (Zl8 (Qka h.u _) _ _ _) λy hy=>w_cn (idxP h ha hl) (st _ _ hy))) (λ_=>w_cn (idxP h ha hl) (st _ _ hv))
end
theorem Zgv{r:Int}{used:Bool}(h:Q8e r used=true):0<=r/\r<16:=by
 simp only[Q8e,Qdp,Tree.m]at h
 cases used
 . have h:(r==0)=true:=h
   have:=eq_of_beq h;omega
 . cases h1:decide (r>=0)<;>rw[h1]at h
   . cases h
   . have h1:=oY h1
     have h:=oY h
     omega
theorem yv{i:Q0i}(h:Qe3 i=true):Qef i:=by
 have no:false=true->Qef i:=λh=>by cases h
 refine(Tree.post (Qge i) (W:=λb=>b=true->Qef i) ?_) h
 unfold Qge
 refine w_lv λx0 h0=>w_br (λ_=>w_lv λx1 h1=>w_br (λb1=>w_lv λx2 h2=>w_br (λb2=>w_lv λx3 h3=>w_br (λb3=>w_br (λb4=>λb5=> ?_) (λ_=>no)) (λ_=>no)) (λ_=>no)) (λ_=>no)) (λ_=>no)
 have b4:=oY b4
 have b5:=oY b5
 refine⟨Zgv (h1.symm.trans b1),Zgv (h2.symm.trans b2),Zgv (h3.symm.trans b3),λe=> ?_⟩
 rw[e]at h0
 have h0:x0=({a:=true,b:=false,c:=false,low:=0,D5:=7},true):=h0
 subst h0
 simp at b4 b5;omega
theorem Z16(w:Int):(Q6u w).w (λr=>r.2=true->Qef r.1):=by
 have no: ∀{p:Prop},false=true->p:=λh=>by cases h
 have l: ∀i,(Tree.lv (Qe3 i) λx=> .br (!x) (.lf ((⟨0,0,0,0,0⟩:Q0i),false)) (.lf (i,true))).w (λr=>r.2=true->Qef r.1):=λi=>w_lv λx hx=>w_br (λ_=>no) (λhb=>λ_=>yv (hx.symm.trans (by simpa using hb)))
 unfold Q6u
 exact Q0a (Qvk _ _ _) λx0 _=>Q0a (Qvk _ _ _) λx1 _=>Q0a (Qvk _ _ _) λx2 _=>w_lv λx3 _=>w_br (λ_=>no) (λ_=>Q0a (Qvk _ _ _) λx4 h4=>w_br (λ_=>l _) (λ_=>w_br (λ_=>Q0a (Qty h4 _) λx6 _=>l _) (λ_=>l _)))
section
variable {P:Nat} {m:List Int} (h:Q0t P m)
include h
theorem zQ{f:Int}(hf:U f):Q9f m f=decide (f<P):=by
 have:=Z30 h
 obtain⟨h1,h2⟩:=hf
 have h3:=h.p2
 simp only[Q9f,Qi9,Tree.m,letv,this]
 congr 1
 rw[wrap_u64,wrap_u64,dO h1 (by omega),dO (by omega) (by omega)]
theorem qat{root va:Int}(hv:U va)(access:Int):(Q9e m root va access).w (λt=>U t.Addr/\U t.F0):=by
 have bad:U (0:Int)/\U (0:Int):=⟨U_0,U_0⟩
 have fr: ∀x,(Q7g x).w U:=λx=>by
   unfold Q7g
   exact Q0a (Qvk _ _ _) λy hy=>hy
 unfold Q9e
 exact w_lv λx0 _=>w_br (λ_=>bad) (λ_=>w_br (λ_=>bad) (λ_=>w_lv λx1 _=>w_br (λ_=>bad) (λ_=>Q0a (Qqo h (Q0l _) (.inr rfl)) λx2 _=>w_br (λ_=>bad) (λ_=>w_lv λx3 _=>w_br (λ_=>bad) (λ_=>Q0a (fr _) λx4 _=>w_lv λx5 _=>w_br (λ_=>bad) (λ_=>Q0a (fr _) λx6 _=>⟨Q0l _,Q0l _⟩))))))
theorem yQ{a:Int}(ha:U a)(access:Int):(Q7r m a access).w (Q0t P):=by
 have hcl:Q03 m=m:=rfl
 unfold Q7r
 exact Q0a (Qqo h ha (.inr rfl)) λx0 _=>w_br (λ_=>w_an (Q8m h) (w_lv λx1 h1=>by rw[h1,hcl];exact h)) (λ_=>w_br (λ_=>Q0a (Qys h ha (.inr rfl) (U_or _ _)) λx hx=>hx) (λ_=>Q0a (Qys h ha (.inr rfl) (U_or _ _)) λx hx=>hx))
theorem Qke{c:Q02}{va:Int}(hv:U va){size:Int}(hs:size=1\/size=4)(access:Int):(Q5n c m va size access).w (λr=>U r.1/\Q0t P r.2.1):=by
 have hcl:Q03 m=m:=rfl
 have e:decide (wrap u32 size≠0)=true:=by rcases hs with rfl|rfl<;>decide
 have cl: ∀(K:List Int->Int×List Int×Int),(∀x,x=m->U (K x).1/\Q0t P (K x).2.1)->(Tree.an (Q06 m) (.lv (Q03 m) λx=> .lf (K x))).w (λr=>U r.1/\Q0t P r.2.1):=λK hK=>w_an (Q8m h) (w_lv λx hx=>hK x (hx.trans hcl))
 have z: ∀(k:Nat) (x:List Int),x=m->U (0:Int)/\Q0t P x:=λ_ x hx=>⟨U_0,hx▸h⟩
 have v: ∀x,x=m->U va/\Q0t P x:=λx hx=>⟨hv,hx▸h⟩
 have main: ∀(x0:Int×Bool),(Tree.cn (decide (wrap u32 size≠0)) (.br (dF va (wrap u32 size) !=0) (.an (Q06 m) (.lv (Q03 m) λx3=> .lf ((0:Int),x3,(3:Int)))) (.lv (Qb5 c) λx4=> .br (!x4) (.br (iand u32 c.B4.a0 4 !=0) (.an (Qh0 m c.B4.a6 va access) (.lv (Qhm m c.B4.a6 va access) λx5=> .br (x5.E0 !=0) (.an (Q06 m) (.lv (Q03 m) λx6=> .lf (0,x6,x5.E0))) (.an (Qfc m x5.F0 access) (.lv (Qbh m x5.F0 access) λx7=> .lf (x5.Addr,x7,0))))) (.an (Q2n m va size) (.lv (Q47 m va size) λx8=> .br (!x8.2) (.an (Q06 m) (.lv (Q03 m) λx9=> .lf (0,x9,x0.1))) (.an (Q06 m) (.lv (Q03 m) λx10=> .lf (va,x10,0)))))) (.an (Q2n m va size) (.lv (Q47 m va size) λx11=> .br (!x11.2) (.an (Q06 m) (.lv (Q03 m) λx12=> .lf (0,x12,x0.1))) (.an (Q06 m) (.lv (Q03 m) λx13=> .lf (va,x13,0)))))))).w (λr=>U r.1/\Q0t P r.2.1):=λx0=>
   w_cn e (w_br (λ_=>cl _ (z 0)) (λ_=>w_lv λx4 _=>w_br (λ_=>w_br (λ_=>Q0a (qat h hv access) λx5 hx=>w_br (λ_=>cl _ (z 0)) (λ_=>Q0a (yQ h hx.2 access) λx7 h7=>⟨hx.1,h7⟩)) (λ_=>Q0a (Qqo h hv hs) λx8 _=>w_br (λ_=>cl _ (z 0)) (λ_=>cl _ v))) (λ_=>Q0a (Qqo h hv hs) λx8 _=>w_br (λ_=>cl _ (z 0)) (λ_=>cl _ v))))
 unfold Q5n
 exact w_lv λx0 _=>w_br (λ_=>cl _ (z 0)) (λ_=>w_br (λ_=>w_br (λ_=>cl _ (z 0)) (λ_=>main x0)) (λ_=>main x0))
theorem Zaw{c:Q02}(hc:Q27 c):(Qas c m).w (λr=>U r.1/\Q0t P r.2.1):=by
 unfold Qas
 exact Q0a (Qke h hc.pc (.inr rfl) 1) λx0 h0=>w_br (λ_=>⟨U_0,h0.2⟩) (λ_=>Q0a (Qqo h0.2 h0.1 (.inr rfl)) λx1 h1=>⟨h1.1,h0.2⟩)
end
theorem zat{s a b:Int}:U (Q83 s a b):=by
 refine Tree.post (Qoz s a b) (W:=U) ?_
 unfold Qoz
 exact w_br (λ_=>Q0l _) (λ_=>Q0l _)
section
variable {c:Q02} (h:Q27 c)
include h
theorem Qqs(k:Int){b:Int}(hb:U b):Q27 (Q3z c k b):=by
 refine(Tree.post (Qjv c k b) (W:=Q27) ?_)
 unfold Qjv
 refine w_lv λ_ _=>w_lv λ_ _=>⟨h.x,h.a1,?_⟩
 intro w hw
 simp only[A8.l,cU,cV,or_false]at hw
 rcases hw with rfl|rfl|rfl|rfl|rfl|rfl|rfl|rfl
 . exact Q0l _
 . exact h.a1
 . exact h.pc
 . exact Q0l _
 . exact hb
 . exact h.a5
 . exact h.a6
 . exact h.a7
theorem vv:Q27 (Qd3 c):=by
 refine(Tree.post (Qej c) (W:=Q27) ?_)
 unfold Qej
 refine w_lv λx0 _=>w_lv λx1 h1=>⟨h.x,h.a2,?_⟩
 intro w hw
 simp only[A8.l,cU,cV,or_false]at hw
 rcases hw with rfl|rfl|rfl|rfl|rfl|rfl|rfl|rfl
 . rw[h1];exact zat
 . exact h.a1
 . exact h.a2
 . exact h.a3
 . exact h.a4
 . exact h.a5
 . exact h.a6
 . exact h.a7
theorem Qpx{r:Int}(hr:0<=r/\r<16){v:Int}(hv:U v):(Qc5 c r v).w Q27:=by
 unfold Qc5
 exact w_br (λ_=>w_cn (rc hr) ⟨Z9x h.x hv _,h.pc,h.csr⟩) (λ_=>h)
theorem Zil(k:Int){v:Int}(hv:U v):(Qb2 c k v).w Q27:=by
 have ok: ∀i v,U v->Q27 {X:=c.X,Pc:=c.Pc,B4:=A8.of 0 (dH (A8.l c.B4) i v)}:=λi v hv=>⟨h.x,h.pc,Qse h.csr hv i⟩
 unfold Qb2
 repeat'(first
   |exact h
   |exact ok _ _ (Q0l _)
   |exact ok _ _ hv
   |refine w_br (λhk=> ?_) (λ_=> ?_)
   |refine w_cn (by rw[eq_of_beq (by assumption:(k==_)=true)];decide) ?_)
end
theorem Zbu{a b:Int}(ha:U a)(hb:U b):(Q97 a b).w (λr=>U r.1/\U r.2):=by
 have u1:U 4294967295:=⟨by omega,by omega⟩
 unfold Q97
 refine w_br (λ_=>⟨u1,ha⟩) (λh=> ?_)
 have h: ¬b=0:=by simpa using h
 obtain⟨b1,b2⟩:=hb
 have hc:decide (wrap i32 b≠0)=true:=dY (by rw[wrap_i32];omega)
 exact w_br (λ_=>w_br (λ_=>⟨ha,U_0⟩) (λ_=>w_cn hc (w_cn hc ⟨Q0l _,Q0l _⟩))) (λ_=>w_cn hc (w_cn hc ⟨Q0l _,Q0l _⟩))
theorem xat(b:Bool):U (Qmu b):=by cases b<;>exact⟨by decide,by decide⟩
theorem Z5x(op:Int){a b:Int}(ha:U a)(hb:U b):(Qmy op a b).w (λr=>U r.1):=by
 unfold Qmy
 repeat'(first
   |refine w_br (λ_=> ?_) (λ_=> ?_)
   |exact Q0a (Zbu ha hb) λx hx=>hx.1
   |exact Q0a (Zbu ha hb) λx hx=>hx.2
   |exact w_lv λx hx=>(by rw[hx];exact xat _)
   |refine w_lf ?_)
 all_goals(first
   |exact Q0l _
   |exact Qrd ha _
   |exact U_0)
theorem Z9o(op:Int):Qeo op=1\/Qeo op=4:=by
 simp only[Qeo,Qr3,Tree.m]
 cases op==32<;>cases op==35<;>simp
section
variable {c:Q02} (h:Q27 c) {i:Q0i} (hi:Qef i)
include h hi
theorem Zn:(Q4d c i).w (λr=>Q27 r.1/\U r.2.Value):=by
 have k: ∀{x:Q02} {p:Int},Q27 x->U p->Q27 {X:=x.X,Pc:=p,B4:=x.B4}:=λhx hp=>⟨hx.x,hp,hx.csr⟩
 unfold Q4d
 refine w_cn (rc hi.a) (w_cn (rc hi.b) ?_)
 repeat'(first
   |refine w_br (λ_=> ?_) (λ_=> ?_)
   |exact Q0a (Qpx h hi.a (Q0l _)) λx hx=>⟨k hx (Q0l _),U_0⟩
   |exact w_lv λx _=>w_br (λ_=>⟨k h (Q0l _),U_0⟩) (λ_=>⟨k h (Q0l _),U_0⟩)
   |exact w_lv λx hx=>⟨by rw[hx];exact Qqs h _ U_0,U_0⟩
   |exact w_lv λx hx=>⟨by rw[hx];exact vv h,U_0⟩
   |exact w_cn (by have:=hi.csr (by simp_all);simp [bT];omega) (Q0a (Qpx h hi.a (h.a _)) λx hx=>⟨k hx (Q0l _),U_0⟩)
   |exact Q0a (Zil h _ (h.r _)) λx hx=>⟨k hx (Q0l _),U_0⟩
   |refine w_cn (rc hi.c) ?_
   |exact Q0a (Z5x _ (h.r _) (Q0l _)) λy hy=>Q0a (Qpx h hi.a hy) λx hx=>⟨k hx (Q0l _),U_0⟩
   |exact Q0a (Z5x _ (h.r _) (h.r _)) λy hy=>Q0a (Qpx h hi.a hy) λx hx=>⟨k hx (Q0l _),U_0⟩
   |refine w_lf ?_)
 all_goals(first
   |exact⟨k h (Q0l _),U_0⟩
   |exact⟨k h (Q0l _),h.r _⟩)
theorem Z0h{P:Nat}{m:List Int}(hm:Q0t P m):(Qd1 c m i).w (λr=>Q27 r.1/\Q0t P r.2):=by
 have w:=Z9o i.Op
 unfold Qd1
 refine w_cn (rc hi.b) (w_lv λx0 h0=> ?_)
 rw[<-h0]at w
 refine Q0a (Qke hm (Q0l _) w 2) λx1 h1=>w_br (λ_=>w_lv λy hy=>⟨by rw[hy];exact Qqs h _ (Q0l _),h1.2⟩) (λ_=>w_lv λx3 h3=> ?_)
 rw[h0,<-h3]at w
 exact Q0a (Qqo h1.2 h1.1 w) λx4 h4=>w_br (λ_=>Q0a (Qty h4.1 8) λy hy=>Q0a (Qpx h hi.a hy) λx hx=>⟨⟨hx.x,Q0l _,hx.csr⟩,h1.2⟩) (λ_=>Q0a (Qpx h hi.a h4.1) λx hx=>⟨⟨hx.x,Q0l _,hx.csr⟩,h1.2⟩)
theorem Qx8{P:Nat}{m:List Int}(hm:Q0t P m):(Qaz c m i).w (λr=>Q27 r.1/\Q0t P r.2):=by
 have w:=Z9o i.Op
 unfold Qaz
 refine w_cn (rc hi.b) (w_lv λx0 h0=> ?_)
 rw[<-h0]at w
 refine Q0a (Qke hm (Q0l _) w 3) λx1 h1=>w_br (λ_=>w_lv λy hy=>⟨by rw[hy];exact Qqs h _ (Q0l _),h1.2⟩) (λ_=>w_lv λx3 h3=>w_cn (rc hi.a) ?_)
 rw[h0,<-h3]at w
 exact Q0a (Qys h1.2 h1.1 w (h.r _)) λx hx=>⟨⟨h.x,Q0l _,h.csr⟩,hx⟩
end
theorem qau{c:Q02}(h:Q27 c){P:Nat}{m:List Int}(hm:Q0t P m):(Q6f c m).w (λr=>Q27 r.1/\Q0t P r.2.1/\U r.2.2.Value):=by
 unfold Q6f
 refine Q0a (Zaw hm h) λx0 h0=>w_br (λ_=>w_lv λy hy=>⟨by rw[hy];exact Qqs h _ h.pc,h0.2,U_0⟩) (λ_=>Q0a (Z16 _) λx2 h2=>w_br (λ_=>w_lv λy hy=>⟨by rw[hy];exact Qqs h _ h0.1,h0.2,U_0⟩) (λhb=> ?_))
 have hi:=h2 (by simpa using hb)
 refine w_lv λx4 _=> ?_
 repeat'(first
   |refine w_br (λ_=> ?_) (λ_=> ?_)
   |exact Q0a (Z0h h hi h0.2) λx hx=>⟨hx.1,hx.2,U_0⟩
   |exact Q0a (Qx8 h hi h0.2) λx hx=>⟨hx.1,hx.2,U_0⟩
   |exact Q0a (Zn h hi) λx hx=>⟨hx.1,h0.2,hx.2⟩
   |exact w_lv λy hy=>⟨by rw[hy];exact Qqs h _ h0.1,h0.2,U_0⟩
   |refine w_lv λ_ _=> ?_)
theorem Ziv{a:Int}(h:U a)(k:Nat)(hk:k<=32):0<=ishr .u32 a k/\ishr .u32 a k*2^k<=a:=by
 obtain⟨h1,h2⟩:=h
 unfold ishr
 have e:min (k:Int).toNat u32.bits=k:=by show min (k:Int).toNat 32=k;omega
 have hp:(0:Int)<2^k:=dP (by decide)
 rw[e,dQ _ (dR hp)]
 exact⟨Int.ediv_nonneg h1 (dR hp),Int.ediv_mul_le a (Int.ne_of_gt hp)⟩
theorem Zjr(x:Int):0<=u8.wrap x/\u8.wrap x<256:=by rw[wrap_u8];omega
theorem zau{x:Int}(h:U x):(Q1k x).w (λ_=>True):=by
 have s16:=Ziv h 16 (by omega)
 have s8:=Ziv h 8 (by omega)
 have s24:=Ziv (Qrd h 16) 8 (by omega)
 obtain⟨h1,h2⟩:=h
 unfold Q1k
 repeat'(first
   |refine w_br (λ_=> ?_) (λ_=> ?_)
   |refine w_cn (dY ⟨?_,hY (b:=256) ?_ (hZ (by kernel_rfl))⟩) ?_
   |exact trivial
   |refine w_lf ?_)
 all_goals(first
   |trivial
   |exact(Zjr _).1
   |exact(Zjr _).2
   |(simp only[decide_eq_true_eq,decide_eq_false_iff_not]at*;simp at s16 s8 s24;omega))
theorem and255(a:Int):iand .u32 a 255<256:=by
 unfold iand
 rw[wrap_u32]
 have:(dX u32.bits a&&&dX u32.bits 255).toNat<=255:=by
   show(dX 32 a&&&dX 32 255).toNat<=255
   rw[eB]
   exact Nat.le_trans Nat.and_le_right (by decide)
 omega
theorem xaI{x:Int}(h:U x):(Q2o x).w (λ_=>True):=by
 have s24:=Ziv h 24 (by omega)
 obtain⟨h1,h2⟩:=h
 have i24:ishr .u32 x 24<256:=by simp at s24;omega
 unfold Q2o
 repeat'(first
   |refine w_cn (dY ⟨?_,hY (b:=256) ?_ (hZ (by kernel_rfl))⟩) ?_
   |exact trivial
   |refine w_lf ?_)
 all_goals(first
   |trivial
   |exact(Q0l _).1
   |exact s24.1
   |exact i24
   |exact and255 _)
structure okS(P:Nat)(m:Q00):Prop where
 cpu:Q27 m.B1
 mem:Q0t P m.Mem
 disk:Q7i m.A9
 nic:Qhl m.B9
 target:U m.A1.C6
 given:U m.A1.C2
theorem Zkm{b:Q07}(h:U b.C2):(Q8p b).w (λ_=>True):=by
 unfold Q8p
 exact Q0a (xaI h) λ_ _=>trivial
theorem xX{m:Q00}(h:U m.A1.C2):(Q4e m).w (λ_=>True):=by
 have b: ∀x,(Q3l m.A1 x).w (λ_=>True):=λx=>by
   unfold Q3l
   exact Q0a (zau h) λ_ _=>trivial
 have d:(Q1 m).w (λ_=>True):=by
   unfold Q1
   exact w_lv λ_ _=>w_lv λ_ _=>w_br (λ_=>w_lv λ_ _=>w_br (λ_=>w_lv λ_ _=>w_br (λ_=>w_lv λ_ _=>w_br (λ_=>Q0a (b _) λ_ _=>trivial) (λ_=>trivial)) (λ_=>trivial)) (λ_=>trivial)) (λ_=>trivial)
 unfold Q4e
 repeat'(first
   |refine w_br (λ_=> ?_) (λ_=> ?_)
   |exact Q0a d λ_ _=>trivial
   |refine w_lv λ_ _=> ?_
   |exact trivial)
theorem vQ{m:Q00}(h:U m.A1.C2):(Q6n m).w (λ_=>True):=by
 have p:(Q4r m.A1).w (λ_=>True):=by
   unfold Q4r
   exact Q0a (Zkm h) λ_ _=>trivial
 unfold Q6n
 refine w_lv λx0 _=>w_lv λx1 _=>w_lv λx2 _=>w_lv λx3 _=>Q0a p λx4 _=>w_lp (inv:=λz=>0<=z.2/\z.2<=5) (μ:=Qib m) ⟨by omega,by omega⟩ (cO _) (λz hz=> ?_)
 obtain⟨z1,z2⟩:=hz
 have ew:z.2<5->i64.wrap (z.2+1)=z.2+1:=λ_=>by rw[wrap_i64];omega
 refine w_br (λhb=> ?_) (λ_=>trivial)
 have hb:=oY hb
 have nx:(0<=i64.wrap (z.2+1)/\i64.wrap (z.2+1)<=5)/\(5-i64.wrap (z.2+1)).toNat<(5-z.2).toNat:=by rw[ew hb];omega
 refine w_cn (by simp;omega) (w_br (λ_=>w_cn (dY z1) (w_nx nx)) (λ_=>w_nx nx))
theorem Z65{m:Q00}(h:U m.A1.C2):(Q4t m).w U:=by
 unfold Q4t
 exact Q0a (vQ h) λ_ _=>Qh6 _ _
theorem xau{m:Q00}(h:U m.A1.C2):(Q3m m).w (λ_=>True):=by
 have i:(Q4o m).w (λ_=>True):=by
   unfold Q4o
   exact w_br (λ_=>Q0a (Z65 h) λ_ _=>trivial) (λ_=>trivial)
 unfold Q3m
 exact Q0a (xX h) λ_ _=>w_br (λ_=>w_br (λ_=>Q0a i λ_ _=>w_br (λ_=>trivial) (λ_=>trivial)) (λ_=>trivial)) (λ_=>trivial)
theorem Qdv{P:Nat}{m:List Int}(h:Q0t P m):Q34 m=P:=by
 obtain⟨h1,h2,h3,_⟩:=h
 simp only[Q34,Qnx,Tree.m]
 have e:(m.length:Int)=32*P:=by omega
 rw[e]
 have e1:(dF (32*(P:Int)) 32 !=0)=false:=by simp [hH]
 have e2:decide ((32*(P:Int))>1024)=false:=dN (by omega)
 rw[e1,e2]
 simp only[cond_false]
 rw[hJ _ (by decide),wrap_i64];omega
theorem Ql0{P:Nat}{m:List Int}(h:Q0t P m){f:Int}(hf:U f):Q1v m f=decide (f<P):=by
 have:=Qdv h
 obtain⟨h1,h2⟩:=hf
 have h3:=h.p2
 simp only[Q1v,Qhh,Tree.m,letv,this]
 congr 1
 rw[wrap_u64,wrap_u64,dO h1 (by omega),dO (by omega) (by omega)]
theorem zX{P:Nat}{m:List Int}(h:Q0t P m):(Qcy m).w (λr=>r=m):=by
 obtain⟨h1,h2,h3,_⟩:=h
 unfold Qcy
 refine w_cn ?_ ?_
 . simp [bT,D.plain];omega
 . show _=_
   simp
theorem put_w{P:Nat}{m:List Int}(h:Q0t P m){addr size v:Int}(ha:U addr)(hl:addr<4*m.length)(hv:U v):(Qd6 m addr size v).w (Q0t P):=by
 obtain⟨h1,h2,h3,h4⟩:=h
 obtain⟨a1,a2⟩:=ha
 have e:wrap u32 (eX addr 4)=addr/4:=by rw[wrap_u32,eY a1];omega
 have hc:(bS 1 1&&bT 0 1&&decide (0<=wrap u32 (eX addr 4)/\wrap u32 (eX addr 4)<(m.length:Int)))=true:=by
   rw[e];simp [bT];omega
 have h0: ∀x,decide (0<=wrap u32 x)=true:=λx=>dY (Q0l x).1
 have hs: ∀i v,U v->Q0t P (m.set i v):=λi v hv=>⟨by simp [h1],h2,h3,Qyh h4 hv i⟩
 unfold Qd6
 exact w_br (λ_=>w_cn hc (hs _ _ hv)) (λ_=>w_cn hc (w_cn (h0 _) (w_cn (h0 _) (w_cn hc (hs _ _ (U_or _ _))))))
theorem yX{P:Nat}{m:List Int}(h:Q0t P m){frame:Int}(f0:0<=frame)(f1:frame<P)(s:List UInt8):(Q8v m frame s).w (Q0t P):=by
 unfold Q8v
 have h3:=h.p2
 refine w_lp (inv:=λz=>0<=z.1/\z.1<=128/\Q0t P z.2) (μ:=Qhy m frame s) ⟨by omega,by omega,h⟩ (cO _) (λv0 hv0=> ?_)
 obtain⟨i0,i1,hm⟩:=hv0
 refine w_br (λh1=>w_br (λh2=>w_cn ?_ ?_) (λ_=>hm)) (λ_=>hm)
 . have:=oY h1
   simp [bT];omega
 . have h2:=oY h2
   have e:wrap u32 (wrap i64 (wrap i64 (frame*128)+v0.1))=frame*128+v0.1:=by
     rw[wrap_u32,wrap_i64,wrap_i64];omega
   rw[e]
   obtain⟨g1,g2⟩:=Tree.pp (put_w hm (size:=1) (addr:=frame*128+v0.1) ⟨by omega,by omega⟩ (by rw[hm.len];omega) (Q0l (UInt8.toNat (s.getD v0.1.toNat 0))))
   refine w_an g1 (w_lv λx0 hx0=> ?_)
   rw[hx0]
   have ew:i64.wrap (v0.1+1)=v0.1+1:=by rw[wrap_i64];omega
   refine w_nx ?_
   show(0<=i64.wrap (v0.1+1)/\i64.wrap (v0.1+1)<=128/\Q0t P _)/\(128-i64.wrap (v0.1+1)).toNat<(128-v0.1).toNat
   rw[ew]
   exact⟨⟨by omega,by omega,g2⟩,by omega⟩
theorem Zjb{P:Nat}{m:List Int}(h:Q0t P m){d:Q0d}(hd:Q7i d)(e:Q0e):(Q5z d m e).w (λr=>Q7i r.1/\Q0t P r.2.2):=by
 have fl:Q1v m d.B2=true->(Q8v m (i64.wrap d.B2) e.C9).w (Q0t P):=λhp=>by
   rw[Ql0 h hd.opFrame]at hp
   have:=oY hp
   have h1:=hd.opFrame.1
   have h3:=h.p2
   have ew:i64.wrap d.B2=d.B2:=by rw[wrap_i64];omega
   rw[ew]
   exact yX h h1 this _
 have l0:Q7i d/\Q0t P m:=⟨hd,h⟩
 have l1: ∀st,Q7i {Blocks:=d.Blocks,C1:=d.C1,Frame:=d.Frame,B7:=st,D4:=0,B5:=0,B2:=0,B8:=[]}:=λst=>⟨hd.block,hd.frame,U_0,U_0⟩
 unfold Q5z
 repeat'(first
   |exact l0
   |exact⟨l1 _,h⟩
   |refine w_br (λ_=> ?_) (λ_=> ?_)
   |refine w_lv (λ_ _=> ?_))
 all_goals(
   first
     | (have hp:Q1v m d.B2=true:=by simp_all
        obtain⟨g1,g2⟩:=Tree.pp (fl hp)
        refine w_an g1 (w_lv λx hx=> ?_)
        rw[hx]
        exact w_br (λ_=>⟨l1 _,g2⟩) (λ_=>⟨l1 _,g2⟩))
     |(exfalso;simp_all;done))
section
variable {c:Q02} (h:Q27 c)
include h
theorem Z17(k:Int){b:Int}(hb:U b):Q27 (Q2g c k b):=by
 refine(Tree.post (Qhb c k b) (W:=Q27) ?_)
 unfold Qhb
 refine w_lv λ_ _=>w_lv λ_ _=>⟨h.x,h.a1,?_⟩
 intro w hw
 simp only[A8.l,cU,cV,or_false]at hw
 rcases hw with rfl|rfl|rfl|rfl|rfl|rfl|rfl|rfl
 . exact U_or _ _
 . exact h.a1
 . exact h.pc
 . exact Q0l _
 . exact hb
 . exact h.a5
 . exact h.a6
 . exact h.a7
theorem qR:Q27 (Qgz c):=by
 refine(Tree.post (Qcq c) (W:=Q27) ?_)
 unfold Qcq
 refine w_lv λ_ _=>w_lv λ_ _=>⟨h.x,h.a2,?_⟩
 intro w hw
 simp only[A8.l,cU,cV,or_false]at hw
 rcases hw with rfl|rfl|rfl|rfl|rfl|rfl|rfl|rfl
 . exact U_or _ _
 . exact h.a1
 . exact h.a2
 . exact h.a3
 . exact h.a4
 . exact h.a5
 . exact h.a6
 . exact h.a7
theorem Z4w(r:Int){v:Int}(hv:U v):(Qdc c r v).w Q27:=by
 unfold Qdc
 refine w_br (λh1=>w_br (λh2=>w_cn ?_ ⟨Z9x h.x hv _,h.pc,h.csr⟩) (λ_=>h)) (λ_=>h)
 have h1:=oY h1
 have h2:=oY h2
 simp [bT];omega
theorem qav(k:Int){v:Int}(hv:U v):(Qbi c k v).w Q27:=by
 have ok: ∀i v,U v->Q27 {X:=c.X,Pc:=c.Pc,B4:=A8.of 0 (dH (A8.l c.B4) i v)}:=λi v hv=>⟨h.x,h.pc,Qse h.csr hv i⟩
 unfold Qbi
 repeat'(first
   |exact h
   |exact ok _ _ (Q0l _)
   |exact ok _ _ hv
   |refine w_br (λhk=> ?_) (λ_=> ?_)
   |refine w_cn (by rw[eq_of_beq (by assumption:(k==_)=true)];decide) ?_)
end
section
variable {P:Nat} {m:List Int} (h:Q0t P m)
include h
theorem Z7i(a:Int){size:Int}(hs:size=1\/size=4):(Q6w m a size).w (λb=>b=true->a<128*P):=by
 have hp:=Qdv h
 have h2:=h.p2
 have e:decide (wrap u32 size≠0)=true:=by rcases hs with rfl|rfl<;>decide
 have l: ∀x,x=Q34 m->decide (a<wrap u32 (wrap i64 (128*x)))=true->a<128*P:=λx hx hd=>by
   rw[hx,hp,wrap_u32,wrap_i64]at hd
   have:=oY hd
   omega
 unfold Q6w
 refine w_br (λ_=>w_br (λ_=>λh=>by cases h) (λ_=> ?_)) (λ_=> ?_)<;>
 exact w_cn e (w_br (λ_=>w_lv λx hx=>l x hx) (λ_=>λh=>by cases h))
theorem idx{a:Int}(ha:U a)(hl:a<128*P):(bS 1 1&&bT 0 1&&decide (0<=wrap u32 (eX a 4)/\wrap u32 (eX a 4)<(m.length:Int)))=true:=by
 obtain⟨a1,a2⟩:=ha
 have e:wrap u32 (eX a 4)=a/4:=by rw[wrap_u32,eY a1];omega
 have:=h.len
 rw[e];simp [bT];omega
theorem Zdt{a:Int}(ha:U a){size:Int}(hs:size=1\/size=4):(Q62 m a size).w (λr=>U r.1):=by
 obtain⟨g1,g2⟩:=Tree.pp (Z7i h a hs)
 unfold Q62
 refine w_an g1 (w_lv λx hx=>w_br (λ_=>U_0) (λhb=> ?_))
 have hb:x=true:=by simpa using hb
 have hl:=g2 (hx.symm.trans hb)
 refine w_cn (idx h ha hl) (w_br (λ_=>w_cn (dY (Q0l _).1) (Q0l _)) (λ_=>Qka h.u _))
theorem qaJ{a:Int}(ha:U a)(access:Int):(Qdb m a access).w (Q0t P):=by
 obtain⟨g1,g2⟩:=Tree.pp (Z7i h a (size:=4) (.inr rfl))
 have hs: ∀{m:List Int} i v,Q0t P m->U v->Q0t P (m.set i v):=λi v h hv=>⟨by simp [h.len],h.p1,h.p2,Qyh h.u hv i⟩
 unfold Qdb
 refine w_an g1 (w_lv λx hx=>w_br (λ_=>h) (λhb=> ?_))
 have hb:x=true:=by simpa using hb
 have hl:=g2 (hx.symm.trans hb)
 have i0:=idx h ha hl
 have h':=hs (Int.toNat (wrap u32 (eX a 4))) (ior u32 (m.getD (Int.toNat (wrap u32 (eX a 4))) 0) 8) h (U_or _ _)
 have i1:=idx h' ha hl
 exact w_cn i0 (w_cn i0 (w_br (λ_=>w_cn i1 (w_cn i1 (hs _ _ h' (U_or _ _)))) (λ_=>h')))
theorem vX{root va:Int}(hr:U root)(hv:U va)(access:Int):(Q8t m root va access).w (λt=>U t.Addr/\U t.F0/\(t.E0=0->t.Addr<128*P)):=by
 have hp:=Qdv h
 have h2:=h.p2
 have hlen:=h.len
 obtain⟨r1,r2⟩:=hr
 obtain⟨v1,v2⟩:=hv
 unfold Q8t
 refine w_lv λx0 hx0=>w_lv λx1 hx1=>w_lv λx2 _=> ?_
 have hc:x0≠0:=by
   rw[hx0]
   simp only[Q3,Q7j,Tree.m]
   cases access==1<;>cases access==3<;>simp
 rw[hp]at hx1
 have bad:U (0:Int)/\U (0:Int)/\(x0=0->(0:Int)<128*P):=⟨U_0,U_0,λe=>absurd e hc⟩
 refine w_br (λ_=>bad) (λ_=>w_br (λ_=>bad) (λhva=>w_br (λ_=>bad) (λhro=> ?_)))
 have hva:=oN hva
 have hro:=oN hro
 have e1:wrap u32 x1=P:=by rw[hx1,wrap_u32];omega
 rw[e1]at hro
 have e2:wrap u32 (wrap u32 (root*128)+wrap u32 (4*wrap u32 (eX va 128)))=root*128+4*(va/128):=by
   rw[eY v1,wrap_u32,wrap_u32,wrap_u32,wrap_u32];omega
 have hU:U (wrap u32 (wrap u32 (root*128)+wrap u32 (4*wrap u32 (eX va 128)))):=Q0l _
 have ci:=idx h hU (by rw[e2];omega)
 have good: ∀w:Int,decide (iand u32 w 255>=wrap u32 x1)=false->(U (wrap u32 (wrap u32 (iand u32 w 255*128)+dF va 128))/\U (wrap u32 (wrap u32 (root*128)+wrap u32 (4*wrap u32 (eX va 128))))/\((0:Int)=0->wrap u32 (wrap u32 (iand u32 w 255*128)+dF va 128)<128*P)):=λw hw=>by
   have hw:=oN hw
   rw[e1]at hw
   have hn:=(Qh6 w 255).1
   refine⟨Q0l _,Q0l _,λ_=> ?_⟩
   rw[Int.tmod_eq_emod_of_nonneg v1,wrap_u32,wrap_u32]
   generalize iand u32 w 255=q at*
   omega
 refine w_cn ci ?_
 repeat'(first
   |exact bad
   |exact good _ (by assumption)
   |refine w_br (λ_=> ?_) (λ_=> ?_)
   |refine w_cn ci ?_)
theorem Zay{c:Q02}(hc:Q27 c){va:Int}(hv:U va){size:Int}(hs:size=1\/size=4)(access:Int):(Q8f c m va size access).w (λr=>Q0t P r.2.2/\U r.1/\(r.2.1=0->r.1<128*P)):=by
 have e:decide (wrap u32 size≠0)=true:=by rcases hs with rfl|rfl<;>decide
 obtain⟨g1,g2⟩:=Tree.pp (Z7i h va hs)
 obtain⟨k1,k2⟩:=Tree.pp (vX h hc.a6 hv access)
 have bad: ∀k:Int,k≠0->Q0t P m/\U (0:Int)/\(k=0->(0:Int)<128*P):=λk hk=>⟨h,U_0,λe=>absurd e hk⟩
 have hca:Q3 access≠0:=by
   simp only[Q3,Q7j,Tree.m]
   cases access==1<;>cases access==3<;>simp
 unfold Q8f
 refine w_lv λx0 _=>w_br (λ_=>bad 5 (by decide)) (λ_=>w_br (λh1=>w_br (λh2=> ?_) (λ_=> ?_)) (λ_=> ?_))
 . exact bad 5 (by decide)
 all_goals(
   refine w_cn e (w_br (λ_=>bad 3 (by decide)) (λ_=>w_lv λx1 _=>w_br (λ_=>w_an g1 (w_lv λx2 hx2=>w_br (λ_=>w_lv λx3 hx3=>bad x3 (by rw[hx3];exact hca)) (λhb=> ?_))) (λ_=>w_an k1 (w_lv λx4 hx4=>w_br (λhb=> ?_) (λhb=> ?_)))))
   . have hb:x2=true:=by simpa using hb
     exact⟨h,hv,λ_=>g2 (hx2.symm.trans hb)⟩
   . exact bad _ (by simpa using hb)
   . obtain⟨t1,t2,t3⟩:=k2
     rw[show(Q8t m c.B4.a6 va access).m=x4 from hx4.symm]at t1 t2 t3
     obtain⟨m1,m2⟩:=Tree.pp (qaJ h t2 access)
     refine w_an m1 (w_lv λx5 hx5=> ?_)
     exact⟨hx5▸m2,t1,λ_=>t3 (by simpa using hb)⟩)
end
theorem qw{r:Int}(h:Q76 r=true):0<=r/\r<16:=by
 simp only[Q76,Qcm,Tree.m]at h
 cases h1:decide (r>=0)<;>rw[h1]at h
 . cases h
 . have h1:=oY h1
   have h:=oY h
   omega
theorem xR{i:Q0i}(hi:wrap .i64 i.Imm=i.Imm)(h:Q7k i=true):Qef i:=by
 have no:false=true->Qef i:=λh=>by cases h
 refine(Tree.post (Qee i) (W:=λb=>b=true->Qef i) ?_) h
 unfold Qee
 refine w_lv λx0 h0=>w_br (λ_=>no) (λ_=>w_lv λx1 h1=>w_br (λ_=>no) (λb1=>w_lv λx2 h2=>w_br (λ_=>no) (λb2=>w_lv λx3 h3=>w_br (λ_=>no) (λb3=>w_lv λx4 h4=>w_br (λ_=>no) (λb4=>w_br (λ_=>no) (λb5=> ?_))))))
 have b1:x1=true:=by simpa using b1
 have b2:x2=true:=by simpa using b2
 have b3:x3=true:=by simpa using b3
 have b4:=oN b4
 have b5:=oN b5
 rw[hi]at b4 b5
 have ok:Qef i:=⟨qw (h1.symm.trans b1),qw (h2.symm.trans b2),qw (h3.symm.trans b3),λe=>by
   rw[e]at h0
   have h0:x0=8:=h0
   subst h0
   have h4:x4=(0,7):=h4
   subst h4
   simp at b4 b5;omega⟩
 repeat'(first
   |exact λ_=>ok
   |exact no
   |refine w_br (λ_=> ?_) (λ_=> ?_))
theorem Ziw(w:Int):(Q92 w).w (λr=>r.2=true->Qef r.1):=by
 have no: ∀{p:Prop},false=true->p:=λh=>by cases h
 have e: ∀x,wrap .i64 (wrap .i32 x)=wrap .i32 x:=λx=>by rw[wrap_i64,wrap_i32];omega
 have ok: ∀i,wrap .i64 i.Imm=i.Imm-> ∀x,x=Q7k i->(!x)=false->true=true->Qef i:=λi hi x hx hb _=>xR hi (hx.symm.trans (by simpa using hb))
 unfold Q92
 refine w_lv λx0 _=> ?_
 have l: ∀i,wrap .i64 i.Imm=i.Imm->(Tree.lv (Q7k i) λx=> .br (!x) (.lf ((⟨0,0,0,0,0⟩:Q0i),false)) (.lf (i,true))).w (λr=>r.2=true->Qef r.1):=λi hi=>w_lv λx hx=>w_br (λ_=>no) (λhb=>ok i hi x hx hb)
 refine w_br (λ_=>no) (λ_=>w_br (λ_=>l _ rfl) (λ_=>w_br (λ_=>l _ (e _)) (λ_=>w_br (λ_=>l _ (e _)) (λ_=>l _ (e _)))))
theorem bit_w(b:Bool):U (Qab b):=by cases b<;>exact⟨by decide,by decide⟩
theorem Zim{a b:Int}(ha:U a)(hb:U b):(Q94 a b).w (λr=>U r.1/\U r.2):=by
 unfold Q94
 refine w_br (λ_=>⟨⟨by omega,by omega⟩,ha⟩) (λh=> ?_)
 have h: ¬b=0:=by simpa using h
 obtain⟨b1,b2⟩:=hb
 have hc:decide (wrap i64 (wrap i32 b)≠0)=true:=dY (by rw[wrap_i64,wrap_i32];omega)
 exact w_cn hc (w_cn hc ⟨Q0l _,Q0l _⟩)
theorem alu_w(op:Int){a b:Int}(ha:U a)(hb:U b):(Qji op a b).w (λr=>U r.1):=by
 unfold Qji
 refine w_lv λx0 _=> ?_
 repeat'(first
   |exact Q0l _
   |exact Qrd ha _
   |exact U_0
   |refine w_br (λ_=> ?_) (λ_=> ?_)
   |exact Q0a (Zim ha hb) λx hx=>hx.1
   |exact Q0a (Zim ha hb) λx hx=>hx.2
   |exact w_lv λx hx=>(by rw[hx];exact bit_w _))
theorem xw{x:Int}(hx:U x):(Q6g x 8).w U:=by
 unfold Q6g
 have h0:decide (0<=wrap u64 8)=true:=by decide
 refine w_br (λh=>absurd h (by decide)) λ_=>w_br (λh=>absurd h (by decide)) λ_=>w_cn h0 (w_cn (by decide) (w_br (λ_=>w_cn h0 (U_or _ _)) (λ_=>Qh6 _ _)))
section
variable {c:Q02} (h:Q27 c) {i:Q0i} (hi:Qef i)
include h hi
theorem zR:(Qc4 c i).w (λr=>Q27 r.1/\U r.2.Value):=by
 unfold Qc4
 refine w_br (λ_=>w_lv λx hx=>⟨hx▸Z17 h _ U_0,U_0⟩) (λ_=>w_br (λ_=>w_lv λx hx=>⟨hx▸qR h,U_0⟩) (λ_=>w_br (λe=>w_cn ?_ (Q0a (Z4w h _ (h.a _)) λx hx=>⟨hx.pcs (Q0l _),U_0⟩)) (λ_=>w_br (λ_=>w_cn (rc hi.a) (Q0a (qav h _ (h.r _)) λx hx=>⟨hx.pcs (Q0l _),U_0⟩)) (λ_=> ?_))))
 . have:=hi.csr (by simpa using e)
   simp [bT];omega
 . have k:=h.pcs (Q0l (c.Pc+4))
   repeat'(first
     |exact⟨k,U_0⟩
     |exact⟨k,h.r _⟩
     |refine w_br (λ_=> ?_) (λ_=> ?_)
     |refine w_cn (rc hi.a) ?_)
theorem zaJ:(Qgy c i).w Q27:=by
 unfold Qgy
 exact w_br (λ_=>Q0a (Z4w h _ (Q0l _)) λx hx=>hx.pcs (Q0l _)) (λ_=>w_br (λ_=>w_cn (rc hi.b) (Q0a (Z4w h _ (Q0l _)) λx hx=>hx.pcs (Q0l _))) (λ_=>w_cn (rc hi.a) (w_cn (rc hi.b) (w_lv λx _=>w_br (λ_=>h.pcs (Q0l _)) (λ_=>h.pcs (Q0l _))))))
theorem Zlh{P:Nat}{m:List Int}(hm:Q0t P m):(Q8b c m i).w (λr=>Q27 r.1/\Q0t P r.2):=by
  unfold Q8b
  refine w_cn (rc hi.b) ?_
  have e1:(1:Int)=1\/(1:Int)=4:= .inl rfl
  have e4:(4:Int)=1\/(4:Int)=4:= .inr rfl
  repeat'(first
    |refine w_br (λ_=> ?_) (λ_=> ?_)
    | (refine Q0a (Zay hm h (Q0l _) e4 _) λx hx=> ?_
       obtain⟨m1,m2,m3⟩:=hx
       refine w_br (λ_=>w_lv λy hy=>⟨hy▸Z17 h _ (Q0l _),m1⟩) (λhb=> ?_)
       have m3:=m3 (by simpa using hb)
       have m4:x.1<4*x.2.2.length:=by rw[m1.len];omega
       clear hb)
    | (refine Q0a (Zay hm h (Q0l _) e1 _) λx hx=> ?_
       obtain⟨m1,m2,m3⟩:=hx
       refine w_br (λ_=>w_lv λy hy=>⟨hy▸Z17 h _ (Q0l _),m1⟩) (λhb=> ?_)
       have m3:=m3 (by simpa using hb)
       have m4:x.1<4*x.2.2.length:=by rw[m1.len];omega
       clear hb)
    |exact w_cn (rc hi.a) (Q0a (put_w (by assumption) (by assumption) (by assumption) (h.r _)) λy hy=>⟨h.pcs (Q0l _),hy⟩)
    |(refine Q0a (Zdt (by assumption) (by assumption) e4) λy hy=> ?_)
    |(refine Q0a (Zdt (by assumption) (by assumption) e1) λy hy=> ?_)
    |exact Q0a (xw (by assumption)) λz hz=>Q0a (Z4w h _ hz) λu hu=>⟨hu.pcs (Q0l _),by assumption⟩
    |exact Q0a (Z4w h _ (by assumption)) λu hu=>⟨hu.pcs (Q0l _),by assumption⟩)
end
theorem do_w{c:Q02}(h:Q27 c){P:Nat}{m:List Int}(hm:Q0t P m):(Qn2 c m).w (λr=>Q27 r.1/\U r.2.1.Value/\Q0t P r.2.2):=by
 unfold Qn2
 refine Q0a (Zay hm h h.pc (.inr rfl) 1) λx0 hx=> ?_
 obtain⟨m1,m2,m3⟩:=hx
 refine w_br (λ_=>w_lv λy hy=>⟨hy▸Z17 h _ h.pc,U_0,m1⟩) (λhb=> ?_)
 refine Q0a (Zdt m1 m2 (.inr rfl)) λx2 h2=>Zbc (Ziw _) λx3 h3=>w_br (λ_=>w_lv λy hy=>⟨hy▸Z17 h _ h2,U_0,m1⟩) (λb3=> ?_)
 have hi:=h3 (by simpa using b3)
 refine w_lv λx5 _=> ?_
 repeat'(first
   |refine w_br (λ_=> ?_) (λ_=> ?_)
   |exact w_lv λy hy=>⟨hy▸Z17 h _ h2,U_0,m1⟩
   |exact Q0a (zR h hi) λy hy=>⟨hy.1,hy.2,m1⟩
   |exact Q0a (zaJ h hi) λy hy=>⟨hy,U_0,m1⟩
   |exact Q0a (Zlh h hi m1) λy hy=>⟨hy.1,U_0,hy.2⟩
   |exact Q0a (Z4w h _ (Q0l _)) λy hy=>⟨hy.pcs (Q0l _),U_0,m1⟩
   |refine w_cn (rc hi.c) ?_
   |refine w_cn (rc hi.b) ?_
   |exact Q0a (alu_w _ (h.r _) (h.r _)) λy hy=>Q0a (Z4w h _ hy) λz hz=>⟨hz.pcs (Q0l _),U_0,m1⟩
   |exact Q0a (alu_w _ (h.r _) (Q0l _)) λy hy=>Q0a (Z4w h _ hy) λz hz=>⟨hz.pcs (Q0l _),U_0,m1⟩)
theorem and1{q:Int}(h:U q):iand .u32 q 1=q%2:=by
 obtain⟨h1,h2⟩:=h
 unfold iand
 rw[wrap_u32]
 have e1:(dX 32 q).toNat=q.toNat:=by rw[BitVec.toNat_ofInt];omega
 have e2:(dX 32 1).toNat=1:=by decide
 have:(dX u32.bits q&&&dX u32.bits 1).toNat=q.toNat%2:=by
   show(dX 32 q&&&dX 32 1).toNat=_
   rw[eB,e1,e2,Nat.and_one_is_mod]
 rw[this];omega
theorem Zch(b:Bool)(n:Int):(Qh1 b n).w (λ_=>True):=by
 unfold Qh1
 exact w_br (λ_=>w_cn (dY (by rw[wrap_u64];omega)) trivial) (λ_=>trivial)
theorem zav(m:Q00):(Qen m).w (λ_=>True):=by
 unfold Qen
 exact w_lv λ_ _=>Q0a (Zch _ _) λ_ _=>w_lv λ_ _=>Q0a (Zch _ _) λ_ _=>w_lv λ_ _=>Q0a (Zch _ _) λ_ _=>w_lv λ_ _=>Q0a (Zch _ _) λ_ _=>w_lv λ_ _=>Q0a (Zch _ _) λ_ _=>trivial
theorem Zeg(m:Q00):(Q7s m).w U:=by
 unfold Q7s
 exact Q0a (zav m) λ_ _=>Qh6 _ _
theorem qY(m:Q00):(Qd2 m).w (λ_=>True):=by
 unfold Qd2
 exact w_br (λ_=>Q0a (Zeg m) λ_ _=>trivial) (λ_=>trivial)
theorem Zfp(m:Q00):(Q8j m).w (λ_=>True):=by
 unfold Q8j
 exact w_lv λ_ _=>w_br (λ_=>trivial) (λ_=>w_br (λ_=>trivial) (λ_=>Q0a (qY m) λ_ _=>w_br (λ_=>trivial) (λ_=>trivial)))
theorem Qfm{m:Q00}(h:Q27 m.B1):(Q4 m).w Q27:=by
 unfold Q4
 refine Q0a (Zeg m) λx0 hx=>w_br (λ_=>h) (λ_=>w_br (λ_=>h) (λhb=> ?_))
 have hb:x0≠0:=by simpa using hb
 have sh: ∀z:Int,0<=z->z<=31->ishr .u32 x0 (wrap .u64 z)=x0/2^z.toNat:=λz h1 h2=>by
   unfold ishr
   have e:min (wrap .u64 z).toNat u32.bits=z.toNat:=by
     show min (wrap .u64 z).toNat 32=z.toNat
     rw[wrap_u64];omega
   rw[e,dQ _ (dR (dP (by decide)))]
 refine w_lp (inv:=λz=>0<=z/\z<=31/\x0/2^z.toNat≠0) (μ:=Qcw m) ⟨by omega,by omega,by simpa using hb⟩ (cO _) (λz hz=> ?_)
 obtain⟨z1,z2,z3⟩:=hz
 refine w_cn (dY (by rw[wrap_u64];omega)) (w_br (λe=>w_nx ?_) (λ_=>w_lv λy hy=>hy▸Z17 h _ U_0))
 have e:=eq_of_beq e
 have hq:=Qrd hx (wrap .u64 z)
 rw[and1 hq,sh z z1 z2]at e
 rw[sh z z1 z2]at hq
 have hlt:x0/2^z.toNat/2≠0:=by omega
 have z4:z<=30:=by
   rcases Int.lt_or_le z 31 with h|h
   . omega
   . have:z=31:=by omega
     subst this
     have:=hx.2
     have:=hx.1
     simp at z3 e hlt
     omega
 show(0<=i64.wrap (z+1)/\i64.wrap (z+1)<=31/\x0/2^(i64.wrap (z+1)).toNat≠0)/\(32-i64.wrap (z+1)).toNat<(32-z).toNat
 have ew:i64.wrap (z+1)=z+1:=by rw[wrap_i64];omega
 rw[ew]
 refine⟨⟨by omega,by omega,?_⟩,by omega⟩
 have et:(z+1).toNat=z.toNat+1:=by omega
 rw[et,Int.pow_succ,<-Int.ediv_ediv_of_nonneg (dR (dP (by decide)))]
 exact hlt
theorem zw{P:Nat}{m:Q00}(h:Q27 m.B1)(hm:Q0t P m.Mem):(Qed m).w (λ_=>True):=by
 unfold Qed
 refine Q0a (Qfm h) λx0 hx=>w_br (λ_=>trivial) (λ_=>Q0a (Zdt hm hx.pc (.inr rfl)) λx1 _=>w_lv λx2 _=> ?_)
 exact w_br (λ_=>w_br (λ_=>w_br (λ_=>trivial) (λ_=>trivial)) (λ_=>trivial)) (λ_=>trivial)
theorem Qx3{P:Nat}{m:Q00}(h:Q27 m.B1)(hm:Q0t P m.Mem):(Q6m m).w (λ_=>True):=by
 unfold Q6m
 exact Q0a (Zfp m) λ_ _=>w_br (λ_=>trivial) (λ_=>Q0a (zw h hm) λ_ _=>trivial)
theorem Qh2(l:List Int):(bytesOf l).length=l.length:=by simp [bytesOf]
theorem Qoa(l:List UInt8):(Q1p l).length=l.length:=by simp [Q1p]
theorem low_w(x:Int):(Qgb x 4).w (λr=>r.length=4):=by
 unfold Qgb
 refine w_lp (inv:=λz=>0<=z.1/\z.1<=4/\(z.2.length:Int)=z.1) (μ:=Qdl x 4) ⟨by omega,by omega,rfl⟩ (cO _) (λz hz=> ?_)
 obtain⟨z1,z2,z3⟩:=hz
 refine w_br (λh=>w_cn (dY (by rw[wrap_u64];omega)) (w_cn (dY (by omega)) (w_nx ?_))) (λh=> ?_)
 . have h:=oY h
   show(0<=i64.wrap (z.1+1)/\i64.wrap (z.1+1)<=4/\((z.2++[_]).length:Int)=i64.wrap (z.1+1))/\(4-i64.wrap (z.1+1)).toNat<(4-z.1).toNat
   have ew:i64.wrap (z.1+1)=z.1+1:=by rw[wrap_i64];omega
   rw[ew]
   refine⟨⟨by omega,by omega,by simp;omega⟩,by omega⟩
 . have h:=oN h
   show(bytesOf z.2).length=4
   rw[Qh2];omega
theorem xY{P:Nat}{m:List Int}(hm:Q0t P m)(frame:Int):(Q8o m frame).w (λr=>0<=frame->frame<P->r.1.length=128):=by
 have hp:=Qdv hm
 have hl:=hm.len
 have h2:=hm.p2
 unfold Q8o
 refine w_br (λh=>λh0 _=>by have:=oY h;omega) (λh=>w_lv λx0 hx=>w_br (λh1=>λ_ h2=>by have:=oY h1;rw[hx,hp]at this;omega) (λh1=> ?_))
 have h:=oN h
 have h1:=oN h1
 rw[hx,hp]at h1
 refine w_lp (inv:=λz=>0<=z.1/\z.1<=32/\(z.2.length:Int)=4*z.1) (μ:=Qgt m frame) ⟨by omega,by omega,rfl⟩ (cO _) (λz hz=> ?_)
 obtain⟨z1,z2,z3⟩:=hz
 refine w_br (λhb=> ?_) (λhb=> ?_)
 . have hb:=oY hb
   have e:wrap i64 (wrap i64 (frame*32)+z.1)=frame*32+z.1:=by rw[wrap_i64,wrap_i64];omega
   refine w_cn (by rw[e];simp [bT];omega) (w_an (show(4:Int)<=1000000000000 by decide) (Zbc (low_w _) λx1 h4=>w_cn (dY (by rw[Qoa,h4];omega)) (w_nx ?_)))
   show(0<=i64.wrap (z.1+1)/\i64.wrap (z.1+1)<=32/\((z.2++Q1p x1).length:Int)=4*i64.wrap (z.1+1))/\(32-i64.wrap (z.1+1)).toNat<(32-z.1).toNat
   have ew:i64.wrap (z.1+1)=z.1+1:=by rw[wrap_i64];omega
   rw[ew,lA,Qoa,h4]
   exact⟨⟨by omega,by omega,by omega⟩,by omega⟩
 . have hb:=oN hb
   intro _ _
   show(bytesOf z.2).length=128
   rw[Qh2];omega
theorem Zca{P:Nat}{m:List Int}(hm:Q0t P m){d:Q0d}(hd:Q7i d)(port:Int){v:Int}(hv:U v)(at0:Int):(Q4i d m port v at0).w (λr=>Q7i r.1/\r.2.length<=1):=by
 have k: ∀st,Q7i {Blocks:=d.Blocks,C1:=d.C1,Frame:=d.Frame,B7:=st,D4:=d.D4,B5:=d.B5,B2:=d.B2,B8:=d.B8}:=λst=>⟨hd.block,hd.frame,hd.opBlock,hd.opFrame⟩
 have k2: ∀c o,Q7i {Blocks:=d.Blocks,C1:=d.C1,Frame:=d.Frame,B7:=1,D4:=c,B5:=d.C1,B2:=d.Frame,B8:=o}:=λc o=>⟨hd.block,hd.frame,hd.block,hd.frame⟩
 have k3:Q7i {Blocks:=d.Blocks,C1:=v,Frame:=d.Frame,B7:=d.B7,D4:=d.D4,B5:=d.B5,B2:=d.B2,B8:=d.B8}:=⟨hv,hd.frame,hd.opBlock,hd.opFrame⟩
 have k4:Q7i {Blocks:=d.Blocks,C1:=d.C1,Frame:=v,B7:=d.B7,D4:=d.D4,B5:=d.B5,B2:=d.B2,B8:=d.B8}:=⟨hd.block,hv,hd.opBlock,hd.opFrame⟩
 unfold Q4i
 repeat'(first
   |refine w_br (λ_=> ?_) (λ_=> ?_)
   |exact Q0a (xY hm _) λ_ _=>w_lv λ_ _=>⟨k2 _ _,aO _⟩
   |refine w_lv (λ_ _=> ?_)
   |refine w_lf ?_)
 all_goals(first
   |exact⟨hd,aT _⟩
   |exact⟨k _,aT _⟩
   |exact⟨k2 _ _,aO _⟩
   |exact⟨k3,aT _⟩
   |exact⟨k4,aT _⟩)
theorem Zj7{P:Nat}{m:List Int}(hm:Q0t P m){n:Q0m}(hn:Qhl n)(port:Int){v:Int}(hv:U v)(at0:Int):(Q9k n m port v at0).w (λr=>Qhl r.1/\r.2.length<=1):=by
 have k1:Qhl {Frame:=v,D8:=n.D8,C5:=n.C5,C0:=n.C0,B6:=n.B6,D9:=n.D9}:=⟨hv,hn.len,hn.buffer,hn.got⟩
 have k2:Qhl {Frame:=n.Frame,D8:=v,C5:=n.C5,C0:=n.C0,B6:=n.B6,D9:=n.D9}:=⟨hn.frame,hv,hn.buffer,hn.got⟩
 have k3:Qhl {Frame:=n.Frame,D8:=n.D8,C5:=n.C5,C0:=n.C0,B6:=false,D9:=0}:=⟨hn.frame,hn.len,hn.buffer,U_0⟩
 have k4: ∀p r,Qhl {Frame:=n.Frame,D8:=n.D8,C5:=p,C0:=n.Frame,B6:=r,D9:=n.D9}:=λp r=>⟨hn.frame,hn.len,hn.frame,hn.got⟩
 have send: ∀K:List UInt8×Bool->Tree (Q0m×List Q08),Q1v m n.Frame=true->(∀x:List UInt8×Bool,x.1.length=128->(K x).w (λr=>Qhl r.1/\r.2.length<=1))->(Tree.an (Qfk m (wrap .i64 n.Frame)) (.lv (Qi1 m (wrap .i64 n.Frame)) K)).w (λr=>Qhl r.1/\r.2.length<=1):=λK hp hK=>by
   rw[Ql0 hm hn.frame]at hp
   have hp:=oY hp
   obtain⟨f1,f2⟩:=hn.frame
   have ew:i64.wrap n.Frame=n.Frame:=by rw[wrap_i64];omega
   exact Q0a (xY hm _) λx hx=>hK x (hx (by rw[ew];exact f1) (by rw[ew];exact hp))
 unfold Q9k
 repeat'(first
   |refine w_br (λ_=> ?_) (λ_=> ?_)
   |refine send _ (by simp_all) (λx hx=>w_cn (by simp_all;exact hn.len.1) ?_)
   |refine w_lv (λ_ _=> ?_)
   |refine w_lf ?_)
 all_goals(first
   |exact⟨hn,aT _⟩
   |exact⟨hn,aO _⟩
   |exact⟨k1,aT _⟩
   |exact⟨k2,aT _⟩
   |exact⟨k3,aT _⟩
   |exact⟨k4 _ _,aT _⟩)
def okB(b:Q07):Prop:=U b.C6/\U b.C2
theorem zY{P:Nat}{m:List Int}(hm:Q0t P m){b:Q07}(hb:okB b)(port:Int){v:Int}(hv:U v):(Q46 b m port v).w (λr=>okB r.1/\Q0t P r.2):=by
 have hv0:decide (0<=v)=true:=dY hv.1
 have h2:=hm.p2
 have rest:(Tree.br (port==11) (.br (decide (v<32)) (.cn (decide (0<=v)) (.lf (({C6:=b.C6,C2:=Qg .u32 b.C2 (ishl .u32 1 v)}:Q07),m))) (.lf (b,m))) (.lf (b,m))).w (λr=>okB r.1/\Q0t P r.2):=
   w_br (λ_=>w_br (λ_=>w_cn hv0 ⟨⟨hb.1,Q0l _⟩,hm⟩) (λ_=>⟨hb,hm⟩)) (λ_=>⟨hb,hm⟩)
 unfold Q46
 refine w_br (λ_=>w_lv λx0 hx=>w_br (λhp=>w_cn hv0 (w_br (λ_=>w_cn hv0 ?_) (λ_=>rest))) (λ_=>rest)) (λ_=>rest)
 have hp:Q1v m v=true:=hx.symm.trans hp
 rw[Ql0 hm hv]at hp
 have hp:=oY hp
 obtain⟨v1,v2⟩:=hv
 refine w_lp (inv:=λz=>0<=z.1/\z.1<=32/\Q0t P z.2) (μ:=Qid b m port v) ⟨by omega,by omega,hm⟩ (cO _) (λz hz=> ?_)
 obtain⟨z1,z2,z3⟩:=hz
 have hl:=z3.len
 refine w_br (λh=> ?_) (λ_=>⟨⟨hb.1,Q0l _⟩,z3⟩)
 have h:=oY h
 have e:wrap i64 (wrap i64 (wrap i64 v*32)+z.1)=v*32+z.1:=by rw[wrap_i64,wrap_i64,wrap_i64];omega
 refine w_cn (by rw[e];simp [bT];omega) (w_nx ?_)
 show(0<=i64.wrap (z.1+1)/\i64.wrap (z.1+1)<=32/\Q0t P (dH _ _ _))/\(32-i64.wrap (z.1+1)).toNat<(32-z.1).toNat
 have ew:i64.wrap (z.1+1)=z.1+1:=by rw[wrap_i64];omega
 rw[ew]
 exact⟨⟨by omega,by omega,⟨by simp [hl],z3.p1,z3.p2,Qyh z3.u U_0 _⟩⟩,by omega⟩
structure okM(P:Nat)(m:Q00):Prop where
 cpu:Q27 m.B1
 mem:Q0t P m.Mem
 disk:Q7i m.A9
 nic:Qhl m.B9
 target:okB m.A1
 cnt:0<=m.A4
theorem Qzx(c:Q0c)(port:Int):U (Q4m c port).2:=by
 refine Tree.post (Q2z c port) (W:=λr=>U r.2) ?_
 have u1:U 4294967295:=⟨by omega,by omega⟩
 unfold Q2z
 refine w_br (λ_=>w_br (λ_=>u1) (λh=>w_br (λ_=>w_cn ?_ (w_cn ?_ (Q0l _))) (λ_=>w_br (λ_=>Q0l _) (λ_=>U_0)))) (λh1=>w_br (λh=>(by rw[h1]at h;cases h)) (λ_=>w_br (λ_=>Q0l _) (λ_=>U_0)))
 . have h: ¬(c.D0.length:Int)=0:=by simpa using h
   exact dY ⟨by omega,by omega,by omega⟩
 . have h: ¬(c.D0.length:Int)=0:=by simpa using h
   simp [bT];omega
theorem yw{n:Q0m}(h:Qhl n)(port:Int):U (Qg8 n port):=by
 refine Tree.post (Qem n port) (W:=U) ?_
 have u1:U 1:=⟨by omega,by omega⟩
 unfold Qem
 exact w_br (λ_=>h.frame) (λ_=>w_br (λ_=>h.got) (λ_=>w_br (λ_=>w_br (λ_=>w_br (λ_=>Q0l _) (λ_=>u1)) (λ_=>w_br (λ_=>Q0l _) (λ_=>U_0))) (λ_=>U_0)))
theorem Zjj{d:Q0d}(h:Q7i d)(port:Int):U (Qgw d port):=by
 refine Tree.post (Qfr d port) (W:=U) ?_
 unfold Qfr
 exact w_br (λ_=>h.block) (λ_=>w_br (λ_=>h.frame) (λ_=>w_br (λ_=>Q0l _) (λ_=>U_0)))
theorem Zf(t:Q0h):U (Qep t):=by
 refine Tree.post (Qdt t) (W:=U) ?_
 unfold Qdt
 exact w_br (λ_=>⟨by omega,by omega⟩) (λ_=>U_0)
theorem Z33{b:Q07}(h:U b.C6)(port:Int):U (Q4k b port):=by
 refine Tree.post (Q5g b port) (W:=U) ?_
 unfold Q5g
 exact w_br (λ_=>h) (λ_=>w_br (λ_=>w_lv λ_ _=>Q0l _) (λ_=>U_0))
structure okR(P:Nat)(r:Q01):Prop where
 m:okM P r.A0
 clock:U r.B3
structure okL(P:Nat)(r x:Q01):Prop where
 ok:okR P x
 log:x.C7=r.C7
 queue:x.B0=r.B0
theorem w0(x:Int):0<=u64.wrap x:=by rw[wrap_u64];omega
section
variable {P:Nat} {r:Q01} (h:okR P r)
include h
theorem in_w(port:Int){clock:Int}(hc:U clock):(Qgq r port clock).w (λx=>U x.1/\okL P r x.2):=by
 have k:okL P r r:=⟨h,rfl,rfl⟩
 obtain⟨⟨h1,h2,h3,h4,h5,h7⟩,h6⟩:=h
 unfold Qgq
 exact w_br (λ_=>w_lv λx hx=>⟨hx▸Qzx _ _,⟨⟨⟨h1,h2,h3,h4,h5,h7⟩,h6⟩,rfl,rfl⟩⟩) (λ_=>w_br (λ_=>⟨hc,k⟩) (λ_=>w_br (λ_=>w_lv λx hx=>⟨hx▸Zf _,k⟩) (λ_=>w_br (λ_=>w_lv λx hx=>⟨hx▸Zjj h3 _,k⟩) (λ_=>w_br (λ_=>w_lv λx hx=>⟨hx▸yw h4 _,k⟩) (λ_=>w_lv λx hx=>⟨hx▸Z33 h5.1 _,k⟩)))))
theorem out_w(port:Int){v:Int}(hv:U v):(Qbc r port v).w (λx=>x.1.length<=1/\okL P r x.2):=by
 have k:okL P r r:=⟨h,rfl,rfl⟩
 obtain⟨⟨h1,h2,h3,h4,h5,h7⟩,h6⟩:=h
 unfold Qbc
 exact w_br (λ_=>⟨aO _,k⟩) (λ_=>w_br (λ_=>⟨aT _,k⟩) (λ_=>w_br (λ_=>w_lv λ_ _=>⟨aT _,⟨⟨⟨h1,h2,h3,h4,h5,h7⟩,h6⟩,rfl,rfl⟩⟩) (λ_=>w_br (λ_=>Q0a (Zca h2 h3 _ hv _) λx hx=>⟨hx.2,⟨⟨⟨h1,h2,hx.1,h4,h5,h7⟩,h6⟩,rfl,rfl⟩⟩) (λ_=>w_br (λ_=>Q0a (Zj7 h2 h4 _ hv _) λx hx=>⟨hx.2,⟨⟨⟨h1,h2,h3,hx.1,h5,h7⟩,h6⟩,rfl,rfl⟩⟩) (λ_=>Q0a (zY h2 h5 _ hv) λx hx=>⟨aT _,⟨⟨⟨h1,hx.2,h3,h4,hx.1,h7⟩,h6⟩,rfl,rfl⟩⟩)))))
theorem Qt8{clock:Int}(hc:U clock):(Q5d r clock).w (λx=>x.1.length<=1/\okL P r x.2):=by
 obtain⟨⟨h1,h2,h3,h4,h5,h7⟩,h6⟩:=h
 unfold Q5d
 refine Q0a (Qfm h1) λx0 c0=>Q0a (do_w c0 h2) λx1 hx=> ?_
 obtain⟨c1,v1,m1⟩:=hx
 refine w_br (λ_=>Zbc (in_w (r:=⟨⟨_,_,_,_,_,_,_,_,_,_⟩,_,_,_⟩) ⟨⟨c1,m1,h3,h4,h5,h7⟩,h6⟩ _ hc) λx2 hx=> ?_) (λ_=>w_br (λ_=>Q0a (out_w (r:=⟨⟨_,_,_,_,_,_,_,_,_,_⟩,_,_,_⟩) ⟨⟨c1,m1,h3,h4,h5,h7⟩,h6⟩ _ v1) λx4 hx=> ?_) (λ_=> ?_))
 . obtain⟨u,⟨⟨⟨k1,k2,k3,k4,k5,k7⟩,k6⟩,e1,e2⟩⟩:=hx
   exact Q0a (Z4w k1 _ u) λx3 h3=>⟨aT _,⟨⟨⟨h3,k2,k3,k4,k5,w0 _⟩,k6⟩,e1,e2⟩⟩
 . obtain⟨u,⟨⟨⟨k1,k2,k3,k4,k5,k7⟩,k6⟩,e1,e2⟩⟩:=hx
   exact⟨u,⟨⟨⟨k1,k2,k3,k4,k5,w0 _⟩,k6⟩,e1,e2⟩⟩
 . repeat'(first
     |exact⟨aT _,⟨⟨⟨c1,m1,h3,h4,h5,w0 _⟩,h6⟩,rfl,rfl⟩⟩
     |refine w_br (λ_=> ?_) (λ_=> ?_))
end
theorem yY(c:Q0c)(b:Int):(Qh8 c b).w (λ_=>True):=by
 unfold Qh8
 refine w_br (λ_=>trivial) (λh=>w_cn (dY ?_) trivial)
 have h:=oN h
 simp [maxLen];omega
theorem Zj9{P:Nat}{m:List Int}(hm:Q0t P m){n:Q0m}(hn:Qhl n)(frame:List UInt8):(Q96 n m frame).w (λr=>Qhl r.1/\Q0t P r.2.2):=by
 unfold Q96
 refine w_br (λ_=>⟨hn,hm⟩) (λ_=>w_br (λ_=>⟨hn,hm⟩) (λ_=>w_br (λ_=>⟨hn,hm⟩) (λ_=>w_lv λx0 hx=>w_br (λ_=>⟨hn,hm⟩) (λhb=> ?_))))
 have hp:Q1v m n.C0=true:=hx.symm.trans (by simpa using hb)
 rw[Ql0 hm hn.buffer]at hp
 have hp:=oY hp
 obtain⟨b1,b2⟩:=hn.buffer
 have ew:i64.wrap n.C0=n.C0:=by rw[wrap_i64];omega
 exact Q0a (yX hm (frame:=i64.wrap n.C0) (by rw[ew];exact b1) (by rw[ew];exact hp) frame) λx hx=>⟨⟨hn.frame,hn.len,U_0,Q0l _⟩,hx⟩
section
variable {P:Nat} {r:Q01} (h:okR P r)
include h
theorem xav{e:Q0e}(he:U e.N):(Q7t r e).w (λx=>okL P r x.2):=by
 have k:okL P r r:=⟨h,rfl,rfl⟩
 obtain⟨⟨h1,h2,h3,h4,h5,h7⟩,h6⟩:=h
 unfold Q7t
 repeat'(first
   |exact k
   |exact⟨⟨⟨h1,h2,h3,h4,⟨he,h5.2⟩,h7⟩,h6⟩,rfl,rfl⟩
   |exact w_lv λ_ _=>⟨⟨⟨h1,h2,h3,h4,h5,h7⟩,h6⟩,rfl,rfl⟩
   |exact Q0a (yY _ _) λ_ _=>⟨⟨⟨h1,h2,h3,h4,h5,h7⟩,h6⟩,rfl,rfl⟩
   |exact Q0a (Zjb h2 h3 _) λx hx=>⟨⟨⟨h1,hx.2,hx.1,h4,h5,h7⟩,h6⟩,rfl,rfl⟩
   |exact Q0a (Zj9 h2 h4 _) λx hx=>⟨⟨⟨h1,hx.2,h3,hx.1,h5,h7⟩,h6⟩,rfl,rfl⟩
   |refine w_br (λ_=> ?_) (λ_=> ?_))
theorem vw{e:Q0e}(he:U e.N)(hl:r.C7.length<=1000000):(Q9c r e).w (λx=>okR P x/\x.C7.length<=r.C7.length+1/\x.B0=r.B0):=by
 have acc:(Q6e r e).w (λx=>okL P r x.2):=by
   unfold Q6e
   exact Q0a (xav h he) λx hx=>hx
 unfold Q9c
 refine Q0a acc λx hx=> ?_
 obtain⟨⟨k1,k2⟩,e1,e2⟩:=hx
 refine w_br (λ_=>w_cn (dY (by rw[e1];omega)) ⟨⟨k1,k2⟩,by simp [e1],e2⟩) (λ_=>⟨⟨k1,k2⟩,by rw[e1];omega,e2⟩)
theorem own_w(hl:r.C7.length<=1000000)(hq:r.B0.length<=1000000):(Qdi r).w (λx=>okR P x/\x.C7=r.C7/\x.B0=r.B0):=by
 have ow:(Qbg r.A0).w (λm=>okM P m):=by
   obtain⟨⟨h1,h2,h3,h4,h5,h7⟩,h6⟩:=h
   unfold Qbg
   exact Q0a (zX h2) λx hx=>⟨h1,by rw[hx];exact h2,h3,h4,h5,h7⟩
 unfold Qdi
 refine Q0a ow λx hx=>w_cn (dY (by simp;omega)) (w_cn (dY (by simp;omega)) ⟨⟨hx,h.clock⟩,rfl,rfl⟩)
theorem yR(e:Q0e)(hl:r.C7.length<=1000000)(hq:r.B0.length<=16)(hu: ∀q∈r.B0,U q.N)(he:U e.N):(Q7n r e).w (λx=>okR P x.1/\x.1.C7=r.C7/\x.1.B0.length<=16/\ ∀q∈x.1.B0,U q.N):=by
 unfold Q7n
 refine Q0a (own_w h hl (by omega)) λx hx=> ?_
 obtain⟨k1,k2,k3⟩:=hx
 have g:okR P x/\x.C7=r.C7/\x.B0.length<=16/\ ∀q∈x.B0,U q.N:=⟨k1,k2,by rw[k3];exact hq,by rw[k3];exact hu⟩
 refine w_lv λx1 _=>w_br (λ_=>g) (λ_=>w_br (λ_=>g) (λ_=>w_br (λ_=>g) (λhb=>w_cn (dY (by rw[k3];omega)) ?_)))
 have hb:=oN hb
 refine⟨⟨k1.m,k1.clock⟩,k2,?_,?_⟩
 . show(x.B0++[e]).length<=16
   rw[lA];simp at hb⊢;omega
 . intro q hq
   have hq:q∈x.B0++[e]:=hq
   rw[List.mem_append]at hq
   rcases hq with hq|hq
   . exact hu q (k3▸hq)
   . rw[List.mem_singleton.1 hq];exact he
end
theorem qx(n:Int):(Qe2 n).w (λe=>U e.N):=by
 have u1:U 1:=⟨by omega,by omega⟩
 have ev40: ∀x y,Q4f x (wrap .i64 (1+dF y 40)):=λx y=>by
   show wrap .i64 (1+dF y 40)<=1000000000000
   have h1:=Int.tmod_lt_of_pos y (b:=40) (by decide)
   have h2:=Int.lt_tmod_of_pos y (b:=40) (by decide)
   rw[wrap_i64];omega
 unfold Qe2
 refine w_lv λx0 _=> ?_
 repeat'(first
   |exact U_0
   |exact u1
   |exact Q0l _
   |exact w_an (show(128:Int)<=1000000000000 by decide) (w_lv λ_ _=>u1)
   |exact w_an (ev40 _ _) (w_lv λ_ _=>U_0)
   |refine w_br (λ_=> ?_) (λ_=> ?_))

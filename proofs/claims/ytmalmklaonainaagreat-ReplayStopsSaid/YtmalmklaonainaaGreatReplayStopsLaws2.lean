import Derived.Test.YtmalmklaonainaaGreatReplayStopsZx
open List renaming set->dD, mem_cons->cP, not_mem_nil->cQ
open Nat renaming blt->bT, beq->bS, lt_succ_self->cK, le_refl->aO, zero_le->aT
open Int renaming pow_pos->dK, le_of_lt->dM, fdiv_eq_ediv_of_nonneg->dL, tmod->dB, mul_tmod_right->gY, mul_tdiv_cancel_left->gZ, tdiv->eS, tdiv_eq_ediv_of_nonneg->eT, emod_eq_of_lt->dJ, lt_of_lt_of_le->dR, le_of_eq->fK
open BitVec renaming ofInt->dU, toNat_and->dX
set_option maxRecDepth 100000
set_option linter.all false
namespace Go.Proofs.YtmalmklaonainaaGreat
open Go Go.GD
open Go.IntKind(wrap i64 u32 u64 u8 i32 wrap_i64 wrap_u32 wrap_u64 wrap_u8 wrap_i32)
def U(x:Int):Prop:=0<=x/\x<4294967296
theorem Q0u(x:Int):U (u32.wrap x):=by rw[wrap_u32];unfold U;omega
theorem Zk7(x y:Int):U (iand .u32 x y):=Q0u _
theorem U_or(x y:Int):U (ior .u32 x y):=Q0u _
theorem U_0:U 0:=⟨by omega,by omega⟩
theorem Z78{m:List Int}(h: ∀w∈m,U w){v:Int}(hv:U v)(i:Nat): ∀w∈m.set i v,U w:=by
 intro w hw
 rcases List.mem_or_eq_of_mem_set hw with h1|h1
 . exact h w h1
 . rw[h1];exact hv
structure Q15(P:Nat)(m:List Int):Prop where
 len:m.length=32*P
 p1:0<=P
 p2:P<=32
 u: ∀w∈m,U w
structure Q99(d:Q0g):Prop where
 block:U d.C2
 frame:U d.Frame
 opBlock:U d.B7
 opFrame:U d.B3
structure Qjx(n:Q0r):Prop where
 frame:U n.Frame
 len:U n.E0
 buffer:U n.B9
 got:U n.F1
theorem Qln{l:List Int}(h: ∀w∈l,U w)(i:Nat):U (l.getD i 0):=by
 by_cases hi:i<l.length
 . have:l.getD i 0=l[i]:=by simp [List.getD,hi]
   rw[this];exact h _ (List.getElem_mem hi)
 . have:l.getD i 0=0:=by simp [List.getD,List.getElem?_eq_none (by omega:l.length<=i)]
   rw[this];exact U_0
structure Q2j(c:Q05):Prop where
 x: ∀w∈A16.l c.X,U w
 pc:U c.Pc
 csr: ∀w∈A8.l c.B5,U w
theorem Zkb{X:A16 Int}(h: ∀w∈A16.l X,U w){v:Int}(hv:U v)(i:Nat): ∀w∈A16.l (A16.of 0 (dD (A16.l X) i v)),U w:=by
 have hs:=Z78 h hv i
 intro w hw
 simp only[A16.l,A16.of,cP,cQ,or_false]at hw
 repeat(first|(rcases hw with rfl|hw; · exact Qln hs _)|(subst hw;exact Qln hs _))
theorem Zhm{X:A8 Int}(h: ∀w∈A8.l X,U w){v:Int}(hv:U v)(i:Nat): ∀w∈A8.l (A8.of 0 (dD (A8.l X) i v)),U w:=by
 have hs:=Z78 h hv i
 intro w hw
 simp only[A8.l,A8.of,cP,cQ,or_false]at hw
 repeat(first|(rcases hw with rfl|hw; · exact Qln hs _)|(subst hw;exact Qln hs _))
section
variable {c:Q05} (h:Q2j c)
include h
theorem Q2j.a(i:Nat):U ((A8.l c.B5).getD i 0):=Qln h.csr i
theorem Q2j.r(i:Nat):U ((A16.l c.X).getD i 0):=Qln h.x i
theorem Q2j.a0:U c.B5.a0:=h.a 0
theorem Q2j.a1:U c.B5.a1:=h.a 1
theorem Q2j.a2:U c.B5.a2:=h.a 2
theorem Q2j.a3:U c.B5.a3:=h.a 3
theorem Q2j.a4:U c.B5.a4:=h.a 4
theorem Q2j.a5:U c.B5.a5:=h.a 5
theorem Q2j.a6:U c.B5.a6:=h.a 6
theorem Q2j.a7:U c.B5.a7:=h.a 7
theorem Q2j.pcs{p:Int}(hp:U p):Q2j {X:=c.X,Pc:=p,B5:=c.B5}:=⟨h.x,hp,h.csr⟩
end
section
variable {α β:Type} {W:β->Prop} {t:Tree α} {Q:α->Prop} {k:α->Tree β}
theorem Q0f(hq:t.w Q)(g: ∀x,Q x->(k x).w W):(Tree.an t.p (Tree.lv t.m k)).w W:=⟨(Tree.pp hq).1,λy hy=>g y (by rw[hy];exact(Tree.pp hq).2)⟩
theorem Zdo(hq:t.w Q)(g: ∀x,Q x->(k x).w W):(Tree.lv t.m k).w W:=λy hy=>g y (by rw[hy];exact t.post hq)
end
theorem rc{r:Int}(h:0<=r/\r<16):(bT 0 1&&decide (0<=r/\r<((16:Nat):Int)))=true:=by simp [bT];omega
theorem Qxx{a:Int}(h:U a)(b:Int):U (ishr .u32 a b):=by
 unfold ishr U
 obtain⟨h1,h2⟩:=h
 have hp:(0:Int)<2^(min b.toNat u32.bits):=dK (by decide)
 have:=Int.fdiv_nonneg h1 (dM hp)
 refine⟨this,?_⟩
 rw[dL _ (dM hp)]
 have h3:=Int.ediv_le_self (2^(min b.toNat u32.bits)) h1
 omega
structure Qgl(i:Q0m):Prop where
 a:0<=i.A/\i.A<16
 b:0<=i.B/\i.B<16
 c:0<=i.C/\i.C<16
 csr:i.Op=58->0<=i.Imm/\i.Imm<8
theorem Z1y{P:Nat}{m:List Int}(h:Q15 P m):Q0z m=P:=by
 obtain⟨h1,h2,h3,_⟩:=h
 simp only[Q0z,Q94,Tree.m]
 have e:(m.length:Int)=32*P:=by omega
 rw[e]
 have e1:(dB (32*(P:Int)) 32 !=0)=false:=by simp [gY]
 have e2:decide ((32*(P:Int))>1024)=false:=dN (by omega)
 rw[e1,e2]
 simp only[cond_false]
 rw[gZ _ (by decide),wrap_i64];omega
theorem z7(n:Int):(Qcl n).w (λ_=>True):=by
 unfold Qcl
 exact w_br (λ_=>trivial) (λ_=>w_cn (dY (by rw[wrap_u64];omega)) trivial)
theorem Qxf(w low n:Int):(Q9o w low n).w U:=by
 unfold Q9o
 exact w_br (λ_=>U_0) (λ_=>w_br (λ_=>U_0) (λ_=>w_br (λ_=>U_0) (λ_=>w_cn (dY (by rw[wrap_u64];omega)) (Q0f (z7 n) λ_ _=>Zk7 _ _))))
theorem Zpt{w:Int}(hw:U w)(low n v:Int):(Q9j w low n v).w U:=by
 have h0:decide (0<=wrap u64 low)=true:=dY (by rw[wrap_u64];omega)
 unfold Q9j
 exact w_br (λ_=>hw) (λ_=>w_br (λ_=>hw) (λ_=>w_br (λ_=>hw) (λ_=>Q0f (z7 n) λ_ _=>w_cn h0 (w_cn h0 (U_or _ _)))))
theorem Qvy{x:Int}(hx:U x)(n:Int):(Q7i x n).w U:=by
 have h0: ∀y,decide (0<=wrap u64 y)=true:=λy=>dY (by rw[wrap_u64];omega)
 unfold Q7i
 exact w_br (λ_=>U_0) (λ_=>w_br (λ_=>hx) (λ_=>w_cn (h0 _) (w_cn (h0 _) (Q0u _))))
section
variable {P:Nat} {m:List Int} (h:Q15 P m)
include h
theorem Q9n:Q09 m:=by
 have:=h.len
 have:=h.p2
 show m.length<=35184372088832
 omega
theorem Zf8{a:Int}(ha:U a){size:Int}(hs:size=1\/size=4):(Q3f m a size).w (λb=>b=true->a+size<=128*P):=by
 have hp:=Z1y h
 have h2:=h.p2
 obtain⟨a1,a2⟩:=ha
 have e:decide (wrap u32 size≠0)=true:=by rcases hs with rfl|rfl<;>decide
 have l: ∀x,x=Q0z m->decide (wrap u64 (wrap u64 a+wrap u64 size)<=wrap u64 (wrap u64 x*128))=true->a+size<=128*P:=λx hx hd=>by
   rw[hx,hp]at hd
   have:=oY hd
   simp only[wrap_u64]at this
   omega
 unfold Q3f
 refine w_br (λ_=>w_br (λ_=>λh=>by cases h) (λ_=> ?_)) (λ_=> ?_)<;>
 exact w_cn e (w_br (λ_=>λh=>by cases h) (λ_=>w_lv λx hx=>l x hx))
theorem idxP{a:Int}(ha:U a)(hl:a<128*P):(bS 1 1&&bT 0 1&&decide (0<=wrap u32 (eS a 4)/\wrap u32 (eS a 4)<(m.length:Int)))=true:=by
 obtain⟨a1,a2⟩:=ha
 have e:wrap u32 (eS a 4)=a/4:=by rw[wrap_u32,eT a1];omega
 have:=h.len
 rw[e];simp [bT];omega
theorem Qs6{a:Int}(ha:U a){size:Int}(hs:size=1\/size=4):(Q6j m a size).w (λr=>U r.1/\(r.2=true->a<128*P)):=by
 unfold Q6j
 refine Q0f (Zf8 h ha hs) λx hx=>w_br (λ_=>⟨U_0,λh=>by cases h⟩) (λhb=> ?_)
 have hl:=hx (by simpa using hb)
 have hl:a<128*P:=by omega
 exact w_cn (idxP h ha hl) (w_br (λ_=>Q0f (Qxf _ _ _) λy hy=>⟨hy,λ_=>hl⟩) (λ_=>⟨Qln h.u _,λ_=>hl⟩))
theorem Z0w{a:Int}(ha:U a){size:Int}(hs:size=1\/size=4){v:Int}(hv:U v):(Q8r m a size v).w (λr=>Q15 P r.1):=by
 have st: ∀i v,U v->Q15 P (m.set i v):=λi v hv=>⟨by simp [h.len],h.p1,h.p2,Z78 h.u hv i⟩
 have hcl:Q04 m=m:=rfl
 unfold Q8r
 refine w_an (Q9n h) (w_lv λx0 hx0=> ?_)
 rw[hcl]at hx0;subst hx0
 refine Q0f (Zf8 h ha hs) λx hx=>w_br (λ_=>h) (λhb=> ?_)
 have hl:=hx (by simpa using hb)
 have hl:a<128*P:=by omega
 exact w_br (λ_=>w_cn (idxP h ha hl) (Q0f (Zpt (Qln h.u _) _ _ _) λy hy=>w_cn (idxP h ha hl) (st _ _ hy))) (λ_=>w_cn (idxP h ha hl) (st _ _ hv))
end
theorem Zk4{r:Int}{used:Bool}(h:Qa3 r used=true):0<=r/\r<16:=by
 simp only[Qa3,Qfk,Tree.m]at h
 cases used
 . have h:(r==0)=true:=h
   have:=eq_of_beq h;omega
 . cases h1:decide (r>=0)<;>rw[h1]at h
   . cases h
   . have h1:=oY h1
     have h:=oY h
     omega
theorem qw{i:Q0m}(h:Qfy i=true):Qgl i:=by
 have no:false=true->Qgl i:=λh=>by cases h
 refine(Tree.post (Qjg i) (W:=λb=>b=true->Qgl i) ?_) h
 unfold Qjg
 refine w_lv λx0 h0=>w_br (λ_=>w_lv λx1 h1=>w_br (λb1=>w_lv λx2 h2=>w_br (λb2=>w_lv λx3 h3=>w_br (λb3=>w_br (λb4=>λb5=> ?_) (λ_=>no)) (λ_=>no)) (λ_=>no)) (λ_=>no)) (λ_=>no)
 have b4:=oY b4
 have b5:=oY b5
 refine⟨Zk4 (h1.symm.trans b1),Zk4 (h2.symm.trans b2),Zk4 (h3.symm.trans b3),λe=> ?_⟩
 rw[e]at h0
 have h0:x0=({a:=true,b:=false,c:=false,low:=0,D6:=7},true):=h0
 subst h0
 simp at b4 b5;omega
theorem Z3u(w:Int):(Q7w w).w (λr=>r.2=true->Qgl r.1):=by
 have no: ∀{p:Prop},false=true->p:=λh=>by cases h
 have l: ∀i,(Tree.lv (Qfy i) λx=> .br (!x) (.lf ((⟨0,0,0,0,0⟩:Q0m),false)) (.lf (i,true))).w (λr=>r.2=true->Qgl r.1):=λi=>w_lv λx hx=>w_br (λ_=>no) (λhb=>λ_=>qw (hx.symm.trans (by simpa using hb)))
 unfold Q7w
 exact Q0f (Qxf _ _ _) λx0 _=>Q0f (Qxf _ _ _) λx1 _=>Q0f (Qxf _ _ _) λx2 _=>w_lv λx3 _=>w_br (λ_=>no) (λ_=>Q0f (Qxf _ _ _) λx4 h4=>w_br (λ_=>l _) (λ_=>w_br (λ_=>Q0f (Qvy h4 _) λx6 _=>l _) (λ_=>l _)))
section
variable {P:Nat} {m:List Int} (h:Q15 P m)
include h
theorem qU{f:Int}(hf:U f):Qaq m f=decide (f<P):=by
 have:=Z1y h
 obtain⟨h1,h2⟩:=hf
 have h3:=h.p2
 simp only[Qaq,Qj6,Tree.m,letv,this]
 congr 1
 rw[wrap_u64,wrap_u64,dJ h1 (by omega),dJ (by omega) (by omega)]
theorem zay{root va:Int}(hv:U va)(access:Int):(Qab m root va access).w (λt=>U t.Addr/\U t.F3):=by
 have bad:U (0:Int)/\U (0:Int):=⟨U_0,U_0⟩
 have fr: ∀x,(Q8l x).w U:=λx=>by
   unfold Q8l
   exact Q0f (Qxf _ _ _) λy hy=>hy
 unfold Qab
 exact w_lv λx0 _=>w_br (λ_=>bad) (λ_=>w_br (λ_=>bad) (λ_=>w_lv λx1 _=>w_br (λ_=>bad) (λ_=>Q0f (Qs6 h (Q0u _) (.inr rfl)) λx2 _=>w_br (λ_=>bad) (λ_=>w_lv λx3 _=>w_br (λ_=>bad) (λ_=>Q0f (fr _) λx4 _=>w_lv λx5 _=>w_br (λ_=>bad) (λ_=>Q0f (fr _) λx6 _=>⟨Q0u _,Q0u _⟩))))))
theorem xU{a:Int}(ha:U a)(access:Int):(Q91 m a access).w (Q15 P):=by
 have hcl:Q04 m=m:=rfl
 unfold Q91
 exact Q0f (Qs6 h ha (.inr rfl)) λx0 _=>w_br (λ_=>w_an (Q9n h) (w_lv λx1 h1=>by rw[h1,hcl];exact h)) (λ_=>w_br (λ_=>Q0f (Z0w h ha (.inr rfl) (U_or _ _)) λx hx=>hx) (λ_=>Q0f (Z0w h ha (.inr rfl) (U_or _ _)) λx hx=>hx))
theorem Qlc{c:Q05}{va:Int}(hv:U va){size:Int}(hs:size=1\/size=4)(access:Int):(Q6s c m va size access).w (λr=>U r.1/\Q15 P r.2.1):=by
 have hcl:Q04 m=m:=rfl
 have e:decide (wrap u32 size≠0)=true:=by rcases hs with rfl|rfl<;>decide
 have cl: ∀(K:List Int->Int×List Int×Int),(∀x,x=m->U (K x).1/\Q15 P (K x).2.1)->(Tree.an (Q09 m) (.lv (Q04 m) λx=> .lf (K x))).w (λr=>U r.1/\Q15 P r.2.1):=λK hK=>w_an (Q9n h) (w_lv λx hx=>hK x (hx.trans hcl))
 have z: ∀(k:Nat) (x:List Int),x=m->U (0:Int)/\Q15 P x:=λ_ x hx=>⟨U_0,hx▸h⟩
 have v: ∀x,x=m->U va/\Q15 P x:=λx hx=>⟨hv,hx▸h⟩
 have main: ∀(x0:Int×Bool),(Tree.cn (decide (wrap u32 size≠0)) (.br (dB va (wrap u32 size) !=0) (.an (Q09 m) (.lv (Q04 m) λx3=> .lf ((0:Int),x3,(3:Int)))) (.lv (Qal c) λx4=> .br (!x4) (.br (iand u32 c.B5.a0 4 !=0) (.an (Qis m c.B5.a6 va access) (.lv (Qj8 m c.B5.a6 va access) λx5=> .br (x5.F0 !=0) (.an (Q09 m) (.lv (Q04 m) λx6=> .lf (0,x6,x5.F0))) (.an (Qgs m x5.F3 access) (.lv (Qd3 m x5.F3 access) λx7=> .lf (x5.Addr,x7,0))))) (.an (Q3a m va size) (.lv (Q5 m va size) λx8=> .br (!x8.2) (.an (Q09 m) (.lv (Q04 m) λx9=> .lf (0,x9,x0.1))) (.an (Q09 m) (.lv (Q04 m) λx10=> .lf (va,x10,0)))))) (.an (Q3a m va size) (.lv (Q5 m va size) λx11=> .br (!x11.2) (.an (Q09 m) (.lv (Q04 m) λx12=> .lf (0,x12,x0.1))) (.an (Q09 m) (.lv (Q04 m) λx13=> .lf (va,x13,0)))))))).w (λr=>U r.1/\Q15 P r.2.1):=λx0=>
   w_cn e (w_br (λ_=>cl _ (z 0)) (λ_=>w_lv λx4 _=>w_br (λ_=>w_br (λ_=>Q0f (zay h hv access) λx5 hx=>w_br (λ_=>cl _ (z 0)) (λ_=>Q0f (xU h hx.2 access) λx7 h7=>⟨hx.1,h7⟩)) (λ_=>Q0f (Qs6 h hv hs) λx8 _=>w_br (λ_=>cl _ (z 0)) (λ_=>cl _ v))) (λ_=>Q0f (Qs6 h hv hs) λx8 _=>w_br (λ_=>cl _ (z 0)) (λ_=>cl _ v))))
 unfold Q6s
 exact w_lv λx0 _=>w_br (λ_=>cl _ (z 0)) (λ_=>w_br (λ_=>w_br (λ_=>cl _ (z 0)) (λ_=>main x0)) (λ_=>main x0))
theorem Zbw{c:Q05}(hc:Q2j c):(Qd0 c m).w (λr=>U r.1/\Q15 P r.2.1):=by
 unfold Qd0
 exact Q0f (Qlc h hc.pc (.inr rfl) 1) λx0 h0=>w_br (λ_=>⟨U_0,h0.2⟩) (λ_=>Q0f (Qs6 h0.2 h0.1 (.inr rfl)) λx1 h1=>⟨h1.1,h0.2⟩)
end
theorem xay{s a b:Int}:U (Q9a s a b):=by
 refine Tree.post (Qq1 s a b) (W:=U) ?_
 unfold Qq1
 exact w_br (λ_=>Q0u _) (λ_=>Q0u _)
section
variable {c:Q05} (h:Q2j c)
include h
theorem Qpp(k:Int){b:Int}(hb:U b):Q2j (Q4y c k b):=by
 refine(Tree.post (Qlt c k b) (W:=Q2j) ?_)
 unfold Qlt
 refine w_lv λ_ _=>w_lv λ_ _=>⟨h.x,h.a1,?_⟩
 intro w hw
 simp only[A8.l,cP,cQ,or_false]at hw
 rcases hw with rfl|rfl|rfl|rfl|rfl|rfl|rfl|rfl
 . exact Q0u _
 . exact h.a1
 . exact h.pc
 . exact Q0u _
 . exact hb
 . exact h.a5
 . exact h.a6
 . exact h.a7
theorem xw:Q2j (Qeu c):=by
 refine(Tree.post (Qg6 c) (W:=Q2j) ?_)
 unfold Qg6
 refine w_lv λx0 _=>w_lv λx1 h1=>⟨h.x,h.a2,?_⟩
 intro w hw
 simp only[A8.l,cP,cQ,or_false]at hw
 rcases hw with rfl|rfl|rfl|rfl|rfl|rfl|rfl|rfl
 . rw[h1];exact xay
 . exact h.a1
 . exact h.a2
 . exact h.a3
 . exact h.a4
 . exact h.a5
 . exact h.a6
 . exact h.a7
theorem Qrb{r:Int}(hr:0<=r/\r<16){v:Int}(hv:U v):(Qea c r v).w Q2j:=by
 unfold Qea
 exact w_br (λ_=>w_cn (rc hr) ⟨Zkb h.x hv _,h.pc,h.csr⟩) (λ_=>h)
theorem Zn0(k:Int){v:Int}(hv:U v):(Qcc c k v).w Q2j:=by
 have ok: ∀i v,U v->Q2j {X:=c.X,Pc:=c.Pc,B5:=A8.of 0 (dD (A8.l c.B5) i v)}:=λi v hv=>⟨h.x,h.pc,Zhm h.csr hv i⟩
 unfold Qcc
 repeat'(first
   |exact h
   |exact ok _ _ (Q0u _)
   |exact ok _ _ hv
   |refine w_br (λhk=> ?_) (λ_=> ?_)
   |refine w_cn (by rw[eq_of_beq (by assumption:(k==_)=true)];decide) ?_)
end
theorem Zd8{a b:Int}(ha:U a)(hb:U b):(Qb1 a b).w (λr=>U r.1/\U r.2):=by
 have u1:U 4294967295:=⟨by omega,by omega⟩
 unfold Qb1
 refine w_br (λ_=>⟨u1,ha⟩) (λh=> ?_)
 have h: ¬b=0:=by simpa using h
 obtain⟨b1,b2⟩:=hb
 have hc:decide (wrap i32 b≠0)=true:=dY (by rw[wrap_i32];omega)
 exact w_br (λ_=>w_br (λ_=>⟨ha,U_0⟩) (λ_=>w_cn hc (w_cn hc ⟨Q0u _,Q0u _⟩))) (λ_=>w_cn hc (w_cn hc ⟨Q0u _,Q0u _⟩))
theorem qaz(b:Bool):U (Qos b):=by cases b<;>exact⟨by decide,by decide⟩
theorem Z8a(op:Int){a b:Int}(ha:U a)(hb:U b):(Qo1 op a b).w (λr=>U r.1):=by
 unfold Qo1
 repeat'(first
   |refine w_br (λ_=> ?_) (λ_=> ?_)
   |exact Q0f (Zd8 ha hb) λx hx=>hx.1
   |exact Q0f (Zd8 ha hb) λx hx=>hx.2
   |exact w_lv λx hx=>(by rw[hx];exact qaz _)
   |refine w_lf ?_)
 all_goals(first
   |exact Q0u _
   |exact Qxx ha _
   |exact U_0)
theorem Z9z(op:Int):Qgo op=1\/Qgo op=4:=by
 simp only[Qgo,Qs9,Tree.m]
 cases op==32<;>cases op==35<;>simp
section
variable {c:Q05} (h:Q2j c) {i:Q0m} (hi:Qgl i)
include h hi
theorem Zol:(Q5a c i).w (λr=>Q2j r.1/\U r.2.Value):=by
 have k: ∀{x:Q05} {p:Int},Q2j x->U p->Q2j {X:=x.X,Pc:=p,B5:=x.B5}:=λhx hp=>⟨hx.x,hp,hx.csr⟩
 unfold Q5a
 refine w_cn (rc hi.a) (w_cn (rc hi.b) ?_)
 repeat'(first
   |refine w_br (λ_=> ?_) (λ_=> ?_)
   |exact Q0f (Qrb h hi.a (Q0u _)) λx hx=>⟨k hx (Q0u _),U_0⟩
   |exact w_lv λx _=>w_br (λ_=>⟨k h (Q0u _),U_0⟩) (λ_=>⟨k h (Q0u _),U_0⟩)
   |exact w_lv λx hx=>⟨by rw[hx];exact Qpp h _ U_0,U_0⟩
   |exact w_lv λx hx=>⟨by rw[hx];exact xw h,U_0⟩
   |exact w_cn (by have:=hi.csr (by simp_all);simp [bT];omega) (Q0f (Qrb h hi.a (h.a _)) λx hx=>⟨k hx (Q0u _),U_0⟩)
   |exact Q0f (Zn0 h _ (h.r _)) λx hx=>⟨k hx (Q0u _),U_0⟩
   |refine w_cn (rc hi.c) ?_
   |exact Q0f (Z8a _ (h.r _) (Q0u _)) λy hy=>Q0f (Qrb h hi.a hy) λx hx=>⟨k hx (Q0u _),U_0⟩
   |exact Q0f (Z8a _ (h.r _) (h.r _)) λy hy=>Q0f (Qrb h hi.a hy) λx hx=>⟨k hx (Q0u _),U_0⟩
   |refine w_lf ?_)
 all_goals(first
   |exact⟨k h (Q0u _),U_0⟩
   |exact⟨k h (Q0u _),h.r _⟩)
theorem Z40{P:Nat}{m:List Int}(hm:Q15 P m):(Qer c m i).w (λr=>Q2j r.1/\Q15 P r.2):=by
 have w:=Z9z i.Op
 unfold Qer
 refine w_cn (rc hi.b) (w_lv λx0 h0=> ?_)
 rw[<-h0]at w
 refine Q0f (Qlc hm (Q0u _) w 2) λx1 h1=>w_br (λ_=>w_lv λy hy=>⟨by rw[hy];exact Qpp h _ (Q0u _),h1.2⟩) (λ_=>w_lv λx3 h3=> ?_)
 rw[h0,<-h3]at w
 exact Q0f (Qs6 h1.2 h1.1 w) λx4 h4=>w_br (λ_=>Q0f (Qvy h4.1 8) λy hy=>Q0f (Qrb h hi.a hy) λx hx=>⟨⟨hx.x,Q0u _,hx.csr⟩,h1.2⟩) (λ_=>Q0f (Qrb h hi.a h4.1) λx hx=>⟨⟨hx.x,Q0u _,hx.csr⟩,h1.2⟩)
theorem Qy5{P:Nat}{m:List Int}(hm:Q15 P m):(Qcr c m i).w (λr=>Q2j r.1/\Q15 P r.2):=by
 have w:=Z9z i.Op
 unfold Qcr
 refine w_cn (rc hi.b) (w_lv λx0 h0=> ?_)
 rw[<-h0]at w
 refine Q0f (Qlc hm (Q0u _) w 3) λx1 h1=>w_br (λ_=>w_lv λy hy=>⟨by rw[hy];exact Qpp h _ (Q0u _),h1.2⟩) (λ_=>w_lv λx3 h3=>w_cn (rc hi.a) ?_)
 rw[h0,<-h3]at w
 exact Q0f (Z0w h1.2 h1.1 w (h.r _)) λx hx=>⟨⟨h.x,Q0u _,h.csr⟩,hx⟩
end
theorem zw{c:Q05}(h:Q2j c){P:Nat}{m:List Int}(hm:Q15 P m):(Q7q c m).w (λr=>Q2j r.1/\Q15 P r.2.1/\U r.2.2.Value):=by
 unfold Q7q
 refine Q0f (Zbw hm h) λx0 h0=>w_br (λ_=>w_lv λy hy=>⟨by rw[hy];exact Qpp h _ h.pc,h0.2,U_0⟩) (λ_=>Q0f (Z3u _) λx2 h2=>w_br (λ_=>w_lv λy hy=>⟨by rw[hy];exact Qpp h _ h0.1,h0.2,U_0⟩) (λhb=> ?_))
 have hi:=h2 (by simpa using hb)
 refine w_lv λx4 _=> ?_
 repeat'(first
   |refine w_br (λ_=> ?_) (λ_=> ?_)
   |exact Q0f (Z40 h hi h0.2) λx hx=>⟨hx.1,hx.2,U_0⟩
   |exact Q0f (Qy5 h hi h0.2) λx hx=>⟨hx.1,hx.2,U_0⟩
   |exact Q0f (Zol h hi) λx hx=>⟨hx.1,h0.2,hx.2⟩
   |exact w_lv λy hy=>⟨by rw[hy];exact Qpp h _ h0.1,h0.2,U_0⟩
   |refine w_lv λ_ _=> ?_)
theorem Zln{a:Int}(h:U a)(k:Nat)(hk:k<=32):0<=ishr .u32 a k/\ishr .u32 a k*2^k<=a:=by
 obtain⟨h1,h2⟩:=h
 unfold ishr
 have e:min (k:Int).toNat u32.bits=k:=by show min (k:Int).toNat 32=k;omega
 have hp:(0:Int)<2^k:=dK (by decide)
 rw[e,dL _ (dM hp)]
 exact⟨Int.ediv_nonneg h1 (dM hp),Int.ediv_mul_le a (Int.ne_of_gt hp)⟩
theorem Zmn(x:Int):0<=u8.wrap x/\u8.wrap x<256:=by rw[wrap_u8];omega
theorem zaz{x:Int}(h:U x):(Q1v x).w (λ_=>True):=by
 have s16:=Zln h 16 (by omega)
 have s8:=Zln h 8 (by omega)
 have s24:=Zln (Qxx h 16) 8 (by omega)
 obtain⟨h1,h2⟩:=h
 unfold Q1v
 repeat'(first
   |refine w_br (λ_=> ?_) (λ_=> ?_)
   |refine w_cn (dY ⟨?_,dR (b:=256) ?_ (fK (by kernel_rfl))⟩) ?_
   |exact trivial
   |refine w_lf ?_)
 all_goals(first
   |trivial
   |exact(Zmn _).1
   |exact(Zmn _).2
   |(simp only[decide_eq_true_eq,decide_eq_false_iff_not]at*;simp at s16 s8 s24;omega))
theorem and255(a:Int):iand .u32 a 255<256:=by
 unfold iand
 rw[wrap_u32]
 have:(dU u32.bits a&&&dU u32.bits 255).toNat<=255:=by
   show(dU 32 a&&&dU 32 255).toNat<=255
   rw[dX]
   exact Nat.le_trans Nat.and_le_right (by decide)
 omega
theorem qaP{x:Int}(h:U x):(Q3d x).w (λ_=>True):=by
 have s24:=Zln h 24 (by omega)
 obtain⟨h1,h2⟩:=h
 have i24:ishr .u32 x 24<256:=by simp at s24;omega
 unfold Q3d
 repeat'(first
   |refine w_cn (dY ⟨?_,dR (b:=256) ?_ (fK (by kernel_rfl))⟩) ?_
   |exact trivial
   |refine w_lf ?_)
 all_goals(first
   |trivial
   |exact(Q0u _).1
   |exact s24.1
   |exact i24
   |exact and255 _)
structure okS(P:Nat)(m:Q00):Prop where
 cpu:Q2j m.B2
 mem:Q15 P m.Mem
 disk:Q99 m.B1
 nic:Qjx m.C5
 target:U m.A2.C9
 given:U m.A2.C3
theorem Zmb{b:Q07}(h:U b.C3):(Q9k b).w (λ_=>True):=by
 unfold Q9k
 exact Q0f (qaP h) λ_ _=>trivial
theorem Zmj{m:Q00}(h:U m.A2.C3):(Q59 m).w (λ_=>True):=by
 have b: ∀x,(Q4a m.A2 x).w (λ_=>True):=λx=>by
   unfold Q4a
   exact Q0f (zaz h) λ_ _=>trivial
 have d:(Q1u m).w (λ_=>True):=by
   unfold Q1u
   exact w_lv λ_ _=>w_lv λ_ _=>w_br (λ_=>w_lv λ_ _=>w_br (λ_=>w_lv λ_ _=>w_br (λ_=>w_lv λ_ _=>w_br (λ_=>Q0f (b _) λ_ _=>trivial) (λ_=>trivial)) (λ_=>trivial)) (λ_=>trivial)) (λ_=>trivial)
 unfold Q59
 repeat'(first
   |refine w_br (λ_=> ?_) (λ_=> ?_)
   |exact Q0f d λ_ _=>trivial
   |refine w_lv λ_ _=> ?_
   |exact trivial)
theorem Zl7{m:Q00}(h:U m.A2.C3):(Q7k m).w (λ_=>True):=by
 have p:(Q5o m.A2).w (λ_=>True):=by
   unfold Q5o
   exact Q0f (Zmb h) λ_ _=>trivial
 unfold Q7k
 refine w_lv λx0 _=>w_lv λx1 _=>w_lv λx2 _=>w_lv λx3 _=>Q0f p λx4 _=>w_lp (inv:=λz=>0<=z.2/\z.2<=5) (μ:=Qi4 m) ⟨by omega,by omega⟩ (cK _) (λz hz=> ?_)
 obtain⟨z1,z2⟩:=hz
 have ew:z.2<5->i64.wrap (z.2+1)=z.2+1:=λ_=>by rw[wrap_i64];omega
 refine w_br (λhb=> ?_) (λ_=>trivial)
 have hb:=oY hb
 have nx:(0<=i64.wrap (z.2+1)/\i64.wrap (z.2+1)<=5)/\(5-i64.wrap (z.2+1)).toNat<(5-z.2).toNat:=by rw[ew hb];omega
 refine w_cn (by simp;omega) (w_br (λ_=>w_cn (dY z1) (w_nx nx)) (λ_=>w_nx nx))
theorem Qxh{m:Q00}(h:U m.A2.C3):(Q32 m).w U:=by
 unfold Q32
 exact Q0f (Zl7 h) λ_ _=>Zk7 _ _
theorem Zis{m:Q00}(h:U m.A2.C3):(Q47 m).w (λ_=>True):=by
 have i:(Q39 m).w (λ_=>True):=by
   unfold Q39
   exact w_br (λ_=>Q0f (Qxh h) λ_ _=>trivial) (λ_=>trivial)
 unfold Q47
 exact Q0f (Zmj h) λ_ _=>w_br (λ_=>w_br (λ_=>Q0f i λ_ _=>w_br (λ_=>trivial) (λ_=>trivial)) (λ_=>trivial)) (λ_=>trivial)
theorem zU{P:Nat}{m:Q00}(h:okS P m):(Q2z m).w (okS P):=by
 obtain⟨h1,h2,h3,h4,h5,h6⟩:=h
 unfold Q2z
 refine w_br (λ_=>⟨h1,h2,h3,h4,h5,h6⟩) (λ_=>Q0f (Qxh (m:=⟨_,_,_,_,_,_,m.A2,_,_,_⟩) h6) λx0 _=>w_lp (inv:=λz=>0<=z/\z<=5) (μ:=Qcq m) ⟨by omega,by omega⟩ (cK _) (λz hz=> ?_))
 obtain⟨z1,z2⟩:=hz
 refine w_br (λhb=>w_cn (dY z1) (w_br (λ_=>w_lv λx1 hx=>⟨by rw[hx];exact Qpp h1 _ U_0,h2,h3,h4,h5,h6⟩) (λ_=>w_nx ?_))) (λ_=>⟨h1,h2,h3,h4,h5,h6⟩)
 have hb:=oY hb
 show(0<=i64.wrap (z+1)/\i64.wrap (z+1)<=5)/\(5-i64.wrap (z+1)).toNat<(5-z).toNat
 have ew:i64.wrap (z+1)=z+1:=by rw[wrap_i64];omega
 rw[ew];omega
theorem Qfl{P:Nat}{m:List Int}(h:Q15 P m):Q3w m=P:=by
 obtain⟨h1,h2,h3,_⟩:=h
 simp only[Q3w,Qp6,Tree.m]
 have e:(m.length:Int)=32*P:=by omega
 rw[e]
 have e1:(dB (32*(P:Int)) 32 !=0)=false:=by simp [gY]
 have e2:decide ((32*(P:Int))>1024)=false:=dN (by omega)
 rw[e1,e2]
 simp only[cond_false]
 rw[gZ _ (by decide),wrap_i64];omega
theorem Qn7{P:Nat}{m:List Int}(h:Q15 P m){f:Int}(hf:U f):Q29 m f=decide (f<P):=by
 have:=Qfl h
 obtain⟨h1,h2⟩:=hf
 have h3:=h.p2
 simp only[Q29,Qjb,Tree.m,letv,this]
 congr 1
 rw[wrap_u64,wrap_u64,dJ h1 (by omega),dJ (by omega) (by omega)]
theorem y7{P:Nat}{m:List Int}(h:Q15 P m):(Qew m).w (λr=>r=m):=by
 obtain⟨h1,h2,h3,_⟩:=h
 unfold Qew
 refine w_cn ?_ ?_
 . simp [bT,D.plain];omega
 . show _=_
   simp
theorem put_w{P:Nat}{m:List Int}(h:Q15 P m){addr size v:Int}(ha:U addr)(hl:addr<4*m.length)(hv:U v):(Qf0 m addr size v).w (Q15 P):=by
 obtain⟨h1,h2,h3,h4⟩:=h
 obtain⟨a1,a2⟩:=ha
 have e:wrap u32 (eS addr 4)=addr/4:=by rw[wrap_u32,eT a1];omega
 have hc:(bS 1 1&&bT 0 1&&decide (0<=wrap u32 (eS addr 4)/\wrap u32 (eS addr 4)<(m.length:Int)))=true:=by
   rw[e];simp [bT];omega
 have h0: ∀x,decide (0<=wrap u32 x)=true:=λx=>dY (Q0u x).1
 have hs: ∀i v,U v->Q15 P (m.set i v):=λi v hv=>⟨by simp [h1],h2,h3,Z78 h4 hv i⟩
 unfold Qf0
 exact w_br (λ_=>w_cn hc (hs _ _ hv)) (λ_=>w_cn hc (w_cn (h0 _) (w_cn (h0 _) (w_cn hc (hs _ _ (U_or _ _))))))
theorem v7{P:Nat}{m:List Int}(h:Q15 P m){frame:Int}(f0:0<=frame)(f1:frame<P)(s:List UInt8):(Qa1 m frame s).w (Q15 P):=by
 unfold Qa1
 have h3:=h.p2
 refine w_lp (inv:=λz=>0<=z.1/\z.1<=128/\Q15 P z.2) (μ:=Qi6 m frame s) ⟨by omega,by omega,h⟩ (cK _) (λv0 hv0=> ?_)
 obtain⟨i0,i1,hm⟩:=hv0
 refine w_br (λh1=>w_br (λh2=>w_cn ?_ ?_) (λ_=>hm)) (λ_=>hm)
 . have:=oY h1
   simp [bT];omega
 . have h2:=oY h2
   have e:wrap u32 (wrap i64 (wrap i64 (frame*128)+v0.1))=frame*128+v0.1:=by
     rw[wrap_u32,wrap_i64,wrap_i64];omega
   rw[e]
   obtain⟨g1,g2⟩:=Tree.pp (put_w hm (size:=1) (addr:=frame*128+v0.1) ⟨by omega,by omega⟩ (by rw[hm.len];omega) (Q0u (UInt8.toNat (s.getD v0.1.toNat 0))))
   refine w_an g1 (w_lv λx0 hx0=> ?_)
   rw[hx0]
   have ew:i64.wrap (v0.1+1)=v0.1+1:=by rw[wrap_i64];omega
   refine w_nx ?_
   show(0<=i64.wrap (v0.1+1)/\i64.wrap (v0.1+1)<=128/\Q15 P _)/\(128-i64.wrap (v0.1+1)).toNat<(128-v0.1).toNat
   rw[ew]
   exact⟨⟨by omega,by omega,g2⟩,by omega⟩
theorem Zl5{P:Nat}{m:List Int}(h:Q15 P m){d:Q0g}(hd:Q99 d)(e:Q0a):(Q6q d m e).w (λr=>Q99 r.1/\Q15 P r.2.2):=by
 have fl:Q29 m d.B3=true->(Qa1 m (i64.wrap d.B3) e.D0).w (Q15 P):=λhp=>by
   rw[Qn7 h hd.opFrame]at hp
   have:=oY hp
   have h1:=hd.opFrame.1
   have h3:=h.p2
   have ew:i64.wrap d.B3=d.B3:=by rw[wrap_i64];omega
   rw[ew]
   exact v7 h h1 this _
 have l0:Q99 d/\Q15 P m:=⟨hd,h⟩
 have l1: ∀st,Q99 {Blocks:=d.Blocks,C2:=d.C2,Frame:=d.Frame,C1:=st,D8:=0,B7:=0,B3:=0,C4:=[]}:=λst=>⟨hd.block,hd.frame,U_0,U_0⟩
 unfold Q6q
 repeat'(first
   |exact l0
   |exact⟨l1 _,h⟩
   |refine w_br (λ_=> ?_) (λ_=> ?_)
   |refine w_lv (λ_ _=> ?_))
 all_goals(
   first
     | (have hp:Q29 m d.B3=true:=by simp_all
        obtain⟨g1,g2⟩:=Tree.pp (fl hp)
        refine w_an g1 (w_lv λx hx=> ?_)
        rw[hx]
        exact w_br (λ_=>⟨l1 _,g2⟩) (λ_=>⟨l1 _,g2⟩))
     |(exfalso;simp_all;done))
section
variable {c:Q05} (h:Q2j c)
include h
theorem Z47(k:Int){b:Int}(hb:U b):Q2j (Q2y c k b):=by
 refine(Tree.post (Qiw c k b) (W:=Q2j) ?_)
 unfold Qiw
 refine w_lv λ_ _=>w_lv λ_ _=>⟨h.x,h.a1,?_⟩
 intro w hw
 simp only[A8.l,cP,cQ,or_false]at hw
 rcases hw with rfl|rfl|rfl|rfl|rfl|rfl|rfl|rfl
 . exact U_or _ _
 . exact h.a1
 . exact h.pc
 . exact Q0u _
 . exact hb
 . exact h.a5
 . exact h.a6
 . exact h.a7
theorem yU:Q2j (Qib c):=by
 refine(Tree.post (Qej c) (W:=Q2j) ?_)
 unfold Qej
 refine w_lv λ_ _=>w_lv λ_ _=>⟨h.x,h.a2,?_⟩
 intro w hw
 simp only[A8.l,cP,cQ,or_false]at hw
 rcases hw with rfl|rfl|rfl|rfl|rfl|rfl|rfl|rfl
 . exact U_or _ _
 . exact h.a1
 . exact h.a2
 . exact h.a3
 . exact h.a4
 . exact h.a5
 . exact h.a6
 . exact h.a7
theorem Z5x(r:Int){v:Int}(hv:U v):(Qfc c r v).w Q2j:=by
 unfold Qfc
 refine w_br (λh1=>w_br (λh2=>w_cn ?_ ⟨Zkb h.x hv _,h.pc,h.csr⟩) (λ_=>h)) (λ_=>h)
 have h1:=oY h1
 have h2:=oY h2
 simp [bT];omega
theorem xaz(k:Int){v:Int}(hv:U v):(Qd9 c k v).w Q2j:=by
 have ok: ∀i v,U v->Q2j {X:=c.X,Pc:=c.Pc,B5:=A8.of 0 (dD (A8.l c.B5) i v)}:=λi v hv=>⟨h.x,h.pc,Zhm h.csr hv i⟩
 unfold Qd9
 repeat'(first
   |exact h
   |exact ok _ _ (Q0u _)
   |exact ok _ _ hv
   |refine w_br (λhk=> ?_) (λ_=> ?_)
   |refine w_cn (by rw[eq_of_beq (by assumption:(k==_)=true)];decide) ?_)
end
section
variable {P:Nat} {m:List Int} (h:Q15 P m)
include h
theorem Zb9(a:Int){size:Int}(hs:size=1\/size=4):(Q8c m a size).w (λb=>b=true->a<128*P):=by
 have hp:=Qfl h
 have h2:=h.p2
 have e:decide (wrap u32 size≠0)=true:=by rcases hs with rfl|rfl<;>decide
 have l: ∀x,x=Q3w m->decide (a<wrap u32 (wrap i64 (128*x)))=true->a<128*P:=λx hx hd=>by
   rw[hx,hp,wrap_u32,wrap_i64]at hd
   have:=oY hd
   omega
 unfold Q8c
 refine w_br (λ_=>w_br (λ_=>λh=>by cases h) (λ_=> ?_)) (λ_=> ?_)<;>
 exact w_cn e (w_br (λ_=>w_lv λx hx=>l x hx) (λ_=>λh=>by cases h))
theorem idx{a:Int}(ha:U a)(hl:a<128*P):(bS 1 1&&bT 0 1&&decide (0<=wrap u32 (eS a 4)/\wrap u32 (eS a 4)<(m.length:Int)))=true:=by
 obtain⟨a1,a2⟩:=ha
 have e:wrap u32 (eS a 4)=a/4:=by rw[wrap_u32,eT a1];omega
 have:=h.len
 rw[e];simp [bT];omega
theorem Zh6{a:Int}(ha:U a){size:Int}(hs:size=1\/size=4):(Q44 m a size).w (λr=>U r.1):=by
 obtain⟨g1,g2⟩:=Tree.pp (Zb9 h a hs)
 unfold Q44
 refine w_an g1 (w_lv λx hx=>w_br (λ_=>U_0) (λhb=> ?_))
 have hb:x=true:=by simpa using hb
 have hl:=g2 (hx.symm.trans hb)
 refine w_cn (idx h ha hl) (w_br (λ_=>w_cn (dY (Q0u _).1) (Q0u _)) (λ_=>Qln h.u _))
theorem zaP{a:Int}(ha:U a)(access:Int):(Qff m a access).w (Q15 P):=by
 obtain⟨g1,g2⟩:=Tree.pp (Zb9 h a (size:=4) (.inr rfl))
 have hs: ∀{m:List Int} i v,Q15 P m->U v->Q15 P (m.set i v):=λi v h hv=>⟨by simp [h.len],h.p1,h.p2,Z78 h.u hv i⟩
 unfold Qff
 refine w_an g1 (w_lv λx hx=>w_br (λ_=>h) (λhb=> ?_))
 have hb:x=true:=by simpa using hb
 have hl:=g2 (hx.symm.trans hb)
 have i0:=idx h ha hl
 have h':=hs (Int.toNat (wrap u32 (eS a 4))) (ior u32 (m.getD (Int.toNat (wrap u32 (eS a 4))) 0) 8) h (U_or _ _)
 have i1:=idx h' ha hl
 exact w_cn i0 (w_cn i0 (w_br (λ_=>w_cn i1 (w_cn i1 (hs _ _ h' (U_or _ _)))) (λ_=>h')))
theorem z8{root va:Int}(hr:U root)(hv:U va)(access:Int):(Q9f m root va access).w (λt=>U t.Addr/\U t.F3/\(t.F0=0->t.Addr<128*P)):=by
 have hp:=Qfl h
 have h2:=h.p2
 have hlen:=h.len
 obtain⟨r1,r2⟩:=hr
 obtain⟨v1,v2⟩:=hv
 unfold Q9f
 refine w_lv λx0 hx0=>w_lv λx1 hx1=>w_lv λx2 _=> ?_
 have hc:x0≠0:=by
   rw[hx0]
   simp only[Q25,Q8v,Tree.m]
   cases access==1<;>cases access==3<;>simp
 rw[hp]at hx1
 have bad:U (0:Int)/\U (0:Int)/\(x0=0->(0:Int)<128*P):=⟨U_0,U_0,λe=>absurd e hc⟩
 refine w_br (λ_=>bad) (λ_=>w_br (λ_=>bad) (λhva=>w_br (λ_=>bad) (λhro=> ?_)))
 have hva:=oN hva
 have hro:=oN hro
 have e1:wrap u32 x1=P:=by rw[hx1,wrap_u32];omega
 rw[e1]at hro
 have e2:wrap u32 (wrap u32 (root*128)+wrap u32 (4*wrap u32 (eS va 128)))=root*128+4*(va/128):=by
   rw[eT v1,wrap_u32,wrap_u32,wrap_u32,wrap_u32];omega
 have hU:U (wrap u32 (wrap u32 (root*128)+wrap u32 (4*wrap u32 (eS va 128)))):=Q0u _
 have ci:=idx h hU (by rw[e2];omega)
 have good: ∀w:Int,decide (iand u32 w 255>=wrap u32 x1)=false->(U (wrap u32 (wrap u32 (iand u32 w 255*128)+dB va 128))/\U (wrap u32 (wrap u32 (root*128)+wrap u32 (4*wrap u32 (eS va 128))))/\((0:Int)=0->wrap u32 (wrap u32 (iand u32 w 255*128)+dB va 128)<128*P)):=λw hw=>by
   have hw:=oN hw
   rw[e1]at hw
   have hn:=(Zk7 w 255).1
   refine⟨Q0u _,Q0u _,λ_=> ?_⟩
   rw[Int.tmod_eq_emod_of_nonneg v1,wrap_u32,wrap_u32]
   generalize iand u32 w 255=q at*
   omega
 refine w_cn ci ?_
 repeat'(first
   |exact bad
   |exact good _ (by assumption)
   |refine w_br (λ_=> ?_) (λ_=> ?_)
   |refine w_cn ci ?_)
theorem Zae{c:Q05}(hc:Q2j c){va:Int}(hv:U va){size:Int}(hs:size=1\/size=4)(access:Int):(Q7x c m va size access).w (λr=>Q15 P r.2.2/\U r.1/\(r.2.1=0->r.1<128*P)):=by
 have e:decide (wrap u32 size≠0)=true:=by rcases hs with rfl|rfl<;>decide
 obtain⟨g1,g2⟩:=Tree.pp (Zb9 h va hs)
 obtain⟨k1,k2⟩:=Tree.pp (z8 h hc.a6 hv access)
 have bad: ∀k:Int,k≠0->Q15 P m/\U (0:Int)/\(k=0->(0:Int)<128*P):=λk hk=>⟨h,U_0,λe=>absurd e hk⟩
 have hca:Q25 access≠0:=by
   simp only[Q25,Q8v,Tree.m]
   cases access==1<;>cases access==3<;>simp
 unfold Q7x
 refine w_lv λx0 _=>w_br (λ_=>bad 5 (by decide)) (λ_=>w_br (λh1=>w_br (λh2=> ?_) (λ_=> ?_)) (λ_=> ?_))
 . exact bad 5 (by decide)
 all_goals(
   refine w_cn e (w_br (λ_=>bad 3 (by decide)) (λ_=>w_lv λx1 _=>w_br (λ_=>w_an g1 (w_lv λx2 hx2=>w_br (λ_=>w_lv λx3 hx3=>bad x3 (by rw[hx3];exact hca)) (λhb=> ?_))) (λ_=>w_an k1 (w_lv λx4 hx4=>w_br (λhb=> ?_) (λhb=> ?_)))))
   . have hb:x2=true:=by simpa using hb
     exact⟨h,hv,λ_=>g2 (hx2.symm.trans hb)⟩
   . exact bad _ (by simpa using hb)
   . obtain⟨t1,t2,t3⟩:=k2
     rw[show(Q9f m c.B5.a6 va access).m=x4 from hx4.symm]at t1 t2 t3
     obtain⟨m1,m2⟩:=Tree.pp (zaP h t2 access)
     refine w_an m1 (w_lv λx5 hx5=> ?_)
     exact⟨hx5▸m2,t1,λ_=>t3 (by simpa using hb)⟩)
end
theorem yw{r:Int}(h:Q8a r=true):0<=r/\r<16:=by
 simp only[Q8a,Qe,Tree.m]at h
 cases h1:decide (r>=0)<;>rw[h1]at h
 . cases h
 . have h1:=oY h1
   have h:=oY h
   omega
theorem vU{i:Q0m}(hi:wrap .i64 i.Imm=i.Imm)(h:Q7h i=true):Qgl i:=by
 have no:false=true->Qgl i:=λh=>by cases h
 refine(Tree.post (Qfr i) (W:=λb=>b=true->Qgl i) ?_) h
 unfold Qfr
 refine w_lv λx0 h0=>w_br (λ_=>no) (λ_=>w_lv λx1 h1=>w_br (λ_=>no) (λb1=>w_lv λx2 h2=>w_br (λ_=>no) (λb2=>w_lv λx3 h3=>w_br (λ_=>no) (λb3=>w_lv λx4 h4=>w_br (λ_=>no) (λb4=>w_br (λ_=>no) (λb5=> ?_))))))
 have b1:x1=true:=by simpa using b1
 have b2:x2=true:=by simpa using b2
 have b3:x3=true:=by simpa using b3
 have b4:=oN b4
 have b5:=oN b5
 rw[hi]at b4 b5
 have ok:Qgl i:=⟨yw (h1.symm.trans b1),yw (h2.symm.trans b2),yw (h3.symm.trans b3),λe=>by
   rw[e]at h0
   have h0:x0=8:=h0
   subst h0
   have h4:x4=(0,7):=h4
   subst h4
   simp at b4 b5;omega⟩
 repeat'(first
   |exact λ_=>ok
   |exact no
   |refine w_br (λ_=> ?_) (λ_=> ?_))
theorem Zma(w:Int):(Q6o w).w (λr=>r.2=true->Qgl r.1):=by
 have no: ∀{p:Prop},false=true->p:=λh=>by cases h
 have e: ∀x,wrap .i64 (wrap .i32 x)=wrap .i32 x:=λx=>by rw[wrap_i64,wrap_i32];omega
 have ok: ∀i,wrap .i64 i.Imm=i.Imm-> ∀x,x=Q7h i->(!x)=false->true=true->Qgl i:=λi hi x hx hb _=>vU hi (hx.symm.trans (by simpa using hb))
 unfold Q6o
 refine w_lv λx0 _=> ?_
 have l: ∀i,wrap .i64 i.Imm=i.Imm->(Tree.lv (Q7h i) λx=> .br (!x) (.lf ((⟨0,0,0,0,0⟩:Q0m),false)) (.lf (i,true))).w (λr=>r.2=true->Qgl r.1):=λi hi=>w_lv λx hx=>w_br (λ_=>no) (λhb=>ok i hi x hx hb)
 refine w_br (λ_=>no) (λ_=>w_br (λ_=>l _ rfl) (λ_=>w_br (λ_=>l _ (e _)) (λ_=>w_br (λ_=>l _ (e _)) (λ_=>l _ (e _)))))
theorem bit_w(b:Bool):U (Qca b):=by cases b<;>exact⟨by decide,by decide⟩
theorem Zlo{a b:Int}(ha:U a)(hb:U b):(Qb4 a b).w (λr=>U r.1/\U r.2):=by
 unfold Qb4
 refine w_br (λ_=>⟨⟨by omega,by omega⟩,ha⟩) (λh=> ?_)
 have h: ¬b=0:=by simpa using h
 obtain⟨b1,b2⟩:=hb
 have hc:decide (wrap i64 (wrap i32 b)≠0)=true:=dY (by rw[wrap_i64,wrap_i32];omega)
 exact w_cn hc (w_cn hc ⟨Q0u _,Q0u _⟩)
theorem alu_w(op:Int){a b:Int}(ha:U a)(hb:U b):(Qll op a b).w (λr=>U r.1):=by
 unfold Qll
 refine w_lv λx0 _=> ?_
 repeat'(first
   |exact Q0u _
   |exact Qxx ha _
   |exact U_0
   |refine w_br (λ_=> ?_) (λ_=> ?_)
   |exact Q0f (Zlo ha hb) λx hx=>hx.1
   |exact Q0f (Zlo ha hb) λx hx=>hx.2
   |exact w_lv λx hx=>(by rw[hx];exact bit_w _))
theorem vw{x:Int}(hx:U x):(Q7t x 8).w U:=by
 unfold Q7t
 have h0:decide (0<=wrap u64 8)=true:=by decide
 refine w_br (λh=>absurd h (by decide)) λ_=>w_br (λh=>absurd h (by decide)) λ_=>w_cn h0 (w_cn (by decide) (w_br (λ_=>w_cn h0 (U_or _ _)) (λ_=>Zk7 _ _)))
section
variable {c:Q05} (h:Q2j c) {i:Q0m} (hi:Qgl i)
include h hi
theorem xV:(Q8g c i).w (λr=>Q2j r.1/\U r.2.Value):=by
 unfold Q8g
 refine w_br (λ_=>w_lv λx hx=>⟨hx▸Z47 h _ U_0,U_0⟩) (λ_=>w_br (λ_=>w_lv λx hx=>⟨hx▸yU h,U_0⟩) (λ_=>w_br (λe=>w_cn ?_ (Q0f (Z5x h _ (h.a _)) λx hx=>⟨hx.pcs (Q0u _),U_0⟩)) (λ_=>w_br (λ_=>w_cn (rc hi.a) (Q0f (xaz h _ (h.r _)) λx hx=>⟨hx.pcs (Q0u _),U_0⟩)) (λ_=> ?_))))
 . have:=hi.csr (by simpa using e)
   simp [bT];omega
 . have k:=h.pcs (Q0u (c.Pc+4))
   repeat'(first
     |exact⟨k,U_0⟩
     |exact⟨k,h.r _⟩
     |refine w_br (λ_=> ?_) (λ_=> ?_)
     |refine w_cn (rc hi.a) ?_)
theorem xaP:(Qin c i).w Q2j:=by
 unfold Qin
 exact w_br (λ_=>Q0f (Z5x h _ (Q0u _)) λx hx=>hx.pcs (Q0u _)) (λ_=>w_br (λ_=>w_cn (rc hi.b) (Q0f (Z5x h _ (Q0u _)) λx hx=>hx.pcs (Q0u _))) (λ_=>w_cn (rc hi.a) (w_cn (rc hi.b) (w_lv λx _=>w_br (λ_=>h.pcs (Q0u _)) (λ_=>h.pcs (Q0u _))))))
theorem Zn9{P:Nat}{m:List Int}(hm:Q15 P m):(Q9h c m i).w (λr=>Q2j r.1/\Q15 P r.2):=by
  unfold Q9h
  refine w_cn (rc hi.b) ?_
  have e1:(1:Int)=1\/(1:Int)=4:= .inl rfl
  have e4:(4:Int)=1\/(4:Int)=4:= .inr rfl
  repeat'(first
    |refine w_br (λ_=> ?_) (λ_=> ?_)
    | (refine Q0f (Zae hm h (Q0u _) e4 _) λx hx=> ?_
       obtain⟨m1,m2,m3⟩:=hx
       refine w_br (λ_=>w_lv λy hy=>⟨hy▸Z47 h _ (Q0u _),m1⟩) (λhb=> ?_)
       have m3:=m3 (by simpa using hb)
       have m4:x.1<4*x.2.2.length:=by rw[m1.len];omega
       clear hb)
    | (refine Q0f (Zae hm h (Q0u _) e1 _) λx hx=> ?_
       obtain⟨m1,m2,m3⟩:=hx
       refine w_br (λ_=>w_lv λy hy=>⟨hy▸Z47 h _ (Q0u _),m1⟩) (λhb=> ?_)
       have m3:=m3 (by simpa using hb)
       have m4:x.1<4*x.2.2.length:=by rw[m1.len];omega
       clear hb)
    |exact w_cn (rc hi.a) (Q0f (put_w (by assumption) (by assumption) (by assumption) (h.r _)) λy hy=>⟨h.pcs (Q0u _),hy⟩)
    |(refine Q0f (Zh6 (by assumption) (by assumption) e4) λy hy=> ?_)
    |(refine Q0f (Zh6 (by assumption) (by assumption) e1) λy hy=> ?_)
    |exact Q0f (vw (by assumption)) λz hz=>Q0f (Z5x h _ hz) λu hu=>⟨hu.pcs (Q0u _),by assumption⟩
    |exact Q0f (Z5x h _ (by assumption)) λu hu=>⟨hu.pcs (Q0u _),by assumption⟩)
end
theorem do_w{c:Q05}(h:Q2j c){P:Nat}{m:List Int}(hm:Q15 P m):(Qpg c m).w (λr=>Q2j r.1/\U r.2.1.Value/\Q15 P r.2.2):=by
 unfold Qpg
 refine Q0f (Zae hm h h.pc (.inr rfl) 1) λx0 hx=> ?_
 obtain⟨m1,m2,m3⟩:=hx
 refine w_br (λ_=>w_lv λy hy=>⟨hy▸Z47 h _ h.pc,U_0,m1⟩) (λhb=> ?_)
 refine Q0f (Zh6 m1 m2 (.inr rfl)) λx2 h2=>Zdo (Zma _) λx3 h3=>w_br (λ_=>w_lv λy hy=>⟨hy▸Z47 h _ h2,U_0,m1⟩) (λb3=> ?_)
 have hi:=h3 (by simpa using b3)
 refine w_lv λx5 _=> ?_
 repeat'(first
   |refine w_br (λ_=> ?_) (λ_=> ?_)
   |exact w_lv λy hy=>⟨hy▸Z47 h _ h2,U_0,m1⟩
   |exact Q0f (xV h hi) λy hy=>⟨hy.1,hy.2,m1⟩
   |exact Q0f (xaP h hi) λy hy=>⟨hy,U_0,m1⟩
   |exact Q0f (Zn9 h hi m1) λy hy=>⟨hy.1,U_0,hy.2⟩
   |exact Q0f (Z5x h _ (Q0u _)) λy hy=>⟨hy.pcs (Q0u _),U_0,m1⟩
   |refine w_cn (rc hi.c) ?_
   |refine w_cn (rc hi.b) ?_
   |exact Q0f (alu_w _ (h.r _) (h.r _)) λy hy=>Q0f (Z5x h _ hy) λz hz=>⟨hz.pcs (Q0u _),U_0,m1⟩
   |exact Q0f (alu_w _ (h.r _) (Q0u _)) λy hy=>Q0f (Z5x h _ hy) λz hz=>⟨hz.pcs (Q0u _),U_0,m1⟩)
theorem and1{q:Int}(h:U q):iand .u32 q 1=q%2:=by
 obtain⟨h1,h2⟩:=h
 unfold iand
 rw[wrap_u32]
 have e1:(dU 32 q).toNat=q.toNat:=by rw[BitVec.toNat_ofInt];omega
 have e2:(dU 32 1).toNat=1:=by decide
 have:(dU u32.bits q&&&dU u32.bits 1).toNat=q.toNat%2:=by
   show(dU 32 q&&&dU 32 1).toNat=_
   rw[dX,e1,e2,Nat.and_one_is_mod]
 rw[this];omega
theorem Ze2(b:Bool)(n:Int):(Qjw b n).w (λ_=>True):=by
 unfold Qjw
 exact w_br (λ_=>w_cn (dY (by rw[wrap_u64];omega)) trivial) (λ_=>trivial)
theorem qaA(m:Q00):(Qgf m).w (λ_=>True):=by
 unfold Qgf
 exact w_lv λ_ _=>Q0f (Ze2 _ _) λ_ _=>w_lv λ_ _=>Q0f (Ze2 _ _) λ_ _=>w_lv λ_ _=>Q0f (Ze2 _ _) λ_ _=>w_lv λ_ _=>Q0f (Ze2 _ _) λ_ _=>w_lv λ_ _=>Q0f (Ze2 _ _) λ_ _=>trivial
theorem Zfh(m:Q00):(Q93 m).w U:=by
 unfold Q93
 exact Q0f (qaA m) λ_ _=>Zk7 _ _
theorem qx(m:Q00):(Qf m).w (λ_=>True):=by
 unfold Qf
 exact w_br (λ_=>Q0f (Zfh m) λ_ _=>trivial) (λ_=>trivial)
theorem Zjs(m:Q00):(Q8 m).w (λ_=>True):=by
 unfold Q8
 exact w_lv λ_ _=>w_br (λ_=>trivial) (λ_=>w_br (λ_=>trivial) (λ_=>Q0f (qx m) λ_ _=>w_br (λ_=>trivial) (λ_=>trivial)))
theorem Qmh{m:Q00}(h:Q2j m.B2):(Q4x m).w Q2j:=by
 unfold Q4x
 refine Q0f (Zfh m) λx0 hx=>w_br (λ_=>h) (λ_=>w_br (λ_=>h) (λhb=> ?_))
 have hb:x0≠0:=by simpa using hb
 have sh: ∀z:Int,0<=z->z<=31->ishr .u32 x0 (wrap .u64 z)=x0/2^z.toNat:=λz h1 h2=>by
   unfold ishr
   have e:min (wrap .u64 z).toNat u32.bits=z.toNat:=by
     show min (wrap .u64 z).toNat 32=z.toNat
     rw[wrap_u64];omega
   rw[e,dL _ (dM (dK (by decide)))]
 refine w_lp (inv:=λz=>0<=z/\z<=31/\x0/2^z.toNat≠0) (μ:=Qem m) ⟨by omega,by omega,by simpa using hb⟩ (cK _) (λz hz=> ?_)
 obtain⟨z1,z2,z3⟩:=hz
 refine w_cn (dY (by rw[wrap_u64];omega)) (w_br (λe=>w_nx ?_) (λ_=>w_lv λy hy=>hy▸Z47 h _ U_0))
 have e:=eq_of_beq e
 have hq:=Qxx hx (wrap .u64 z)
 rw[and1 hq,sh z z1 z2]at e
 rw[sh z z1 z2]at hq
 have hlt:x0/2^z.toNat/2≠0:=by omega
 have z4:z<=30:=by
   rcases Int.lt_or_le z 31 with h|h
   . omega
   . have:z=31:=by omega
     subst this
     have:=hx.2
     have:=hx.1
     simp at z3 e hlt
     omega
 show(0<=i64.wrap (z+1)/\i64.wrap (z+1)<=31/\x0/2^(i64.wrap (z+1)).toNat≠0)/\(32-i64.wrap (z+1)).toNat<(32-z).toNat
 have ew:i64.wrap (z+1)=z+1:=by rw[wrap_i64];omega
 rw[ew]
 refine⟨⟨by omega,by omega,?_⟩,by omega⟩
 have et:(z+1).toNat=z.toNat+1:=by omega
 rw[et,Int.pow_succ,<-Int.ediv_ediv_of_nonneg (dM (dK (by decide)))]
 exact hlt
theorem Zd1{P:Nat}{m:Q00}(h:Q2j m.B2)(hm:Q15 P m.Mem):(Qfx m).w (λ_=>True):=by
 unfold Qfx
 refine Q0f (Qmh h) λx0 hx=>w_br (λ_=>trivial) (λ_=>Q0f (Zh6 hm hx.pc (.inr rfl)) λx1 _=>w_lv λx2 _=> ?_)
 exact w_br (λ_=>w_br (λ_=>w_br (λ_=>trivial) (λ_=>trivial)) (λ_=>trivial)) (λ_=>trivial)
theorem Qz2{P:Nat}{m:Q00}(h:Q2j m.B2)(hm:Q15 P m.Mem):(Q7m m).w (λ_=>True):=by
 unfold Q7m
 exact Q0f (Zjs m) λ_ _=>w_br (λ_=>trivial) (λ_=>Q0f (Zd1 h hm) λ_ _=>trivial)
theorem Qiz(l:List Int):(bytesOf l).length=l.length:=by simp [bytesOf]
theorem Qqb(l:List UInt8):(Qbl l).length=l.length:=by simp [Qbl]
theorem low_w(x:Int):(Qhx x 4).w (λr=>r.length=4):=by
 unfold Qhx
 refine w_lp (inv:=λz=>0<=z.1/\z.1<=4/\(z.2.length:Int)=z.1) (μ:=Qfg x 4) ⟨by omega,by omega,rfl⟩ (cK _) (λz hz=> ?_)
 obtain⟨z1,z2,z3⟩:=hz
 refine w_br (λh=>w_cn (dY (by rw[wrap_u64];omega)) (w_cn (dY (by omega)) (w_nx ?_))) (λh=> ?_)
 . have h:=oY h
   show(0<=i64.wrap (z.1+1)/\i64.wrap (z.1+1)<=4/\((z.2++[_]).length:Int)=i64.wrap (z.1+1))/\(4-i64.wrap (z.1+1)).toNat<(4-z.1).toNat
   have ew:i64.wrap (z.1+1)=z.1+1:=by rw[wrap_i64];omega
   rw[ew]
   refine⟨⟨by omega,by omega,by simp;omega⟩,by omega⟩
 . have h:=oN h
   show(bytesOf z.2).length=4
   rw[Qiz];omega
theorem y8{P:Nat}{m:List Int}(hm:Q15 P m)(frame:Int):(Qa0 m frame).w (λr=>0<=frame->frame<P->r.1.length=128):=by
 have hp:=Qfl hm
 have hl:=hm.len
 have h2:=hm.p2
 unfold Qa0
 refine w_br (λh=>λh0 _=>by have:=oY h;omega) (λh=>w_lv λx0 hx=>w_br (λh1=>λ_ h2=>by have:=oY h1;rw[hx,hp]at this;omega) (λh1=> ?_))
 have h:=oN h
 have h1:=oN h1
 rw[hx,hp]at h1
 refine w_lp (inv:=λz=>0<=z.1/\z.1<=32/\(z.2.length:Int)=4*z.1) (μ:=Qj1 m frame) ⟨by omega,by omega,rfl⟩ (cK _) (λz hz=> ?_)
 obtain⟨z1,z2,z3⟩:=hz
 refine w_br (λhb=> ?_) (λhb=> ?_)
 . have hb:=oY hb
   have e:wrap i64 (wrap i64 (frame*32)+z.1)=frame*32+z.1:=by rw[wrap_i64,wrap_i64];omega
   refine w_cn (by rw[e];simp [bT];omega) (w_an (show(4:Int)<=1000000000000 by decide) (Zdo (low_w _) λx1 h4=>w_cn (dY (by rw[Qqb,h4];omega)) (w_nx ?_)))
   show(0<=i64.wrap (z.1+1)/\i64.wrap (z.1+1)<=32/\((z.2++Qbl x1).length:Int)=4*i64.wrap (z.1+1))/\(32-i64.wrap (z.1+1)).toNat<(32-z.1).toNat
   have ew:i64.wrap (z.1+1)=z.1+1:=by rw[wrap_i64];omega
   rw[ew,lA,Qqb,h4]
   exact⟨⟨by omega,by omega,by omega⟩,by omega⟩
 . have hb:=oN hb
   intro _ _
   show(bytesOf z.2).length=128
   rw[Qiz];omega
theorem Zg5{P:Nat}{m:List Int}(hm:Q15 P m){d:Q0g}(hd:Q99 d)(port:Int){v:Int}(hv:U v)(at0:Int):(Q8t d m port v at0).w (λr=>Q99 r.1/\r.2.length<=1):=by
 have k: ∀st,Q99 {Blocks:=d.Blocks,C2:=d.C2,Frame:=d.Frame,C1:=st,D8:=d.D8,B7:=d.B7,B3:=d.B3,C4:=d.C4}:=λst=>⟨hd.block,hd.frame,hd.opBlock,hd.opFrame⟩
 have k2: ∀c o,Q99 {Blocks:=d.Blocks,C2:=d.C2,Frame:=d.Frame,C1:=1,D8:=c,B7:=d.C2,B3:=d.Frame,C4:=o}:=λc o=>⟨hd.block,hd.frame,hd.block,hd.frame⟩
 have k3:Q99 {Blocks:=d.Blocks,C2:=v,Frame:=d.Frame,C1:=d.C1,D8:=d.D8,B7:=d.B7,B3:=d.B3,C4:=d.C4}:=⟨hv,hd.frame,hd.opBlock,hd.opFrame⟩
 have k4:Q99 {Blocks:=d.Blocks,C2:=d.C2,Frame:=v,C1:=d.C1,D8:=d.D8,B7:=d.B7,B3:=d.B3,C4:=d.C4}:=⟨hd.block,hv,hd.opBlock,hd.opFrame⟩
 unfold Q8t
 repeat'(first
   |refine w_br (λ_=> ?_) (λ_=> ?_)
   |exact Q0f (y8 hm _) λ_ _=>w_lv λ_ _=>⟨k2 _ _,aO _⟩
   |refine w_lv (λ_ _=> ?_)
   |refine w_lf ?_)
 all_goals(first
   |exact⟨hd,aT _⟩
   |exact⟨k _,aT _⟩
   |exact⟨k2 _ _,aO _⟩
   |exact⟨k3,aT _⟩
   |exact⟨k4,aT _⟩)
theorem Zlt{P:Nat}{m:List Int}(hm:Q15 P m){n:Q0r}(hn:Qjx n)(port:Int){v:Int}(hv:U v)(at0:Int):(Qap n m port v at0).w (λr=>Qjx r.1/\r.2.length<=1):=by
 have k1:Qjx {Frame:=v,E0:=n.E0,C7:=n.C7,B9:=n.B9,B8:=n.B8,F1:=n.F1}:=⟨hv,hn.len,hn.buffer,hn.got⟩
 have k2:Qjx {Frame:=n.Frame,E0:=v,C7:=n.C7,B9:=n.B9,B8:=n.B8,F1:=n.F1}:=⟨hn.frame,hv,hn.buffer,hn.got⟩
 have k3:Qjx {Frame:=n.Frame,E0:=n.E0,C7:=n.C7,B9:=n.B9,B8:=false,F1:=0}:=⟨hn.frame,hn.len,hn.buffer,U_0⟩
 have k4: ∀p r,Qjx {Frame:=n.Frame,E0:=n.E0,C7:=p,B9:=n.Frame,B8:=r,F1:=n.F1}:=λp r=>⟨hn.frame,hn.len,hn.frame,hn.got⟩
 have send: ∀K:List UInt8×Bool->Tree (Q0r×List Q03),Q29 m n.Frame=true->(∀x:List UInt8×Bool,x.1.length=128->(K x).w (λr=>Qjx r.1/\r.2.length<=1))->(Tree.an (Qhs m (wrap .i64 n.Frame)) (.lv (Qj9 m (wrap .i64 n.Frame)) K)).w (λr=>Qjx r.1/\r.2.length<=1):=λK hp hK=>by
   rw[Qn7 hm hn.frame]at hp
   have hp:=oY hp
   obtain⟨f1,f2⟩:=hn.frame
   have ew:i64.wrap n.Frame=n.Frame:=by rw[wrap_i64];omega
   exact Q0f (y8 hm _) λx hx=>hK x (hx (by rw[ew];exact f1) (by rw[ew];exact hp))
 unfold Qap
 repeat'(first
   |refine w_br (λ_=> ?_) (λ_=> ?_)
   |refine send _ (by simp_all) (λx hx=>w_cn (by simp_all;exact hn.len.1) ?_)
   |refine w_lv (λ_ _=> ?_)
   |refine w_lf ?_)
 all_goals(first
   |exact⟨hn,aT _⟩
   |exact⟨hn,aO _⟩
   |exact⟨k1,aT _⟩
   |exact⟨k2,aT _⟩
   |exact⟨k3,aT _⟩
   |exact⟨k4 _ _,aT _⟩)
def okB(b:Q07):Prop:=U b.C9/\U b.C3
theorem v8{P:Nat}{m:List Int}(hm:Q15 P m){b:Q07}(hb:okB b)(port:Int){v:Int}(hv:U v):(Q50 b m port v).w (λr=>okB r.1/\Q15 P r.2):=by
 have hv0:decide (0<=v)=true:=dY hv.1
 have h2:=hm.p2
 have rest:(Tree.br (port==11) (.br (decide (v<32)) (.cn (decide (0<=v)) (.lf (({C9:=b.C9,C3:=Qhj .u32 b.C3 (ishl .u32 1 v)}:Q07),m))) (.lf (b,m))) (.lf (b,m))).w (λr=>okB r.1/\Q15 P r.2):=
   w_br (λ_=>w_br (λ_=>w_cn hv0 ⟨⟨hb.1,Q0u _⟩,hm⟩) (λ_=>⟨hb,hm⟩)) (λ_=>⟨hb,hm⟩)
 unfold Q50
 refine w_br (λ_=>w_lv λx0 hx=>w_br (λhp=>w_cn hv0 (w_br (λ_=>w_cn hv0 ?_) (λ_=>rest))) (λ_=>rest)) (λ_=>rest)
 have hp:Q29 m v=true:=hx.symm.trans hp
 rw[Qn7 hm hv]at hp
 have hp:=oY hp
 obtain⟨v1,v2⟩:=hv
 refine w_lp (inv:=λz=>0<=z.1/\z.1<=32/\Q15 P z.2) (μ:=Qjo b m port v) ⟨by omega,by omega,hm⟩ (cK _) (λz hz=> ?_)
 obtain⟨z1,z2,z3⟩:=hz
 have hl:=z3.len
 refine w_br (λh=> ?_) (λ_=>⟨⟨hb.1,Q0u _⟩,z3⟩)
 have h:=oY h
 have e:wrap i64 (wrap i64 (wrap i64 v*32)+z.1)=v*32+z.1:=by rw[wrap_i64,wrap_i64,wrap_i64];omega
 refine w_cn (by rw[e];simp [bT];omega) (w_nx ?_)
 show(0<=i64.wrap (z.1+1)/\i64.wrap (z.1+1)<=32/\Q15 P (dD _ _ _))/\(32-i64.wrap (z.1+1)).toNat<(32-z.1).toNat
 have ew:i64.wrap (z.1+1)=z.1+1:=by rw[wrap_i64];omega
 rw[ew]
 exact⟨⟨by omega,by omega,⟨by simp [hl],z3.p1,z3.p2,Z78 z3.u U_0 _⟩⟩,by omega⟩
structure okM(P:Nat)(m:Q00):Prop where
 cpu:Q2j m.B2
 mem:Q15 P m.Mem
 disk:Q99 m.B1
 nic:Qjx m.C5
 target:okB m.A2
 cnt:0<=m.A1
theorem Z45(c:Q0d)(port:Int):U (Q5g c port).2:=by
 refine Tree.post (Q3m c port) (W:=λr=>U r.2) ?_
 have u1:U 4294967295:=⟨by omega,by omega⟩
 unfold Q3m
 refine w_br (λ_=>w_br (λ_=>u1) (λh=>w_br (λ_=>w_cn ?_ (w_cn ?_ (Q0u _))) (λ_=>w_br (λ_=>Q0u _) (λ_=>U_0)))) (λh1=>w_br (λh=>(by rw[h1]at h;cases h)) (λ_=>w_br (λ_=>Q0u _) (λ_=>U_0)))
 . have h: ¬(c.D3.length:Int)=0:=by simpa using h
   exact dY ⟨by omega,by omega,by omega⟩
 . have h: ¬(c.D3.length:Int)=0:=by simpa using h
   simp [bT];omega
theorem xx{n:Q0r}(h:Qjx n)(port:Int):U (Qhv n port):=by
 refine Tree.post (Qgn n port) (W:=U) ?_
 have u1:U 1:=⟨by omega,by omega⟩
 unfold Qgn
 exact w_br (λ_=>h.frame) (λ_=>w_br (λ_=>h.got) (λ_=>w_br (λ_=>w_br (λ_=>w_br (λ_=>Q0u _) (λ_=>u1)) (λ_=>w_br (λ_=>Q0u _) (λ_=>U_0))) (λ_=>U_0)))
theorem Zm8{d:Q0g}(h:Q99 d)(port:Int):U (Qic d port):=by
 refine Tree.post (Qhc d port) (W:=U) ?_
 unfold Qhc
 exact w_br (λ_=>h.block) (λ_=>w_br (λ_=>h.frame) (λ_=>w_br (λ_=>Q0u _) (λ_=>U_0)))
theorem Zga(t:Q0i):U (Qgj t):=by
 refine Tree.post (Qfo t) (W:=U) ?_
 unfold Qfo
 exact w_br (λ_=>⟨by omega,by omega⟩) (λ_=>U_0)
theorem Z4y{b:Q07}(h:U b.C9)(port:Int):U (Q5c b port):=by
 refine Tree.post (Q6a b port) (W:=U) ?_
 unfold Q6a
 exact w_br (λ_=>h) (λ_=>w_br (λ_=>w_lv λ_ _=>Q0u _) (λ_=>U_0))
structure okR(P:Nat)(r:Q01):Prop where
 m:okM P r.A0
 clock:U r.A3
structure okL(P:Nat)(r x:Q01):Prop where
 ok:okR P x
 log:x.B4=r.B4
 queue:x.A6=r.A6
theorem w0(x:Int):0<=u64.wrap x:=by rw[wrap_u64];omega
section
variable {P:Nat} {r:Q01} (h:okR P r)
include h
theorem in_w(port:Int){clock:Int}(hc:U clock):(Qi8 r port clock).w (λx=>U x.1/\okL P r x.2):=by
 have k:okL P r r:=⟨h,rfl,rfl⟩
 obtain⟨⟨h1,h2,h3,h4,h5,h7⟩,h6⟩:=h
 unfold Qi8
 exact w_br (λ_=>w_lv λx hx=>⟨hx▸Z45 _ _,⟨⟨⟨h1,h2,h3,h4,h5,h7⟩,h6⟩,rfl,rfl⟩⟩) (λ_=>w_br (λ_=>⟨hc,k⟩) (λ_=>w_br (λ_=>w_lv λx hx=>⟨hx▸Zga _,k⟩) (λ_=>w_br (λ_=>w_lv λx hx=>⟨hx▸Zm8 h3 _,k⟩) (λ_=>w_br (λ_=>w_lv λx hx=>⟨hx▸xx h4 _,k⟩) (λ_=>w_lv λx hx=>⟨hx▸Z4y h5.1 _,k⟩)))))
theorem out_w(port:Int){v:Int}(hv:U v):(Qd2 r port v).w (λx=>x.1.length<=1/\okL P r x.2):=by
 have k:okL P r r:=⟨h,rfl,rfl⟩
 obtain⟨⟨h1,h2,h3,h4,h5,h7⟩,h6⟩:=h
 unfold Qd2
 exact w_br (λ_=>⟨aO _,k⟩) (λ_=>w_br (λ_=>⟨aT _,k⟩) (λ_=>w_br (λ_=>w_lv λ_ _=>⟨aT _,⟨⟨⟨h1,h2,h3,h4,h5,h7⟩,h6⟩,rfl,rfl⟩⟩) (λ_=>w_br (λ_=>Q0f (Zg5 h2 h3 _ hv _) λx hx=>⟨hx.2,⟨⟨⟨h1,h2,hx.1,h4,h5,h7⟩,h6⟩,rfl,rfl⟩⟩) (λ_=>w_br (λ_=>Q0f (Zlt h2 h4 _ hv _) λx hx=>⟨hx.2,⟨⟨⟨h1,h2,h3,hx.1,h5,h7⟩,h6⟩,rfl,rfl⟩⟩) (λ_=>Q0f (v8 h2 h5 _ hv) λx hx=>⟨aT _,⟨⟨⟨h1,hx.2,h3,h4,hx.1,h7⟩,h6⟩,rfl,rfl⟩⟩)))))
theorem Qtx{clock:Int}(hc:U clock):(Q6g r clock).w (λx=>x.1.length<=1/\okL P r x.2):=by
 obtain⟨⟨h1,h2,h3,h4,h5,h7⟩,h6⟩:=h
 unfold Q6g
 refine Q0f (Qmh h1) λx0 c0=>Q0f (do_w c0 h2) λx1 hx=> ?_
 obtain⟨c1,v1,m1⟩:=hx
 refine w_br (λ_=>Zdo (in_w (r:=⟨⟨_,_,_,_,_,_,_,_,_,_⟩,_,_,_⟩) ⟨⟨c1,m1,h3,h4,h5,h7⟩,h6⟩ _ hc) λx2 hx=> ?_) (λ_=>w_br (λ_=>Q0f (out_w (r:=⟨⟨_,_,_,_,_,_,_,_,_,_⟩,_,_,_⟩) ⟨⟨c1,m1,h3,h4,h5,h7⟩,h6⟩ _ v1) λx4 hx=> ?_) (λ_=> ?_))
 . obtain⟨u,⟨⟨⟨k1,k2,k3,k4,k5,k7⟩,k6⟩,e1,e2⟩⟩:=hx
   exact Q0f (Z5x k1 _ u) λx3 h3=>⟨aT _,⟨⟨⟨h3,k2,k3,k4,k5,w0 _⟩,k6⟩,e1,e2⟩⟩
 . obtain⟨u,⟨⟨⟨k1,k2,k3,k4,k5,k7⟩,k6⟩,e1,e2⟩⟩:=hx
   exact⟨u,⟨⟨⟨k1,k2,k3,k4,k5,w0 _⟩,k6⟩,e1,e2⟩⟩
 . repeat'(first
     |exact⟨aT _,⟨⟨⟨c1,m1,h3,h4,h5,w0 _⟩,h6⟩,rfl,rfl⟩⟩
     |refine w_br (λ_=> ?_) (λ_=> ?_))
end
theorem y9(c:Q0d)(b:Int):(Qcy c b).w (λ_=>True):=by
 unfold Qcy
 refine w_br (λ_=>trivial) (λh=>w_cn (dY ?_) trivial)
 have h:=oN h
 simp [maxLen];omega
theorem Zlr{P:Nat}{m:List Int}(hm:Q15 P m){n:Q0r}(hn:Qjx n)(frame:List UInt8):(Q6y n m frame).w (λr=>Qjx r.1/\Q15 P r.2.2):=by
 unfold Q6y
 refine w_br (λ_=>⟨hn,hm⟩) (λ_=>w_br (λ_=>⟨hn,hm⟩) (λ_=>w_br (λ_=>⟨hn,hm⟩) (λ_=>w_lv λx0 hx=>w_br (λ_=>⟨hn,hm⟩) (λhb=> ?_))))
 have hp:Q29 m n.B9=true:=hx.symm.trans (by simpa using hb)
 rw[Qn7 hm hn.buffer]at hp
 have hp:=oY hp
 obtain⟨b1,b2⟩:=hn.buffer
 have ew:i64.wrap n.B9=n.B9:=by rw[wrap_i64];omega
 exact Q0f (v7 hm (frame:=i64.wrap n.B9) (by rw[ew];exact b1) (by rw[ew];exact hp) frame) λx hx=>⟨⟨hn.frame,hn.len,U_0,Q0u _⟩,hx⟩
section
variable {P:Nat} {r:Q01} (h:okR P r)
include h
theorem zaA{e:Q0a}(he:U e.N):(Q8u r e).w (λx=>okL P r x.2):=by
 have k:okL P r r:=⟨h,rfl,rfl⟩
 obtain⟨⟨h1,h2,h3,h4,h5,h7⟩,h6⟩:=h
 unfold Q8u
 repeat'(first
   |exact k
   |exact⟨⟨⟨h1,h2,h3,h4,⟨he,h5.2⟩,h7⟩,h6⟩,rfl,rfl⟩
   |exact w_lv λ_ _=>⟨⟨⟨h1,h2,h3,h4,h5,h7⟩,h6⟩,rfl,rfl⟩
   |exact Q0f (y9 _ _) λ_ _=>⟨⟨⟨h1,h2,h3,h4,h5,h7⟩,h6⟩,rfl,rfl⟩
   |exact Q0f (Zl5 h2 h3 _) λx hx=>⟨⟨⟨h1,hx.2,hx.1,h4,h5,h7⟩,h6⟩,rfl,rfl⟩
   |exact Q0f (Zlr h2 h4 _) λx hx=>⟨⟨⟨h1,hx.2,h3,hx.1,h5,h7⟩,h6⟩,rfl,rfl⟩
   |refine w_br (λ_=> ?_) (λ_=> ?_))
theorem zx{e:Q0a}(he:U e.N)(hl:r.B4.length<=1000000):(Qas r e).w (λx=>okR P x/\x.B4.length<=r.B4.length+1/\x.A6=r.A6):=by
 have acc:(Q7g r e).w (λx=>okL P r x.2):=by
   unfold Q7g
   exact Q0f (zaA h he) λx hx=>hx
 unfold Qas
 refine Q0f acc λx hx=> ?_
 obtain⟨⟨k1,k2⟩,e1,e2⟩:=hx
 refine w_br (λ_=>w_cn (dY (by rw[e1];omega)) ⟨⟨k1,k2⟩,by simp [e1],e2⟩) (λ_=>⟨⟨k1,k2⟩,by rw[e1];omega,e2⟩)
theorem own_w(hl:r.B4.length<=1000000)(hq:r.A6.length<=1000000):(Qf4 r).w (λx=>okR P x/\x.B4=r.B4/\x.A6=r.A6):=by
 have ow:(Qdb r.A0).w (λm=>okM P m):=by
   obtain⟨⟨h1,h2,h3,h4,h5,h7⟩,h6⟩:=h
   unfold Qdb
   exact Q0f (y7 h2) λx hx=>⟨h1,by rw[hx];exact h2,h3,h4,h5,h7⟩
 unfold Qf4
 refine Q0f ow λx hx=>w_cn (dY (by simp;omega)) (w_cn (dY (by simp;omega)) ⟨⟨hx,h.clock⟩,rfl,rfl⟩)
theorem zV(e:Q0a)(hl:r.B4.length<=1000000)(hq:r.A6.length<=16)(hu: ∀q∈r.A6,U q.N)(he:U e.N):(Q8w r e).w (λx=>okR P x.1/\x.1.B4=r.B4/\x.1.A6.length<=16/\ ∀q∈x.1.A6,U q.N):=by
 unfold Q8w
 refine Q0f (own_w h hl (by omega)) λx hx=> ?_
 obtain⟨k1,k2,k3⟩:=hx
 have g:okR P x/\x.B4=r.B4/\x.A6.length<=16/\ ∀q∈x.A6,U q.N:=⟨k1,k2,by rw[k3];exact hq,by rw[k3];exact hu⟩
 refine w_lv λx1 _=>w_br (λ_=>g) (λ_=>w_br (λ_=>g) (λ_=>w_br (λ_=>g) (λhb=>w_cn (dY (by rw[k3];omega)) ?_)))
 have hb:=oN hb
 refine⟨⟨k1.m,k1.clock⟩,k2,?_,?_⟩
 . show(x.A6++[e]).length<=16
   rw[lA];simp at hb⊢;omega
 . intro q hq
   have hq:q∈x.A6++[e]:=hq
   rw[List.mem_append]at hq
   rcases hq with hq|hq
   . exact hu q (k3▸hq)
   . rw[List.mem_singleton.1 hq];exact he
end
theorem Zke(n:Int):(Q9g n).w (λe=>U e.N):=by
 have u1:U 1:=⟨by omega,by omega⟩
 have ev40: ∀x y,Qag x (wrap .i64 (1+dB y 40)):=λx y=>by
   show wrap .i64 (1+dB y 40)<=1000000000000
   have h1:=Int.tmod_lt_of_pos y (b:=40) (by decide)
   have h2:=Int.lt_tmod_of_pos y (b:=40) (by decide)
   rw[wrap_i64];omega
 unfold Q9g
 refine w_lv λx0 _=> ?_
 repeat'(first
   |exact U_0
   |exact u1
   |exact Q0u _
   |exact w_an (show(128:Int)<=1000000000000 by decide) (w_lv λ_ _=>u1)
   |exact w_an (ev40 _ _) (w_lv λ_ _=>U_0)
   |refine w_br (λ_=> ?_) (λ_=> ?_))

import Derived.Test.YtmalmklaonainaaGreatReplayFollowsZx
open List renaming set->dC, mem_cons->cN, not_mem_nil->cO
open Nat renaming blt->bT, beq->bS, lt_succ_self->cK, le_refl->aO, zero_le->aT
open Int renaming pow_pos->dJ, le_of_lt->dL, fdiv_eq_ediv_of_nonneg->dK, tmod->dA, mul_tmod_right->gW, mul_tdiv_cancel_left->gX, tdiv->eQ, tdiv_eq_ediv_of_nonneg->eR, emod_eq_of_lt->dI, lt_of_lt_of_le->gY, le_of_eq->gZ
open BitVec renaming ofInt->dS, toNat_and->dV
set_option maxRecDepth 100000
set_option linter.all false
namespace Go.Proofs.YtmalmklaonainaaGreat
open Go Go.GD
open Go.IntKind(wrap i64 u32 u64 u8 i32 wrap_i64 wrap_u32 wrap_u64 wrap_u8 wrap_i32)
def U(x:Int):Prop:=0<=x/\x<4294967296
theorem Q0v(x:Int):U (u32.wrap x):=by rw[wrap_u32];unfold U;omega
theorem Zj6(x y:Int):U (iand .u32 x y):=Q0v _
theorem U_or(x y:Int):U (ior .u32 x y):=Q0v _
theorem U_0:U 0:=⟨by omega,by omega⟩
theorem Z4p{m:List Int}(h: ∀w∈m,U w){v:Int}(hv:U v)(i:Nat): ∀w∈m.set i v,U w:=by
 intro w hw
 rcases List.mem_or_eq_of_mem_set hw with h1|h1
 . exact h w h1
 . rw[h1];exact hv
structure Q15(P:Nat)(m:List Int):Prop where
 len:m.length=32*P
 p1:0<=P
 p2:P<=32
 u: ∀w∈m,U w
structure Q91(d:Q0f):Prop where
 block:U d.C2
 frame:U d.Frame
 opBlock:U d.B7
 opFrame:U d.B3
structure Qjm(n:Q0q):Prop where
 frame:U n.Frame
 len:U n.E0
 buffer:U n.B9
 got:U n.F1
theorem Qkv{l:List Int}(h: ∀w∈l,U w)(i:Nat):U (l.getD i 0):=by
 by_cases hi:i<l.length
 . have:l.getD i 0=l[i]:=by simp [List.getD,hi]
   rw[this];exact h _ (List.getElem_mem hi)
 . have:l.getD i 0=0:=by simp [List.getD,List.getElem?_eq_none (by omega:l.length<=i)]
   rw[this];exact U_0
structure Q2r(c:Q05):Prop where
 x: ∀w∈A16.l c.X,U w
 pc:U c.Pc
 csr: ∀w∈A8.l c.B5,U w
theorem Zhn{X:A16 Int}(h: ∀w∈A16.l X,U w){v:Int}(hv:U v)(i:Nat): ∀w∈A16.l (A16.of 0 (dC (A16.l X) i v)),U w:=by
 have hs:=Z4p h hv i
 intro w hw
 simp only[A16.l,A16.of,cN,cO,or_false]at hw
 repeat(first|(rcases hw with rfl|hw; · exact Qkv hs _)|(subst hw;exact Qkv hs _))
theorem Zg3{X:A8 Int}(h: ∀w∈A8.l X,U w){v:Int}(hv:U v)(i:Nat): ∀w∈A8.l (A8.of 0 (dC (A8.l X) i v)),U w:=by
 have hs:=Z4p h hv i
 intro w hw
 simp only[A8.l,A8.of,cN,cO,or_false]at hw
 repeat(first|(rcases hw with rfl|hw; · exact Qkv hs _)|(subst hw;exact Qkv hs _))
section
variable {c:Q05} (h:Q2r c)
include h
theorem Q2r.a(i:Nat):U ((A8.l c.B5).getD i 0):=Qkv h.csr i
theorem Q2r.r(i:Nat):U ((A16.l c.X).getD i 0):=Qkv h.x i
theorem Q2r.a0:U c.B5.a0:=h.a 0
theorem Q2r.a1:U c.B5.a1:=h.a 1
theorem Q2r.a2:U c.B5.a2:=h.a 2
theorem Q2r.a3:U c.B5.a3:=h.a 3
theorem Q2r.a4:U c.B5.a4:=h.a 4
theorem Q2r.a5:U c.B5.a5:=h.a 5
theorem Q2r.a6:U c.B5.a6:=h.a 6
theorem Q2r.a7:U c.B5.a7:=h.a 7
theorem Q2r.pcs{p:Int}(hp:U p):Q2r {X:=c.X,Pc:=p,B5:=c.B5}:=⟨h.x,hp,h.csr⟩
end
section
variable {α β:Type} {W:β->Prop} {t:Tree α} {Q:α->Prop} {k:α->Tree β}
theorem Q0h(hq:t.w Q)(g: ∀x,Q x->(k x).w W):(Tree.an t.p (Tree.lv t.m k)).w W:=⟨(Tree.pp hq).1,λy hy=>g y (by rw[hy];exact(Tree.pp hq).2)⟩
theorem Zll(hq:t.w Q)(g: ∀x,Q x->(k x).w W):(Tree.lv t.m k).w W:=λy hy=>g y (by rw[hy];exact t.post hq)
end
theorem rc{r:Int}(h:0<=r/\r<16):(bT 0 1&&decide (0<=r/\r<((16:Nat):Int)))=true:=by simp [bT];omega
theorem Qvj{a:Int}(h:U a)(b:Int):U (ishr .u32 a b):=by
 unfold ishr U
 obtain⟨h1,h2⟩:=h
 have hp:(0:Int)<2^(min b.toNat u32.bits):=dJ (by decide)
 have:=Int.fdiv_nonneg h1 (dL hp)
 refine⟨this,?_⟩
 rw[dK _ (dL hp)]
 have h3:=Int.ediv_le_self (2^(min b.toNat u32.bits)) h1
 omega
structure Qfk(i:Q0m):Prop where
 a:0<=i.A/\i.A<16
 b:0<=i.B/\i.B<16
 c:0<=i.C/\i.C<16
 csr:i.Op=58->0<=i.Imm/\i.Imm<8
theorem Z3a{P:Nat}{m:List Int}(h:Q15 P m):Q1 m=P:=by
 obtain⟨h1,h2,h3,_⟩:=h
 simp only[Q1,Q8k,Tree.m]
 have e:(m.length:Int)=32*P:=by omega
 rw[e]
 have e1:(dA (32*(P:Int)) 32 !=0)=false:=by simp [gW]
 have e2:decide ((32*(P:Int))>1024)=false:=dN (by omega)
 rw[e1,e2]
 simp only[cond_false]
 rw[gX _ (by decide),wrap_i64];omega
theorem v8(n:Int):(Qc9 n).w (λ_=>True):=by
 unfold Qc9
 exact w_br (λ_=>trivial) (λ_=>w_cn (dY (by rw[wrap_u64];omega)) trivial)
theorem Qvy(w low n:Int):(Q9s w low n).w U:=by
 unfold Q9s
 exact w_br (λ_=>U_0) (λ_=>w_br (λ_=>U_0) (λ_=>w_br (λ_=>U_0) (λ_=>w_cn (dY (by rw[wrap_u64];omega)) (Q0h (v8 n) λ_ _=>Zj6 _ _))))
theorem Zma{w:Int}(hw:U w)(low n v:Int):(Q9q w low n v).w U:=by
 have h0:decide (0<=wrap u64 low)=true:=dY (by rw[wrap_u64];omega)
 unfold Q9q
 exact w_br (λ_=>hw) (λ_=>w_br (λ_=>hw) (λ_=>w_br (λ_=>hw) (λ_=>Q0h (v8 n) λ_ _=>w_cn h0 (w_cn h0 (U_or _ _)))))
theorem Qwh{x:Int}(hx:U x)(n:Int):(Q7k x n).w U:=by
 have h0: ∀y,decide (0<=wrap u64 y)=true:=λy=>dY (by rw[wrap_u64];omega)
 unfold Q7k
 exact w_br (λ_=>U_0) (λ_=>w_br (λ_=>hx) (λ_=>w_cn (h0 _) (w_cn (h0 _) (Q0v _))))
section
variable {P:Nat} {m:List Int} (h:Q15 P m)
include h
theorem Q9j:Q08 m:=by
 have:=h.len
 have:=h.p2
 show m.length<=35184372088832
 omega
theorem Zfc{a:Int}(ha:U a){size:Int}(hs:size=1\/size=4):(Q3e m a size).w (λb=>b=true->a+size<=128*P):=by
 have hp:=Z3a h
 have h2:=h.p2
 obtain⟨a1,a2⟩:=ha
 have e:decide (wrap u32 size≠0)=true:=by rcases hs with rfl|rfl<;>decide
 have l: ∀x,x=Q1 m->decide (wrap u64 (wrap u64 a+wrap u64 size)<=wrap u64 (wrap u64 x*128))=true->a+size<=128*P:=λx hx hd=>by
   rw[hx,hp]at hd
   have:=oY hd
   simp only[wrap_u64]at this
   omega
 unfold Q3e
 refine w_br (λ_=>w_br (λ_=>λh=>by cases h) (λ_=> ?_)) (λ_=> ?_)<;>
 exact w_cn e (w_br (λ_=>λh=>by cases h) (λ_=>w_lv λx hx=>l x hx))
theorem idxP{a:Int}(ha:U a)(hl:a<128*P):(bS 1 1&&bT 0 1&&decide (0<=wrap u32 (eQ a 4)/\wrap u32 (eQ a 4)<(m.length:Int)))=true:=by
 obtain⟨a1,a2⟩:=ha
 have e:wrap u32 (eQ a 4)=a/4:=by rw[wrap_u32,eR a1];omega
 have:=h.len
 rw[e];simp [bT];omega
theorem Qs5{a:Int}(ha:U a){size:Int}(hs:size=1\/size=4):(Q6y m a size).w (λr=>U r.1/\(r.2=true->a<128*P)):=by
 unfold Q6y
 refine Q0h (Zfc h ha hs) λx hx=>w_br (λ_=>⟨U_0,λh=>by cases h⟩) (λhb=> ?_)
 have hl:=hx (by simpa using hb)
 have hl:a<128*P:=by omega
 exact w_cn (idxP h ha hl) (w_br (λ_=>Q0h (Qvy _ _ _) λy hy=>⟨hy,λ_=>hl⟩) (λ_=>⟨Qkv h.u _,λ_=>hl⟩))
theorem Z0e{a:Int}(ha:U a){size:Int}(hs:size=1\/size=4){v:Int}(hv:U v):(Q8n m a size v).w (λr=>Q15 P r.1):=by
 have st: ∀i v,U v->Q15 P (m.set i v):=λi v hv=>⟨by simp [h.len],h.p1,h.p2,Z4p h.u hv i⟩
 have hcl:Q03 m=m:=rfl
 unfold Q8n
 refine w_an (Q9j h) (w_lv λx0 hx0=> ?_)
 rw[hcl]at hx0;subst hx0
 refine Q0h (Zfc h ha hs) λx hx=>w_br (λ_=>h) (λhb=> ?_)
 have hl:=hx (by simpa using hb)
 have hl:a<128*P:=by omega
 exact w_br (λ_=>w_cn (idxP h ha hl) (Q0h (Zma (Qkv h.u _) _ _ _) λy hy=>w_cn (idxP h ha hl) (st _ _ hy))) (λ_=>w_cn (idxP h ha hl) (st _ _ hv))
end
theorem Zho{r:Int}{used:Bool}(h:Q9d r used=true):0<=r/\r<16:=by
 simp only[Q9d,Qfc,Tree.m]at h
 cases used
 . have h:(r==0)=true:=h
   have:=eq_of_beq h;omega
 . cases h1:decide (r>=0)<;>rw[h1]at h
   . cases h
   . have h1:=oY h1
     have h:=oY h
     omega
theorem xw{i:Q0m}(h:Qg7 i=true):Qfk i:=by
 have no:false=true->Qfk i:=λh=>by cases h
 refine(Tree.post (Qi i) (W:=λb=>b=true->Qfk i) ?_) h
 unfold Qi
 refine w_lv λx0 h0=>w_br (λ_=>w_lv λx1 h1=>w_br (λb1=>w_lv λx2 h2=>w_br (λb2=>w_lv λx3 h3=>w_br (λb3=>w_br (λb4=>λb5=> ?_) (λ_=>no)) (λ_=>no)) (λ_=>no)) (λ_=>no)) (λ_=>no)
 have b4:=oY b4
 have b5:=oY b5
 refine⟨Zho (h1.symm.trans b1),Zho (h2.symm.trans b2),Zho (h3.symm.trans b3),λe=> ?_⟩
 rw[e]at h0
 have h0:x0=({a:=true,b:=false,c:=false,low:=0,D6:=7},true):=h0
 subst h0
 simp at b4 b5;omega
theorem Z1h(w:Int):(Q7y w).w (λr=>r.2=true->Qfk r.1):=by
 have no: ∀{p:Prop},false=true->p:=λh=>by cases h
 have l: ∀i,(Tree.lv (Qg7 i) λx=> .br (!x) (.lf ((⟨0,0,0,0,0⟩:Q0m),false)) (.lf (i,true))).w (λr=>r.2=true->Qfk r.1):=λi=>w_lv λx hx=>w_br (λ_=>no) (λhb=>λ_=>xw (hx.symm.trans (by simpa using hb)))
 unfold Q7y
 exact Q0h (Qvy _ _ _) λx0 _=>Q0h (Qvy _ _ _) λx1 _=>Q0h (Qvy _ _ _) λx2 _=>w_lv λx3 _=>w_br (λ_=>no) (λ_=>Q0h (Qvy _ _ _) λx4 h4=>w_br (λ_=>l _) (λ_=>w_br (λ_=>Q0h (Qwh h4 _) λx6 _=>l _) (λ_=>l _)))
section
variable {P:Nat} {m:List Int} (h:Q15 P m)
include h
theorem xU{f:Int}(hf:U f):Qah m f=decide (f<P):=by
 have:=Z3a h
 obtain⟨h1,h2⟩:=hf
 have h3:=h.p2
 simp only[Qah,Qje,Tree.m,letv,this]
 congr 1
 rw[wrap_u64,wrap_u64,dI h1 (by omega),dI (by omega) (by omega)]
theorem xay{root va:Int}(hv:U va)(access:Int):(Qae m root va access).w (λt=>U t.Addr/\U t.F3):=by
 have bad:U (0:Int)/\U (0:Int):=⟨U_0,U_0⟩
 have fr: ∀x,(Q8i x).w U:=λx=>by
   unfold Q8i
   exact Q0h (Qvy _ _ _) λy hy=>hy
 unfold Qae
 exact w_lv λx0 _=>w_br (λ_=>bad) (λ_=>w_br (λ_=>bad) (λ_=>w_lv λx1 _=>w_br (λ_=>bad) (λ_=>Q0h (Qs5 h (Q0v _) (.inr rfl)) λx2 _=>w_br (λ_=>bad) (λ_=>w_lv λx3 _=>w_br (λ_=>bad) (λ_=>Q0h (fr _) λx4 _=>w_lv λx5 _=>w_br (λ_=>bad) (λ_=>Q0h (fr _) λx6 _=>⟨Q0v _,Q0v _⟩))))))
theorem zU{a:Int}(ha:U a)(access:Int):(Q8l m a access).w (Q15 P):=by
 have hcl:Q03 m=m:=rfl
 unfold Q8l
 exact Q0h (Qs5 h ha (.inr rfl)) λx0 _=>w_br (λ_=>w_an (Q9j h) (w_lv λx1 h1=>by rw[h1,hcl];exact h)) (λ_=>w_br (λ_=>Q0h (Z0e h ha (.inr rfl) (U_or _ _)) λx hx=>hx) (λ_=>Q0h (Z0e h ha (.inr rfl) (U_or _ _)) λx hx=>hx))
theorem Qlb{c:Q05}{va:Int}(hv:U va){size:Int}(hs:size=1\/size=4)(access:Int):(Q6v c m va size access).w (λr=>U r.1/\Q15 P r.2.1):=by
 have hcl:Q03 m=m:=rfl
 have e:decide (wrap u32 size≠0)=true:=by rcases hs with rfl|rfl<;>decide
 have cl: ∀(K:List Int->Int×List Int×Int),(∀x,x=m->U (K x).1/\Q15 P (K x).2.1)->(Tree.an (Q08 m) (.lv (Q03 m) λx=> .lf (K x))).w (λr=>U r.1/\Q15 P r.2.1):=λK hK=>w_an (Q9j h) (w_lv λx hx=>hK x (hx.trans hcl))
 have z: ∀(k:Nat) (x:List Int),x=m->U (0:Int)/\Q15 P x:=λ_ x hx=>⟨U_0,hx▸h⟩
 have v: ∀x,x=m->U va/\Q15 P x:=λx hx=>⟨hv,hx▸h⟩
 have main: ∀(x0:Int×Bool),(Tree.cn (decide (wrap u32 size≠0)) (.br (dA va (wrap u32 size) !=0) (.an (Q08 m) (.lv (Q03 m) λx3=> .lf ((0:Int),x3,(3:Int)))) (.lv (Qa6 c) λx4=> .br (!x4) (.br (iand u32 c.B5.a0 4 !=0) (.an (Qi3 m c.B5.a6 va access) (.lv (Qij m c.B5.a6 va access) λx5=> .br (x5.F0 !=0) (.an (Q08 m) (.lv (Q03 m) λx6=> .lf (0,x6,x5.F0))) (.an (Qgf m x5.F3 access) (.lv (Qcz m x5.F3 access) λx7=> .lf (x5.Addr,x7,0))))) (.an (Q3f m va size) (.lv (Q4z m va size) λx8=> .br (!x8.2) (.an (Q08 m) (.lv (Q03 m) λx9=> .lf (0,x9,x0.1))) (.an (Q08 m) (.lv (Q03 m) λx10=> .lf (va,x10,0)))))) (.an (Q3f m va size) (.lv (Q4z m va size) λx11=> .br (!x11.2) (.an (Q08 m) (.lv (Q03 m) λx12=> .lf (0,x12,x0.1))) (.an (Q08 m) (.lv (Q03 m) λx13=> .lf (va,x13,0)))))))).w (λr=>U r.1/\Q15 P r.2.1):=λx0=>
   w_cn e (w_br (λ_=>cl _ (z 0)) (λ_=>w_lv λx4 _=>w_br (λ_=>w_br (λ_=>Q0h (xay h hv access) λx5 hx=>w_br (λ_=>cl _ (z 0)) (λ_=>Q0h (zU h hx.2 access) λx7 h7=>⟨hx.1,h7⟩)) (λ_=>Q0h (Qs5 h hv hs) λx8 _=>w_br (λ_=>cl _ (z 0)) (λ_=>cl _ v))) (λ_=>Q0h (Qs5 h hv hs) λx8 _=>w_br (λ_=>cl _ (z 0)) (λ_=>cl _ v))))
 unfold Q6v
 exact w_lv λx0 _=>w_br (λ_=>cl _ (z 0)) (λ_=>w_br (λ_=>w_br (λ_=>cl _ (z 0)) (λ_=>main x0)) (λ_=>main x0))
theorem Z9a{c:Q05}(hc:Q2r c):(Qcj c m).w (λr=>U r.1/\Q15 P r.2.1):=by
 unfold Qcj
 exact Q0h (Qlb h hc.pc (.inr rfl) 1) λx0 h0=>w_br (λ_=>⟨U_0,h0.2⟩) (λ_=>Q0h (Qs5 h0.2 h0.1 (.inr rfl)) λx1 h1=>⟨h1.1,h0.2⟩)
end
theorem qaz{s a b:Int}:U (Q92 s a b):=by
 refine Tree.post (Qps s a b) (W:=U) ?_
 unfold Qps
 exact w_br (λ_=>Q0v _) (λ_=>Q0v _)
section
variable {c:Q05} (h:Q2r c)
include h
theorem Qou(k:Int){b:Int}(hb:U b):Q2r (Q4s c k b):=by
 refine(Tree.post (Qlm c k b) (W:=Q2r) ?_)
 unfold Qlm
 refine w_lv λ_ _=>w_lv λ_ _=>⟨h.x,h.a1,?_⟩
 intro w hw
 simp only[A8.l,cN,cO,or_false]at hw
 rcases hw with rfl|rfl|rfl|rfl|rfl|rfl|rfl|rfl
 . exact Q0v _
 . exact h.a1
 . exact h.pc
 . exact Q0v _
 . exact hb
 . exact h.a5
 . exact h.a6
 . exact h.a7
theorem zw:Q2r (Qes c):=by
 refine(Tree.post (Qfq c) (W:=Q2r) ?_)
 unfold Qfq
 refine w_lv λx0 _=>w_lv λx1 h1=>⟨h.x,h.a2,?_⟩
 intro w hw
 simp only[A8.l,cN,cO,or_false]at hw
 rcases hw with rfl|rfl|rfl|rfl|rfl|rfl|rfl|rfl
 . rw[h1];exact qaz
 . exact h.a1
 . exact h.a2
 . exact h.a3
 . exact h.a4
 . exact h.a5
 . exact h.a6
 . exact h.a7
theorem Qqr{r:Int}(hr:0<=r/\r<16){v:Int}(hv:U v):(Qe3 c r v).w Q2r:=by
 unfold Qe3
 exact w_br (λ_=>w_cn (rc hr) ⟨Zhn h.x hv _,h.pc,h.csr⟩) (λ_=>h)
theorem Zld(k:Int){v:Int}(hv:U v):(Qcf c k v).w Q2r:=by
 have ok: ∀i v,U v->Q2r {X:=c.X,Pc:=c.Pc,B5:=A8.of 0 (dC (A8.l c.B5) i v)}:=λi v hv=>⟨h.x,h.pc,Zg3 h.csr hv i⟩
 unfold Qcf
 repeat'(first
   |exact h
   |exact ok _ _ (Q0v _)
   |exact ok _ _ hv
   |refine w_br (λhk=> ?_) (λ_=> ?_)
   |refine w_cn (by rw[eq_of_beq (by assumption:(k==_)=true)];decide) ?_)
end
theorem Zfx{a b:Int}(ha:U a)(hb:U b):(Qaf a b).w (λr=>U r.1/\U r.2):=by
 have u1:U 4294967295:=⟨by omega,by omega⟩
 unfold Qaf
 refine w_br (λ_=>⟨u1,ha⟩) (λh=> ?_)
 have h: ¬b=0:=by simpa using h
 obtain⟨b1,b2⟩:=hb
 have hc:decide (wrap i32 b≠0)=true:=dY (by rw[wrap_i32];omega)
 exact w_br (λ_=>w_br (λ_=>⟨ha,U_0⟩) (λ_=>w_cn hc (w_cn hc ⟨Q0v _,Q0v _⟩))) (λ_=>w_cn hc (w_cn hc ⟨Q0v _,Q0v _⟩))
theorem zaz(b:Bool):U (Qnp b):=by cases b<;>exact⟨by decide,by decide⟩
theorem Z7c(op:Int){a b:Int}(ha:U a)(hb:U b):(Qnq op a b).w (λr=>U r.1):=by
 unfold Qnq
 repeat'(first
   |refine w_br (λ_=> ?_) (λ_=> ?_)
   |exact Q0h (Zfx ha hb) λx hx=>hx.1
   |exact Q0h (Zfx ha hb) λx hx=>hx.2
   |exact w_lv λx hx=>(by rw[hx];exact zaz _)
   |refine w_lf ?_)
 all_goals(first
   |exact Q0v _
   |exact Qvj ha _
   |exact U_0)
theorem Zbu(op:Int):Qfj op=1\/Qfj op=4:=by
 simp only[Qfj,Qrx,Tree.m]
 cases op==32<;>cases op==35<;>simp
section
variable {c:Q05} (h:Q2r c) {i:Q0m} (hi:Qfk i)
include h hi
theorem Zoe:(Q56 c i).w (λr=>Q2r r.1/\U r.2.Value):=by
 have k: ∀{x:Q05} {p:Int},Q2r x->U p->Q2r {X:=x.X,Pc:=p,B5:=x.B5}:=λhx hp=>⟨hx.x,hp,hx.csr⟩
 unfold Q56
 refine w_cn (rc hi.a) (w_cn (rc hi.b) ?_)
 repeat'(first
   |refine w_br (λ_=> ?_) (λ_=> ?_)
   |exact Q0h (Qqr h hi.a (Q0v _)) λx hx=>⟨k hx (Q0v _),U_0⟩
   |exact w_lv λx _=>w_br (λ_=>⟨k h (Q0v _),U_0⟩) (λ_=>⟨k h (Q0v _),U_0⟩)
   |exact w_lv λx hx=>⟨by rw[hx];exact Qou h _ U_0,U_0⟩
   |exact w_lv λx hx=>⟨by rw[hx];exact zw h,U_0⟩
   |exact w_cn (by have:=hi.csr (by simp_all);simp [bT];omega) (Q0h (Qqr h hi.a (h.a _)) λx hx=>⟨k hx (Q0v _),U_0⟩)
   |exact Q0h (Zld h _ (h.r _)) λx hx=>⟨k hx (Q0v _),U_0⟩
   |refine w_cn (rc hi.c) ?_
   |exact Q0h (Z7c _ (h.r _) (Q0v _)) λy hy=>Q0h (Qqr h hi.a hy) λx hx=>⟨k hx (Q0v _),U_0⟩
   |exact Q0h (Z7c _ (h.r _) (h.r _)) λy hy=>Q0h (Qqr h hi.a hy) λx hx=>⟨k hx (Q0v _),U_0⟩
   |refine w_lf ?_)
 all_goals(first
   |exact⟨k h (Q0v _),U_0⟩
   |exact⟨k h (Q0v _),h.r _⟩)
theorem Z3e{P:Nat}{m:List Int}(hm:Q15 P m):(Qex c m i).w (λr=>Q2r r.1/\Q15 P r.2):=by
 have w:=Zbu i.Op
 unfold Qex
 refine w_cn (rc hi.b) (w_lv λx0 h0=> ?_)
 rw[<-h0]at w
 refine Q0h (Qlb hm (Q0v _) w 2) λx1 h1=>w_br (λ_=>w_lv λy hy=>⟨by rw[hy];exact Qou h _ (Q0v _),h1.2⟩) (λ_=>w_lv λx3 h3=> ?_)
 rw[h0,<-h3]at w
 exact Q0h (Qs5 h1.2 h1.1 w) λx4 h4=>w_br (λ_=>Q0h (Qwh h4.1 8) λy hy=>Q0h (Qqr h hi.a hy) λx hx=>⟨⟨hx.x,Q0v _,hx.csr⟩,h1.2⟩) (λ_=>Q0h (Qqr h hi.a h4.1) λx hx=>⟨⟨hx.x,Q0v _,hx.csr⟩,h1.2⟩)
theorem Qy8{P:Nat}{m:List Int}(hm:Q15 P m):(Qc8 c m i).w (λr=>Q2r r.1/\Q15 P r.2):=by
 have w:=Zbu i.Op
 unfold Qc8
 refine w_cn (rc hi.b) (w_lv λx0 h0=> ?_)
 rw[<-h0]at w
 refine Q0h (Qlb hm (Q0v _) w 3) λx1 h1=>w_br (λ_=>w_lv λy hy=>⟨by rw[hy];exact Qou h _ (Q0v _),h1.2⟩) (λ_=>w_lv λx3 h3=>w_cn (rc hi.a) ?_)
 rw[h0,<-h3]at w
 exact Q0h (Z0e h1.2 h1.1 w (h.r _)) λx hx=>⟨⟨h.x,Q0v _,h.csr⟩,hx⟩
end
theorem yw{c:Q05}(h:Q2r c){P:Nat}{m:List Int}(hm:Q15 P m):(Q7w c m).w (λr=>Q2r r.1/\Q15 P r.2.1/\U r.2.2.Value):=by
 unfold Q7w
 refine Q0h (Z9a hm h) λx0 h0=>w_br (λ_=>w_lv λy hy=>⟨by rw[hy];exact Qou h _ h.pc,h0.2,U_0⟩) (λ_=>Q0h (Z1h _) λx2 h2=>w_br (λ_=>w_lv λy hy=>⟨by rw[hy];exact Qou h _ h0.1,h0.2,U_0⟩) (λhb=> ?_))
 have hi:=h2 (by simpa using hb)
 refine w_lv λx4 _=> ?_
 repeat'(first
   |refine w_br (λ_=> ?_) (λ_=> ?_)
   |exact Q0h (Z3e h hi h0.2) λx hx=>⟨hx.1,hx.2,U_0⟩
   |exact Q0h (Qy8 h hi h0.2) λx hx=>⟨hx.1,hx.2,U_0⟩
   |exact Q0h (Zoe h hi) λx hx=>⟨hx.1,h0.2,hx.2⟩
   |exact w_lv λy hy=>⟨by rw[hy];exact Qou h _ h0.1,h0.2,U_0⟩
   |refine w_lv λ_ _=> ?_)
theorem Zk6{a:Int}(h:U a)(k:Nat)(hk:k<=32):0<=ishr .u32 a k/\ishr .u32 a k*2^k<=a:=by
 obtain⟨h1,h2⟩:=h
 unfold ishr
 have e:min (k:Int).toNat u32.bits=k:=by show min (k:Int).toNat 32=k;omega
 have hp:(0:Int)<2^k:=dJ (by decide)
 rw[e,dK _ (dL hp)]
 exact⟨Int.ediv_nonneg h1 (dL hp),Int.ediv_mul_le a (Int.ne_of_gt hp)⟩
theorem Zlm(x:Int):0<=u8.wrap x/\u8.wrap x<256:=by rw[wrap_u8];omega
theorem xaz{x:Int}(h:U x):(Q1y x).w (λ_=>True):=by
 have s16:=Zk6 h 16 (by omega)
 have s8:=Zk6 h 8 (by omega)
 have s24:=Zk6 (Qvj h 16) 8 (by omega)
 obtain⟨h1,h2⟩:=h
 unfold Q1y
 repeat'(first
   |refine w_br (λ_=> ?_) (λ_=> ?_)
   |refine w_cn (dY ⟨?_,gY (b:=256) ?_ (gZ (by kernel_rfl))⟩) ?_
   |exact trivial
   |refine w_lf ?_)
 all_goals(first
   |trivial
   |exact(Zlm _).1
   |exact(Zlm _).2
   |(simp only[decide_eq_true_eq,decide_eq_false_iff_not]at*;simp at s16 s8 s24;omega))
theorem and255(a:Int):iand .u32 a 255<256:=by
 unfold iand
 rw[wrap_u32]
 have:(dS u32.bits a&&&dS u32.bits 255).toNat<=255:=by
   show(dS 32 a&&&dS 32 255).toNat<=255
   rw[dV]
   exact Nat.le_trans Nat.and_le_right (by decide)
 omega
theorem zaO{x:Int}(h:U x):(Q3n x).w (λ_=>True):=by
 have s24:=Zk6 h 24 (by omega)
 obtain⟨h1,h2⟩:=h
 have i24:ishr .u32 x 24<256:=by simp at s24;omega
 unfold Q3n
 repeat'(first
   |refine w_cn (dY ⟨?_,gY (b:=256) ?_ (gZ (by kernel_rfl))⟩) ?_
   |exact trivial
   |refine w_lf ?_)
 all_goals(first
   |trivial
   |exact(Q0v _).1
   |exact s24.1
   |exact i24
   |exact and255 _)
structure okS(P:Nat)(m:Q00):Prop where
 cpu:Q2r m.B1
 mem:Q15 P m.Mem
 disk:Q91 m.B2
 nic:Qjm m.C6
 target:U m.A2.D0
 given:U m.A2.C3
theorem Zkp{b:Q09}(h:U b.C3):(Q9c b).w (λ_=>True):=by
 unfold Q9c
 exact Q0h (zaO h) λ_ _=>trivial
theorem Z73{m:Q00}(h:U m.A2.C3):(Q58 m).w (λ_=>True):=by
 have b: ∀x,(Q46 m.A2 x).w (λ_=>True):=λx=>by
   unfold Q46
   exact Q0h (xaz h) λ_ _=>trivial
 have d:(Q1w m).w (λ_=>True):=by
   unfold Q1w
   exact w_lv λ_ _=>w_lv λ_ _=>w_br (λ_=>w_lv λ_ _=>w_br (λ_=>w_lv λ_ _=>w_br (λ_=>w_lv λ_ _=>w_br (λ_=>Q0h (b _) λ_ _=>trivial) (λ_=>trivial)) (λ_=>trivial)) (λ_=>trivial)) (λ_=>trivial)
 unfold Q58
 repeat'(first
   |refine w_br (λ_=> ?_) (λ_=> ?_)
   |exact Q0h d λ_ _=>trivial
   |refine w_lv λ_ _=> ?_
   |exact trivial)
theorem Zkz{m:Q00}(h:U m.A2.C3):(Q7p m).w (λ_=>True):=by
 have p:(Q5n m.A2).w (λ_=>True):=by
   unfold Q5n
   exact Q0h (Zkp h) λ_ _=>trivial
 unfold Q7p
 refine w_lv λx0 _=>w_lv λx1 _=>w_lv λx2 _=>w_lv λx3 _=>Q0h p λx4 _=>w_lp (inv:=λz=>0<=z.2/\z.2<=5) (μ:=Qi6 m) ⟨by omega,by omega⟩ (cK _) (λz hz=> ?_)
 obtain⟨z1,z2⟩:=hz
 have ew:z.2<5->i64.wrap (z.2+1)=z.2+1:=λ_=>by rw[wrap_i64];omega
 refine w_br (λhb=> ?_) (λ_=>trivial)
 have hb:=oY hb
 have nx:(0<=i64.wrap (z.2+1)/\i64.wrap (z.2+1)<=5)/\(5-i64.wrap (z.2+1)).toNat<(5-z.2).toNat:=by rw[ew hb];omega
 refine w_cn (by simp;omega) (w_br (λ_=>w_cn (dY z1) (w_nx nx)) (λ_=>w_nx nx))
theorem Quz{m:Q00}(h:U m.A2.C3):(Q38 m).w U:=by
 unfold Q38
 exact Q0h (Zkz h) λ_ _=>Zj6 _ _
theorem Zj{m:Q00}(h:U m.A2.C3):(Q45 m).w (λ_=>True):=by
 have i:(Q3d m).w (λ_=>True):=by
   unfold Q3d
   exact w_br (λ_=>Q0h (Quz h) λ_ _=>trivial) (λ_=>trivial)
 unfold Q45
 exact Q0h (Z73 h) λ_ _=>w_br (λ_=>w_br (λ_=>Q0h i λ_ _=>w_br (λ_=>trivial) (λ_=>trivial)) (λ_=>trivial)) (λ_=>trivial)
theorem yU{P:Nat}{m:Q00}(h:okS P m):(Q31 m).w (okS P):=by
 obtain⟨h1,h2,h3,h4,h5,h6⟩:=h
 unfold Q31
 refine w_br (λ_=>⟨h1,h2,h3,h4,h5,h6⟩) (λ_=>Q0h (Quz (m:=⟨_,_,_,_,_,_,m.A2,_,_,_⟩) h6) λx0 _=>w_lp (inv:=λz=>0<=z/\z<=5) (μ:=Qc5 m) ⟨by omega,by omega⟩ (cK _) (λz hz=> ?_))
 obtain⟨z1,z2⟩:=hz
 refine w_br (λhb=>w_cn (dY z1) (w_br (λ_=>w_lv λx1 hx=>⟨by rw[hx];exact Qou h1 _ U_0,h2,h3,h4,h5,h6⟩) (λ_=>w_nx ?_))) (λ_=>⟨h1,h2,h3,h4,h5,h6⟩)
 have hb:=oY hb
 show(0<=i64.wrap (z+1)/\i64.wrap (z+1)<=5)/\(5-i64.wrap (z+1)).toNat<(5-z).toNat
 have ew:i64.wrap (z+1)=z+1:=by rw[wrap_i64];omega
 rw[ew];omega
theorem Qfb{P:Nat}{m:List Int}(h:Q15 P m):Q3x m=P:=by
 obtain⟨h1,h2,h3,_⟩:=h
 simp only[Q3x,Qpb,Tree.m]
 have e:(m.length:Int)=32*P:=by omega
 rw[e]
 have e1:(dA (32*(P:Int)) 32 !=0)=false:=by simp [gW]
 have e2:decide ((32*(P:Int))>1024)=false:=dN (by omega)
 rw[e1,e2]
 simp only[cond_false]
 rw[gX _ (by decide),wrap_i64];omega
theorem Qmd{P:Nat}{m:List Int}(h:Q15 P m){f:Int}(hf:U f):Q2c m f=decide (f<P):=by
 have:=Qfb h
 obtain⟨h1,h2⟩:=hf
 have h3:=h.p2
 simp only[Q2c,Qif,Tree.m,letv,this]
 congr 1
 rw[wrap_u64,wrap_u64,dI h1 (by omega),dI (by omega) (by omega)]
theorem xaO{P:Nat}{m:List Int}(h:Q15 P m):(Qeg m).w (λr=>r=m):=by
 obtain⟨h1,h2,h3,_⟩:=h
 unfold Qeg
 refine w_cn ?_ ?_
 . simp [bT,D.plain];omega
 . show _=_
   simp
theorem put_w{P:Nat}{m:List Int}(h:Q15 P m){addr size v:Int}(ha:U addr)(hl:addr<4*m.length)(hv:U v):(Qeo m addr size v).w (Q15 P):=by
 obtain⟨h1,h2,h3,h4⟩:=h
 obtain⟨a1,a2⟩:=ha
 have e:wrap u32 (eQ addr 4)=addr/4:=by rw[wrap_u32,eR a1];omega
 have hc:(bS 1 1&&bT 0 1&&decide (0<=wrap u32 (eQ addr 4)/\wrap u32 (eQ addr 4)<(m.length:Int)))=true:=by
   rw[e];simp [bT];omega
 have h0: ∀x,decide (0<=wrap u32 x)=true:=λx=>dY (Q0v x).1
 have hs: ∀i v,U v->Q15 P (m.set i v):=λi v hv=>⟨by simp [h1],h2,h3,Z4p h4 hv i⟩
 unfold Qeo
 exact w_br (λ_=>w_cn hc (hs _ _ hv)) (λ_=>w_cn hc (w_cn (h0 _) (w_cn (h0 _) (w_cn hc (hs _ _ (U_or _ _))))))
theorem y9{P:Nat}{m:List Int}(h:Q15 P m){frame:Int}(f0:0<=frame)(f1:frame<P)(s:List UInt8):(Q99 m frame s).w (Q15 P):=by
 unfold Q99
 have h3:=h.p2
 refine w_lp (inv:=λz=>0<=z.1/\z.1<=128/\Q15 P z.2) (μ:=Qir m frame s) ⟨by omega,by omega,h⟩ (cK _) (λv0 hv0=> ?_)
 obtain⟨i0,i1,hm⟩:=hv0
 refine w_br (λh1=>w_br (λh2=>w_cn ?_ ?_) (λ_=>hm)) (λ_=>hm)
 . have:=oY h1
   simp [bT];omega
 . have h2:=oY h2
   have e:wrap u32 (wrap i64 (wrap i64 (frame*128)+v0.1))=frame*128+v0.1:=by
     rw[wrap_u32,wrap_i64,wrap_i64];omega
   rw[e]
   obtain⟨g1,g2⟩:=Tree.pp (put_w hm (size:=1) (addr:=frame*128+v0.1) ⟨by omega,by omega⟩ (by rw[hm.len];omega) (Q0v (UInt8.toNat (s.getD v0.1.toNat 0))))
   refine w_an g1 (w_lv λx0 hx0=> ?_)
   rw[hx0]
   have ew:i64.wrap (v0.1+1)=v0.1+1:=by rw[wrap_i64];omega
   refine w_nx ?_
   show(0<=i64.wrap (v0.1+1)/\i64.wrap (v0.1+1)<=128/\Q15 P _)/\(128-i64.wrap (v0.1+1)).toNat<(128-v0.1).toNat
   rw[ew]
   exact⟨⟨by omega,by omega,g2⟩,by omega⟩
theorem vU{P:Nat}{m:List Int}(h:Q15 P m){d:Q0f}(hd:Q91 d)(e:Q0a):(Q6o d m e).w (λr=>Q91 r.1/\Q15 P r.2.2):=by
 have fl:Q2c m d.B3=true->(Q99 m (i64.wrap d.B3) e.C9).w (Q15 P):=λhp=>by
   rw[Qmd h hd.opFrame]at hp
   have:=oY hp
   have h1:=hd.opFrame.1
   have h3:=h.p2
   have ew:i64.wrap d.B3=d.B3:=by rw[wrap_i64];omega
   rw[ew]
   exact y9 h h1 this _
 have l0:Q91 d/\Q15 P m:=⟨hd,h⟩
 have l1: ∀st,Q91 {Blocks:=d.Blocks,C2:=d.C2,Frame:=d.Frame,C0:=st,D8:=0,B7:=0,B3:=0,C4:=[]}:=λst=>⟨hd.block,hd.frame,U_0,U_0⟩
 unfold Q6o
 repeat'(first
   |exact l0
   |exact⟨l1 _,h⟩
   |refine w_br (λ_=> ?_) (λ_=> ?_)
   |refine w_lv (λ_ _=> ?_))
 all_goals(
   first
     | (have hp:Q2c m d.B3=true:=by simp_all
        obtain⟨g1,g2⟩:=Tree.pp (fl hp)
        refine w_an g1 (w_lv λx hx=> ?_)
        rw[hx]
        exact w_br (λ_=>⟨l1 _,g2⟩) (λ_=>⟨l1 _,g2⟩))
     |(exfalso;simp_all;done))
section
variable {c:Q05} (h:Q2r c)
include h
theorem Z2u(k:Int){b:Int}(hb:U b):Q2r (Q2y c k b):=by
 refine(Tree.post (Qjj c k b) (W:=Q2r) ?_)
 unfold Qjj
 refine w_lv λ_ _=>w_lv λ_ _=>⟨h.x,h.a1,?_⟩
 intro w hw
 simp only[A8.l,cN,cO,or_false]at hw
 rcases hw with rfl|rfl|rfl|rfl|rfl|rfl|rfl|rfl
 . exact U_or _ _
 . exact h.a1
 . exact h.pc
 . exact Q0v _
 . exact hb
 . exact h.a5
 . exact h.a6
 . exact h.a7
theorem xV:Q2r (Qhz c):=by
 refine(Tree.post (Qde c) (W:=Q2r) ?_)
 unfold Qde
 refine w_lv λ_ _=>w_lv λ_ _=>⟨h.x,h.a2,?_⟩
 intro w hw
 simp only[A8.l,cN,cO,or_false]at hw
 rcases hw with rfl|rfl|rfl|rfl|rfl|rfl|rfl|rfl
 . exact U_or _ _
 . exact h.a1
 . exact h.a2
 . exact h.a3
 . exact h.a4
 . exact h.a5
 . exact h.a6
 . exact h.a7
theorem Zc1(r:Int){v:Int}(hv:U v):(Qef c r v).w Q2r:=by
 unfold Qef
 refine w_br (λh1=>w_br (λh2=>w_cn ?_ ⟨Zhn h.x hv _,h.pc,h.csr⟩) (λ_=>h)) (λ_=>h)
 have h1:=oY h1
 have h2:=oY h2
 simp [bT];omega
theorem qaA(k:Int){v:Int}(hv:U v):(Qd c k v).w Q2r:=by
 have ok: ∀i v,U v->Q2r {X:=c.X,Pc:=c.Pc,B5:=A8.of 0 (dC (A8.l c.B5) i v)}:=λi v hv=>⟨h.x,h.pc,Zg3 h.csr hv i⟩
 unfold Qd
 repeat'(first
   |exact h
   |exact ok _ _ (Q0v _)
   |exact ok _ _ hv
   |refine w_br (λhk=> ?_) (λ_=> ?_)
   |refine w_cn (by rw[eq_of_beq (by assumption:(k==_)=true)];decide) ?_)
end
section
variable {P:Nat} {m:List Int} (h:Q15 P m)
include h
theorem Zc7(a:Int){size:Int}(hs:size=1\/size=4):(Q84 m a size).w (λb=>b=true->a<128*P):=by
 have hp:=Qfb h
 have h2:=h.p2
 have e:decide (wrap u32 size≠0)=true:=by rcases hs with rfl|rfl<;>decide
 have l: ∀x,x=Q3x m->decide (a<wrap u32 (wrap i64 (128*x)))=true->a<128*P:=λx hx hd=>by
   rw[hx,hp,wrap_u32,wrap_i64]at hd
   have:=oY hd
   omega
 unfold Q84
 refine w_br (λ_=>w_br (λ_=>λh=>by cases h) (λ_=> ?_)) (λ_=> ?_)<;>
 exact w_cn e (w_br (λ_=>w_lv λx hx=>l x hx) (λ_=>λh=>by cases h))
theorem idx{a:Int}(ha:U a)(hl:a<128*P):(bS 1 1&&bT 0 1&&decide (0<=wrap u32 (eQ a 4)/\wrap u32 (eQ a 4)<(m.length:Int)))=true:=by
 obtain⟨a1,a2⟩:=ha
 have e:wrap u32 (eQ a 4)=a/4:=by rw[wrap_u32,eR a1];omega
 have:=h.len
 rw[e];simp [bT];omega
theorem Ze7{a:Int}(ha:U a){size:Int}(hs:size=1\/size=4):(Q40 m a size).w (λr=>U r.1):=by
 obtain⟨g1,g2⟩:=Tree.pp (Zc7 h a hs)
 unfold Q40
 refine w_an g1 (w_lv λx hx=>w_br (λ_=>U_0) (λhb=> ?_))
 have hb:x=true:=by simpa using hb
 have hl:=g2 (hx.symm.trans hb)
 refine w_cn (idx h ha hl) (w_br (λ_=>w_cn (dY (Q0v _).1) (Q0v _)) (λ_=>Qkv h.u _))
theorem qaP{a:Int}(ha:U a)(access:Int):(Qeu m a access).w (Q15 P):=by
 obtain⟨g1,g2⟩:=Tree.pp (Zc7 h a (size:=4) (.inr rfl))
 have hs: ∀{m:List Int} i v,Q15 P m->U v->Q15 P (m.set i v):=λi v h hv=>⟨by simp [h.len],h.p1,h.p2,Z4p h.u hv i⟩
 unfold Qeu
 refine w_an g1 (w_lv λx hx=>w_br (λ_=>h) (λhb=> ?_))
 have hb:x=true:=by simpa using hb
 have hl:=g2 (hx.symm.trans hb)
 have i0:=idx h ha hl
 have h':=hs (Int.toNat (wrap u32 (eQ a 4))) (ior u32 (m.getD (Int.toNat (wrap u32 (eQ a 4))) 0) 8) h (U_or _ _)
 have i1:=idx h' ha hl
 exact w_cn i0 (w_cn i0 (w_br (λ_=>w_cn i1 (w_cn i1 (hs _ _ h' (U_or _ _)))) (λ_=>h')))
theorem qaa{root va:Int}(hr:U root)(hv:U va)(access:Int):(Qa1 m root va access).w (λt=>U t.Addr/\U t.F3/\(t.F0=0->t.Addr<128*P)):=by
 have hp:=Qfb h
 have h2:=h.p2
 have hlen:=h.len
 obtain⟨r1,r2⟩:=hr
 obtain⟨v1,v2⟩:=hv
 unfold Qa1
 refine w_lv λx0 hx0=>w_lv λx1 hx1=>w_lv λx2 _=> ?_
 have hc:x0≠0:=by
   rw[hx0]
   simp only[Q29,Q8w,Tree.m]
   cases access==1<;>cases access==3<;>simp
 rw[hp]at hx1
 have bad:U (0:Int)/\U (0:Int)/\(x0=0->(0:Int)<128*P):=⟨U_0,U_0,λe=>absurd e hc⟩
 refine w_br (λ_=>bad) (λ_=>w_br (λ_=>bad) (λhva=>w_br (λ_=>bad) (λhro=> ?_)))
 have hva:=oN hva
 have hro:=oN hro
 have e1:wrap u32 x1=P:=by rw[hx1,wrap_u32];omega
 rw[e1]at hro
 have e2:wrap u32 (wrap u32 (root*128)+wrap u32 (4*wrap u32 (eQ va 128)))=root*128+4*(va/128):=by
   rw[eR v1,wrap_u32,wrap_u32,wrap_u32,wrap_u32];omega
 have hU:U (wrap u32 (wrap u32 (root*128)+wrap u32 (4*wrap u32 (eQ va 128)))):=Q0v _
 have ci:=idx h hU (by rw[e2];omega)
 have good: ∀w:Int,decide (iand u32 w 255>=wrap u32 x1)=false->(U (wrap u32 (wrap u32 (iand u32 w 255*128)+dA va 128))/\U (wrap u32 (wrap u32 (root*128)+wrap u32 (4*wrap u32 (eQ va 128))))/\((0:Int)=0->wrap u32 (wrap u32 (iand u32 w 255*128)+dA va 128)<128*P)):=λw hw=>by
   have hw:=oN hw
   rw[e1]at hw
   have hn:=(Zj6 w 255).1
   refine⟨Q0v _,Q0v _,λ_=> ?_⟩
   rw[Int.tmod_eq_emod_of_nonneg v1,wrap_u32,wrap_u32]
   generalize iand u32 w 255=q at*
   omega
 refine w_cn ci ?_
 repeat'(first
   |exact bad
   |exact good _ (by assumption)
   |refine w_br (λ_=> ?_) (λ_=> ?_)
   |refine w_cn ci ?_)
theorem Zah{c:Q05}(hc:Q2r c){va:Int}(hv:U va){size:Int}(hs:size=1\/size=4)(access:Int):(Q8 c m va size access).w (λr=>Q15 P r.2.2/\U r.1/\(r.2.1=0->r.1<128*P)):=by
 have e:decide (wrap u32 size≠0)=true:=by rcases hs with rfl|rfl<;>decide
 obtain⟨g1,g2⟩:=Tree.pp (Zc7 h va hs)
 obtain⟨k1,k2⟩:=Tree.pp (qaa h hc.a6 hv access)
 have bad: ∀k:Int,k≠0->Q15 P m/\U (0:Int)/\(k=0->(0:Int)<128*P):=λk hk=>⟨h,U_0,λe=>absurd e hk⟩
 have hca:Q29 access≠0:=by
   simp only[Q29,Q8w,Tree.m]
   cases access==1<;>cases access==3<;>simp
 unfold Q8
 refine w_lv λx0 _=>w_br (λ_=>bad 5 (by decide)) (λ_=>w_br (λh1=>w_br (λh2=> ?_) (λ_=> ?_)) (λ_=> ?_))
 . exact bad 5 (by decide)
 all_goals(
   refine w_cn e (w_br (λ_=>bad 3 (by decide)) (λ_=>w_lv λx1 _=>w_br (λ_=>w_an g1 (w_lv λx2 hx2=>w_br (λ_=>w_lv λx3 hx3=>bad x3 (by rw[hx3];exact hca)) (λhb=> ?_))) (λ_=>w_an k1 (w_lv λx4 hx4=>w_br (λhb=> ?_) (λhb=> ?_)))))
   . have hb:x2=true:=by simpa using hb
     exact⟨h,hv,λ_=>g2 (hx2.symm.trans hb)⟩
   . exact bad _ (by simpa using hb)
   . obtain⟨t1,t2,t3⟩:=k2
     rw[show(Qa1 m c.B5.a6 va access).m=x4 from hx4.symm]at t1 t2 t3
     obtain⟨m1,m2⟩:=Tree.pp (qaP h t2 access)
     refine w_an m1 (w_lv λx5 hx5=> ?_)
     exact⟨hx5▸m2,t1,λ_=>t3 (by simpa using hb)⟩)
end
theorem vw{r:Int}(h:Q80 r=true):0<=r/\r<16:=by
 simp only[Q80,Qda,Tree.m]at h
 cases h1:decide (r>=0)<;>rw[h1]at h
 . cases h
 . have h1:=oY h1
   have h:=oY h
   omega
theorem zV{i:Q0m}(hi:wrap .i64 i.Imm=i.Imm)(h:Q7x i=true):Qfk i:=by
 have no:false=true->Qfk i:=λh=>by cases h
 refine(Tree.post (Qfn i) (W:=λb=>b=true->Qfk i) ?_) h
 unfold Qfn
 refine w_lv λx0 h0=>w_br (λ_=>no) (λ_=>w_lv λx1 h1=>w_br (λ_=>no) (λb1=>w_lv λx2 h2=>w_br (λ_=>no) (λb2=>w_lv λx3 h3=>w_br (λ_=>no) (λb3=>w_lv λx4 h4=>w_br (λ_=>no) (λb4=>w_br (λ_=>no) (λb5=> ?_))))))
 have b1:x1=true:=by simpa using b1
 have b2:x2=true:=by simpa using b2
 have b3:x3=true:=by simpa using b3
 have b4:=oN b4
 have b5:=oN b5
 rw[hi]at b4 b5
 have ok:Qfk i:=⟨vw (h1.symm.trans b1),vw (h2.symm.trans b2),vw (h3.symm.trans b3),λe=>by
   rw[e]at h0
   have h0:x0=8:=h0
   subst h0
   have h4:x4=(0,7):=h4
   subst h4
   simp at b4 b5;omega⟩
 repeat'(first
   |exact λ_=>ok
   |exact no
   |refine w_br (λ_=> ?_) (λ_=> ?_))
theorem Zkh(w:Int):(Q6x w).w (λr=>r.2=true->Qfk r.1):=by
 have no: ∀{p:Prop},false=true->p:=λh=>by cases h
 have e: ∀x,wrap .i64 (wrap .i32 x)=wrap .i32 x:=λx=>by rw[wrap_i64,wrap_i32];omega
 have ok: ∀i,wrap .i64 i.Imm=i.Imm-> ∀x,x=Q7x i->(!x)=false->true=true->Qfk i:=λi hi x hx hb _=>zV hi (hx.symm.trans (by simpa using hb))
 unfold Q6x
 refine w_lv λx0 _=> ?_
 have l: ∀i,wrap .i64 i.Imm=i.Imm->(Tree.lv (Q7x i) λx=> .br (!x) (.lf ((⟨0,0,0,0,0⟩:Q0m),false)) (.lf (i,true))).w (λr=>r.2=true->Qfk r.1):=λi hi=>w_lv λx hx=>w_br (λ_=>no) (λhb=>ok i hi x hx hb)
 refine w_br (λ_=>no) (λ_=>w_br (λ_=>l _ rfl) (λ_=>w_br (λ_=>l _ (e _)) (λ_=>w_br (λ_=>l _ (e _)) (λ_=>l _ (e _)))))
theorem bit_w(b:Bool):U (Qc b):=by cases b<;>exact⟨by decide,by decide⟩
theorem Zl1{a b:Int}(ha:U a)(hb:U b):(Qa9 a b).w (λr=>U r.1/\U r.2):=by
 unfold Qa9
 refine w_br (λ_=>⟨⟨by omega,by omega⟩,ha⟩) (λh=> ?_)
 have h: ¬b=0:=by simpa using h
 obtain⟨b1,b2⟩:=hb
 have hc:decide (wrap i64 (wrap i32 b)≠0)=true:=dY (by rw[wrap_i64,wrap_i32];omega)
 exact w_cn hc (w_cn hc ⟨Q0v _,Q0v _⟩)
theorem alu_w(op:Int){a b:Int}(ha:U a)(hb:U b):(Qlg op a b).w (λr=>U r.1):=by
 unfold Qlg
 refine w_lv λx0 _=> ?_
 repeat'(first
   |exact Q0v _
   |exact Qvj ha _
   |exact U_0
   |refine w_br (λ_=> ?_) (λ_=> ?_)
   |exact Q0h (Zl1 ha hb) λx hx=>hx.1
   |exact Q0h (Zl1 ha hb) λx hx=>hx.2
   |exact w_lv λx hx=>(by rw[hx];exact bit_w _))
theorem qx{x:Int}(hx:U x):(Q7n x 8).w U:=by
 unfold Q7n
 have h0:decide (0<=wrap u64 8)=true:=by decide
 refine w_br (λh=>absurd h (by decide)) λ_=>w_br (λh=>absurd h (by decide)) λ_=>w_cn h0 (w_cn (by decide) (w_br (λ_=>w_cn h0 (U_or _ _)) (λ_=>Zj6 _ _)))
section
variable {c:Q05} (h:Q2r c) {i:Q0m} (hi:Qfk i)
include h hi
theorem yV:(Q8a c i).w (λr=>Q2r r.1/\U r.2.Value):=by
 unfold Q8a
 refine w_br (λ_=>w_lv λx hx=>⟨hx▸Z2u h _ U_0,U_0⟩) (λ_=>w_br (λ_=>w_lv λx hx=>⟨hx▸xV h,U_0⟩) (λ_=>w_br (λe=>w_cn ?_ (Q0h (Zc1 h _ (h.a _)) λx hx=>⟨hx.pcs (Q0v _),U_0⟩)) (λ_=>w_br (λ_=>w_cn (rc hi.a) (Q0h (qaA h _ (h.r _)) λx hx=>⟨hx.pcs (Q0v _),U_0⟩)) (λ_=> ?_))))
 . have:=hi.csr (by simpa using e)
   simp [bT];omega
 . have k:=h.pcs (Q0v (c.Pc+4))
   repeat'(first
     |exact⟨k,U_0⟩
     |exact⟨k,h.r _⟩
     |refine w_br (λ_=> ?_) (λ_=> ?_)
     |refine w_cn (rc hi.a) ?_)
theorem zaP:(Qjd c i).w Q2r:=by
 unfold Qjd
 exact w_br (λ_=>Q0h (Zc1 h _ (Q0v _)) λx hx=>hx.pcs (Q0v _)) (λ_=>w_br (λ_=>w_cn (rc hi.b) (Q0h (Zc1 h _ (Q0v _)) λx hx=>hx.pcs (Q0v _))) (λ_=>w_cn (rc hi.a) (w_cn (rc hi.b) (w_lv λx _=>w_br (λ_=>h.pcs (Q0v _)) (λ_=>h.pcs (Q0v _))))))
theorem Zmb{P:Nat}{m:List Int}(hm:Q15 P m):(Qa c m i).w (λr=>Q2r r.1/\Q15 P r.2):=by
  unfold Qa
  refine w_cn (rc hi.b) ?_
  have e1:(1:Int)=1\/(1:Int)=4:= .inl rfl
  have e4:(4:Int)=1\/(4:Int)=4:= .inr rfl
  repeat'(first
    |refine w_br (λ_=> ?_) (λ_=> ?_)
    | (refine Q0h (Zah hm h (Q0v _) e4 _) λx hx=> ?_
       obtain⟨m1,m2,m3⟩:=hx
       refine w_br (λ_=>w_lv λy hy=>⟨hy▸Z2u h _ (Q0v _),m1⟩) (λhb=> ?_)
       have m3:=m3 (by simpa using hb)
       have m4:x.1<4*x.2.2.length:=by rw[m1.len];omega
       clear hb)
    | (refine Q0h (Zah hm h (Q0v _) e1 _) λx hx=> ?_
       obtain⟨m1,m2,m3⟩:=hx
       refine w_br (λ_=>w_lv λy hy=>⟨hy▸Z2u h _ (Q0v _),m1⟩) (λhb=> ?_)
       have m3:=m3 (by simpa using hb)
       have m4:x.1<4*x.2.2.length:=by rw[m1.len];omega
       clear hb)
    |exact w_cn (rc hi.a) (Q0h (put_w (by assumption) (by assumption) (by assumption) (h.r _)) λy hy=>⟨h.pcs (Q0v _),hy⟩)
    |(refine Q0h (Ze7 (by assumption) (by assumption) e4) λy hy=> ?_)
    |(refine Q0h (Ze7 (by assumption) (by assumption) e1) λy hy=> ?_)
    |exact Q0h (qx (by assumption)) λz hz=>Q0h (Zc1 h _ hz) λu hu=>⟨hu.pcs (Q0v _),by assumption⟩
    |exact Q0h (Zc1 h _ (by assumption)) λu hu=>⟨hu.pcs (Q0v _),by assumption⟩)
end
theorem do_w{c:Q05}(h:Q2r c){P:Nat}{m:List Int}(hm:Q15 P m):(Qo4 c m).w (λr=>Q2r r.1/\U r.2.1.Value/\Q15 P r.2.2):=by
 unfold Qo4
 refine Q0h (Zah hm h h.pc (.inr rfl) 1) λx0 hx=> ?_
 obtain⟨m1,m2,m3⟩:=hx
 refine w_br (λ_=>w_lv λy hy=>⟨hy▸Z2u h _ h.pc,U_0,m1⟩) (λhb=> ?_)
 refine Q0h (Ze7 m1 m2 (.inr rfl)) λx2 h2=>Zll (Zkh _) λx3 h3=>w_br (λ_=>w_lv λy hy=>⟨hy▸Z2u h _ h2,U_0,m1⟩) (λb3=> ?_)
 have hi:=h3 (by simpa using b3)
 refine w_lv λx5 _=> ?_
 repeat'(first
   |refine w_br (λ_=> ?_) (λ_=> ?_)
   |exact w_lv λy hy=>⟨hy▸Z2u h _ h2,U_0,m1⟩
   |exact Q0h (yV h hi) λy hy=>⟨hy.1,hy.2,m1⟩
   |exact Q0h (zaP h hi) λy hy=>⟨hy,U_0,m1⟩
   |exact Q0h (Zmb h hi m1) λy hy=>⟨hy.1,U_0,hy.2⟩
   |exact Q0h (Zc1 h _ (Q0v _)) λy hy=>⟨hy.pcs (Q0v _),U_0,m1⟩
   |refine w_cn (rc hi.c) ?_
   |refine w_cn (rc hi.b) ?_
   |exact Q0h (alu_w _ (h.r _) (h.r _)) λy hy=>Q0h (Zc1 h _ hy) λz hz=>⟨hz.pcs (Q0v _),U_0,m1⟩
   |exact Q0h (alu_w _ (h.r _) (Q0v _)) λy hy=>Q0h (Zc1 h _ hy) λz hz=>⟨hz.pcs (Q0v _),U_0,m1⟩)
theorem and1{q:Int}(h:U q):iand .u32 q 1=q%2:=by
 obtain⟨h1,h2⟩:=h
 unfold iand
 rw[wrap_u32]
 have e1:(dS 32 q).toNat=q.toNat:=by rw[BitVec.toNat_ofInt];omega
 have e2:(dS 32 1).toNat=1:=by decide
 have:(dS u32.bits q&&&dS u32.bits 1).toNat=q.toNat%2:=by
   show(dS 32 q&&&dS 32 1).toNat=_
   rw[dV,e1,e2,Nat.and_one_is_mod]
 rw[this];omega
theorem Zg5(b:Bool)(n:Int):(Qit b n).w (λ_=>True):=by
 unfold Qit
 exact w_br (λ_=>w_cn (dY (by rw[wrap_u64];omega)) trivial) (λ_=>trivial)
theorem zaA(m:Q00):(Qg1 m).w (λ_=>True):=by
 unfold Qg1
 exact w_lv λ_ _=>Q0h (Zg5 _ _) λ_ _=>w_lv λ_ _=>Q0h (Zg5 _ _) λ_ _=>w_lv λ_ _=>Q0h (Zg5 _ _) λ_ _=>w_lv λ_ _=>Q0h (Zg5 _ _) λ_ _=>w_lv λ_ _=>Q0h (Zg5 _ _) λ_ _=>trivial
theorem Zdm(m:Q00):(Q8q m).w U:=by
 unfold Q8q
 exact Q0h (zaA m) λ_ _=>Zj6 _ _
theorem xaP(m:Q00):(Qel m).w (λ_=>True):=by
 unfold Qel
 exact w_br (λ_=>Q0h (Zdm m) λ_ _=>trivial) (λ_=>trivial)
theorem Qt1{m:Q00}(h:Q2r m.B1):(Q4r m).w Q2r:=by
 unfold Q4r
 refine Q0h (Zdm m) λx0 hx=>w_br (λ_=>h) (λ_=>w_br (λ_=>h) (λhb=> ?_))
 have hb:x0≠0:=by simpa using hb
 have sh: ∀z:Int,0<=z->z<=31->ishr .u32 x0 (wrap .u64 z)=x0/2^z.toNat:=λz h1 h2=>by
   unfold ishr
   have e:min (wrap .u64 z).toNat u32.bits=z.toNat:=by
     show min (wrap .u64 z).toNat 32=z.toNat
     rw[wrap_u64];omega
   rw[e,dK _ (dL (dJ (by decide)))]
 refine w_lp (inv:=λz=>0<=z/\z<=31/\x0/2^z.toNat≠0) (μ:=Qec m) ⟨by omega,by omega,by simpa using hb⟩ (cK _) (λz hz=> ?_)
 obtain⟨z1,z2,z3⟩:=hz
 refine w_cn (dY (by rw[wrap_u64];omega)) (w_br (λe=>w_nx ?_) (λ_=>w_lv λy hy=>hy▸Z2u h _ U_0))
 have e:=eq_of_beq e
 have hq:=Qvj hx (wrap .u64 z)
 rw[and1 hq,sh z z1 z2]at e
 rw[sh z z1 z2]at hq
 have hlt:x0/2^z.toNat/2≠0:=by omega
 have z4:z<=30:=by
   rcases Int.lt_or_le z 31 with h|h
   . omega
   . have:z=31:=by omega
     subst this
     have:=hx.2
     have:=hx.1
     simp at z3 e hlt
     omega
 show(0<=i64.wrap (z+1)/\i64.wrap (z+1)<=31/\x0/2^(i64.wrap (z+1)).toNat≠0)/\(32-i64.wrap (z+1)).toNat<(32-z).toNat
 have ew:i64.wrap (z+1)=z+1:=by rw[wrap_i64];omega
 rw[ew]
 refine⟨⟨by omega,by omega,?_⟩,by omega⟩
 have et:(z+1).toNat=z.toNat+1:=by omega
 rw[et,Int.pow_succ,<-Int.ediv_ediv_of_nonneg (dL (dJ (by decide)))]
 exact hlt
theorem xaA{P:Nat}{m:Q00}(h:Q2r m.B1)(hm:Q15 P m.Mem):(Qg4 m).w (λ_=>True):=by
 unfold Qg4
 refine Q0h (Qt1 h) λx0 hx=>w_br (λ_=>trivial) (λ_=>Q0h (Ze7 hm hx.pc (.inr rfl)) λx1 _=>w_lv λx2 _=> ?_)
 exact w_br (λ_=>w_br (λ_=>w_br (λ_=>trivial) (λ_=>trivial)) (λ_=>trivial)) (λ_=>trivial)
theorem Qim(l:List Int):(bytesOf l).length=l.length:=by simp [bytesOf]
theorem Qpp(l:List UInt8):(Qb8 l).length=l.length:=by simp [Qb8]
theorem low_w(x:Int):(Qhj x 4).w (λr=>r.length=4):=by
 unfold Qhj
 refine w_lp (inv:=λz=>0<=z.1/\z.1<=4/\(z.2.length:Int)=z.1) (μ:=Qf6 x 4) ⟨by omega,by omega,rfl⟩ (cK _) (λz hz=> ?_)
 obtain⟨z1,z2,z3⟩:=hz
 refine w_br (λh=>w_cn (dY (by rw[wrap_u64];omega)) (w_cn (dY (by omega)) (w_nx ?_))) (λh=> ?_)
 . have h:=oY h
   show(0<=i64.wrap (z.1+1)/\i64.wrap (z.1+1)<=4/\((z.2++[_]).length:Int)=i64.wrap (z.1+1))/\(4-i64.wrap (z.1+1)).toNat<(4-z.1).toNat
   have ew:i64.wrap (z.1+1)=z.1+1:=by rw[wrap_i64];omega
   rw[ew]
   refine⟨⟨by omega,by omega,by simp;omega⟩,by omega⟩
 . have h:=oN h
   show(bytesOf z.2).length=4
   rw[Qim];omega
theorem zaa{P:Nat}{m:List Int}(hm:Q15 P m)(frame:Int):(Q98 m frame).w (λr=>0<=frame->frame<P->r.1.length=128):=by
 have hp:=Qfb hm
 have hl:=hm.len
 have h2:=hm.p2
 unfold Q98
 refine w_br (λh=>λh0 _=>by have:=oY h;omega) (λh=>w_lv λx0 hx=>w_br (λh1=>λ_ h2=>by have:=oY h1;rw[hx,hp]at this;omega) (λh1=> ?_))
 have h:=oN h
 have h1:=oN h1
 rw[hx,hp]at h1
 refine w_lp (inv:=λz=>0<=z.1/\z.1<=32/\(z.2.length:Int)=4*z.1) (μ:=Qin m frame) ⟨by omega,by omega,rfl⟩ (cK _) (λz hz=> ?_)
 obtain⟨z1,z2,z3⟩:=hz
 refine w_br (λhb=> ?_) (λhb=> ?_)
 . have hb:=oY hb
   have e:wrap i64 (wrap i64 (frame*32)+z.1)=frame*32+z.1:=by rw[wrap_i64,wrap_i64];omega
   refine w_cn (by rw[e];simp [bT];omega) (w_an (show(4:Int)<=1000000000000 by decide) (Zll (low_w _) λx1 h4=>w_cn (dY (by rw[Qpp,h4];omega)) (w_nx ?_)))
   show(0<=i64.wrap (z.1+1)/\i64.wrap (z.1+1)<=32/\((z.2++Qb8 x1).length:Int)=4*i64.wrap (z.1+1))/\(32-i64.wrap (z.1+1)).toNat<(32-z.1).toNat
   have ew:i64.wrap (z.1+1)=z.1+1:=by rw[wrap_i64];omega
   rw[ew,lA,Qpp,h4]
   exact⟨⟨by omega,by omega,by omega⟩,by omega⟩
 . have hb:=oN hb
   intro _ _
   show(bytesOf z.2).length=128
   rw[Qim];omega
theorem xx{P:Nat}{m:List Int}(hm:Q15 P m){d:Q0f}(hd:Q91 d)(port:Int){v:Int}(hv:U v)(at0:Int):(Q8u d m port v at0).w (λr=>Q91 r.1/\r.2.length<=1):=by
 have k: ∀st,Q91 {Blocks:=d.Blocks,C2:=d.C2,Frame:=d.Frame,C0:=st,D8:=d.D8,B7:=d.B7,B3:=d.B3,C4:=d.C4}:=λst=>⟨hd.block,hd.frame,hd.opBlock,hd.opFrame⟩
 have k2: ∀c o,Q91 {Blocks:=d.Blocks,C2:=d.C2,Frame:=d.Frame,C0:=1,D8:=c,B7:=d.C2,B3:=d.Frame,C4:=o}:=λc o=>⟨hd.block,hd.frame,hd.block,hd.frame⟩
 have k3:Q91 {Blocks:=d.Blocks,C2:=v,Frame:=d.Frame,C0:=d.C0,D8:=d.D8,B7:=d.B7,B3:=d.B3,C4:=d.C4}:=⟨hv,hd.frame,hd.opBlock,hd.opFrame⟩
 have k4:Q91 {Blocks:=d.Blocks,C2:=d.C2,Frame:=v,C0:=d.C0,D8:=d.D8,B7:=d.B7,B3:=d.B3,C4:=d.C4}:=⟨hd.block,hv,hd.opBlock,hd.opFrame⟩
 unfold Q8u
 repeat'(first
   |refine w_br (λ_=> ?_) (λ_=> ?_)
   |exact Q0h (zaa hm _) λ_ _=>w_lv λ_ _=>⟨k2 _ _,aO _⟩
   |refine w_lv (λ_ _=> ?_)
   |refine w_lf ?_)
 all_goals(first
   |exact⟨hd,aT _⟩
   |exact⟨k _,aT _⟩
   |exact⟨k2 _ _,aO _⟩
   |exact⟨k3,aT _⟩
   |exact⟨k4,aT _⟩)
theorem vV{P:Nat}{m:List Int}(hm:Q15 P m){n:Q0q}(hn:Qjm n)(port:Int){v:Int}(hv:U v)(at0:Int):(Qas n m port v at0).w (λr=>Qjm r.1/\r.2.length<=1):=by
 have k1:Qjm {Frame:=v,E0:=n.E0,C7:=n.C7,B9:=n.B9,B8:=n.B8,F1:=n.F1}:=⟨hv,hn.len,hn.buffer,hn.got⟩
 have k2:Qjm {Frame:=n.Frame,E0:=v,C7:=n.C7,B9:=n.B9,B8:=n.B8,F1:=n.F1}:=⟨hn.frame,hv,hn.buffer,hn.got⟩
 have k3:Qjm {Frame:=n.Frame,E0:=n.E0,C7:=n.C7,B9:=n.B9,B8:=false,F1:=0}:=⟨hn.frame,hn.len,hn.buffer,U_0⟩
 have k4: ∀p r,Qjm {Frame:=n.Frame,E0:=n.E0,C7:=p,B9:=n.Frame,B8:=r,F1:=n.F1}:=λp r=>⟨hn.frame,hn.len,hn.frame,hn.got⟩
 have send: ∀K:List UInt8×Bool->Tree (Q0q×List Q04),Q2c m n.Frame=true->(∀x:List UInt8×Bool,x.1.length=128->(K x).w (λr=>Qjm r.1/\r.2.length<=1))->(Tree.an (Qhd m (wrap .i64 n.Frame)) (.lv (Qi7 m (wrap .i64 n.Frame)) K)).w (λr=>Qjm r.1/\r.2.length<=1):=λK hp hK=>by
   rw[Qmd hm hn.frame]at hp
   have hp:=oY hp
   obtain⟨f1,f2⟩:=hn.frame
   have ew:i64.wrap n.Frame=n.Frame:=by rw[wrap_i64];omega
   exact Q0h (zaa hm _) λx hx=>hK x (hx (by rw[ew];exact f1) (by rw[ew];exact hp))
 unfold Qas
 repeat'(first
   |refine w_br (λ_=> ?_) (λ_=> ?_)
   |refine send _ (by simp_all) (λx hx=>w_cn (by simp_all;exact hn.len.1) ?_)
   |refine w_lv (λ_ _=> ?_)
   |refine w_lf ?_)
 all_goals(first
   |exact⟨hn,aT _⟩
   |exact⟨hn,aO _⟩
   |exact⟨k1,aT _⟩
   |exact⟨k2,aT _⟩
   |exact⟨k3,aT _⟩
   |exact⟨k4 _ _,aT _⟩)
def okB(b:Q09):Prop:=U b.D0/\U b.C3
theorem qaQ{P:Nat}{m:List Int}(hm:Q15 P m){b:Q09}(hb:okB b)(port:Int){v:Int}(hv:U v):(Q4y b m port v).w (λr=>okB r.1/\Q15 P r.2):=by
 have hv0:decide (0<=v)=true:=dY hv.1
 have h2:=hm.p2
 have rest:(Tree.br (port==11) (.br (decide (v<32)) (.cn (decide (0<=v)) (.lf (({D0:=b.D0,C3:=Qhc .u32 b.C3 (ishl .u32 1 v)}:Q09),m))) (.lf (b,m))) (.lf (b,m))).w (λr=>okB r.1/\Q15 P r.2):=
   w_br (λ_=>w_br (λ_=>w_cn hv0 ⟨⟨hb.1,Q0v _⟩,hm⟩) (λ_=>⟨hb,hm⟩)) (λ_=>⟨hb,hm⟩)
 unfold Q4y
 refine w_br (λ_=>w_lv λx0 hx=>w_br (λhp=>w_cn hv0 (w_br (λ_=>w_cn hv0 ?_) (λ_=>rest))) (λ_=>rest)) (λ_=>rest)
 have hp:Q2c m v=true:=hx.symm.trans hp
 rw[Qmd hm hv]at hp
 have hp:=oY hp
 obtain⟨v1,v2⟩:=hv
 refine w_lp (inv:=λz=>0<=z.1/\z.1<=32/\Q15 P z.2) (μ:=Qid b m port v) ⟨by omega,by omega,hm⟩ (cK _) (λz hz=> ?_)
 obtain⟨z1,z2,z3⟩:=hz
 have hl:=z3.len
 refine w_br (λh=> ?_) (λ_=>⟨⟨hb.1,Q0v _⟩,z3⟩)
 have h:=oY h
 have e:wrap i64 (wrap i64 (wrap i64 v*32)+z.1)=v*32+z.1:=by rw[wrap_i64,wrap_i64,wrap_i64];omega
 refine w_cn (by rw[e];simp [bT];omega) (w_nx ?_)
 show(0<=i64.wrap (z.1+1)/\i64.wrap (z.1+1)<=32/\Q15 P (dC _ _ _))/\(32-i64.wrap (z.1+1)).toNat<(32-z.1).toNat
 have ew:i64.wrap (z.1+1)=z.1+1:=by rw[wrap_i64];omega
 rw[ew]
 exact⟨⟨by omega,by omega,⟨by simp [hl],z3.p1,z3.p2,Z4p z3.u U_0 _⟩⟩,by omega⟩
structure okM(P:Nat)(m:Q00):Prop where
 cpu:Q2r m.B1
 mem:Q15 P m.Mem
 disk:Q91 m.B2
 nic:Qjm m.C6
 target:okB m.A2
 cnt:0<=m.A1
theorem Zh5(c:Q0d)(port:Int):U (Q74 c port).2:=by
 refine Tree.post (Q3o c port) (W:=λr=>U r.2) ?_
 have u1:U 4294967295:=⟨by omega,by omega⟩
 unfold Q3o
 refine w_br (λ_=>w_br (λ_=>u1) (λh=>w_br (λ_=>w_cn ?_ (w_cn ?_ (Q0v _))) (λ_=>w_br (λ_=>Q0v _) (λ_=>U_0)))) (λh1=>w_br (λh=>(by rw[h1]at h;cases h)) (λ_=>w_br (λ_=>Q0v _) (λ_=>U_0)))
 . have h: ¬(c.D3.length:Int)=0:=by simpa using h
   exact dY ⟨by omega,by omega,by omega⟩
 . have h: ¬(c.D3.length:Int)=0:=by simpa using h
   simp [bT];omega
theorem qaB{n:Q0q}(h:Qjm n)(port:Int):U (Ql6 n port):=by
 refine Tree.post (Qga n port) (W:=U) ?_
 have u1:U 1:=⟨by omega,by omega⟩
 unfold Qga
 exact w_br (λ_=>h.frame) (λ_=>w_br (λ_=>h.got) (λ_=>w_br (λ_=>w_br (λ_=>w_br (λ_=>Q0v _) (λ_=>u1)) (λ_=>w_br (λ_=>Q0v _) (λ_=>U_0))) (λ_=>U_0)))
theorem qW{d:Q0f}(h:Q91 d)(port:Int):U (Qm9 d port):=by
 refine Tree.post (Qh2 d port) (W:=U) ?_
 unfold Qh2
 exact w_br (λ_=>h.block) (λ_=>w_br (λ_=>h.frame) (λ_=>w_br (λ_=>Q0v _) (λ_=>U_0)))
theorem zx(t:Q0i):U (Qk2 t):=by
 refine Tree.post (Qfa t) (W:=U) ?_
 unfold Qfa
 exact w_br (λ_=>⟨by omega,by omega⟩) (λ_=>U_0)
theorem Ziq{b:Q09}(h:U b.D0)(port:Int):U (Q73 b port):=by
 refine Tree.post (Q6c b port) (W:=U) ?_
 unfold Q6c
 exact w_br (λ_=>h) (λ_=>w_br (λ_=>w_lv λ_ _=>Q0v _) (λ_=>U_0))
structure okR(P:Nat)(r:Q01):Prop where
 m:okM P r.A0
 clock:U r.A3
structure okL(P:Nat)(r x:Q01):Prop where
 ok:okR P x
 log:x.B4=r.B4
 queue:x.A6=r.A6
theorem w0(x:Int):0<=u64.wrap x:=by rw[wrap_u64];omega
section
variable {P:Nat} {r:Q01} (h:okR P r)
include h
end
theorem zaQ(c:Q0d)(b:Int):(Qcl c b).w (λ_=>True):=by
 unfold Qcl
 refine w_br (λ_=>trivial) (λh=>w_cn (dY ?_) trivial)
 have h:=oN h
 simp [maxLen];omega
theorem xW{P:Nat}{m:List Int}(hm:Q15 P m){n:Q0q}(hn:Qjm n)(frame:List UInt8):(Q6k n m frame).w (λr=>Qjm r.1/\Q15 P r.2.2):=by
 unfold Q6k
 refine w_br (λ_=>⟨hn,hm⟩) (λ_=>w_br (λ_=>⟨hn,hm⟩) (λ_=>w_br (λ_=>⟨hn,hm⟩) (λ_=>w_lv λx0 hx=>w_br (λ_=>⟨hn,hm⟩) (λhb=> ?_))))
 have hp:Q2c m n.B9=true:=hx.symm.trans (by simpa using hb)
 rw[Qmd hm hn.buffer]at hp
 have hp:=oY hp
 obtain⟨b1,b2⟩:=hn.buffer
 have ew:i64.wrap n.B9=n.B9:=by rw[wrap_i64];omega
 exact Q0h (y9 hm (frame:=i64.wrap n.B9) (by rw[ew];exact b1) (by rw[ew];exact hp) frame) λx hx=>⟨⟨hn.frame,hn.len,U_0,Q0v _⟩,hx⟩
section
variable {P:Nat} {r:Q01} (h:okR P r)
include h
end
theorem yx(n:Int):(Q9b n).w (λe=>U e.N):=by
 have u1:U 1:=⟨by omega,by omega⟩
 have ev40: ∀x y,Qa4 x (wrap .i64 (1+dA y 40)):=λx y=>by
   show wrap .i64 (1+dA y 40)<=1000000000000
   have h1:=Int.tmod_lt_of_pos y (b:=40) (by decide)
   have h2:=Int.lt_tmod_of_pos y (b:=40) (by decide)
   rw[wrap_i64];omega
 unfold Q9b
 refine w_lv λx0 _=> ?_
 repeat'(first
   |exact U_0
   |exact u1
   |exact Q0v _
   |exact w_an (show(128:Int)<=1000000000000 by decide) (w_lv λ_ _=>u1)
   |exact w_an (ev40 _ _) (w_lv λ_ _=>U_0)
   |refine w_br (λ_=> ?_) (λ_=> ?_))

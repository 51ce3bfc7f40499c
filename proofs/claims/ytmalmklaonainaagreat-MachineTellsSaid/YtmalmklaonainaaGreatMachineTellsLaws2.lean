import Derived.Test.YtmalmklaonainaaGreatMachineTellsZx
open List renaming set->dH, mem_cons->cU, not_mem_nil->cV
open Nat renaming blt->bT, beq->bS, lt_succ_self->cO, le_refl->aO, zero_le->aT
open Int renaming pow_pos->dP, le_of_lt->dR, fdiv_eq_ediv_of_nonneg->dQ, tmod->dF, mul_tmod_right->gZ, mul_tdiv_cancel_left->hH, tdiv->eZ, tdiv_eq_ediv_of_nonneg->fA, emod_eq_of_lt->dO, lt_of_lt_of_le->hJ, le_of_eq->hY
open BitVec renaming ofInt->dX, toNat_and->eB
set_option maxRecDepth 100000
set_option linter.all false
namespace Go.Proofs.YtmalmklaonainaaGreat
open Go Go.GD
open Go.IntKind(wrap i64 u32 u64 u8 i32 wrap_i64 wrap_u32 wrap_u64 wrap_u8 wrap_i32)
def U(x:Int):Prop:=0<=x/\x<4294967296
theorem Q0m(x:Int):U (u32.wrap x):=by rw[wrap_u32];unfold U;omega
theorem Qh5(x y:Int):U (iand .u32 x y):=Q0m _
theorem U_or(x y:Int):U (ior .u32 x y):=Q0m _
theorem U_0:U 0:=⟨by omega,by omega⟩
theorem Qzd{m:List Int}(h: ∀w∈m,U w){v:Int}(hv:U v)(i:Nat): ∀w∈m.set i v,U w:=by
 intro w hw
 rcases List.mem_or_eq_of_mem_set hw with h1|h1
 . exact h w h1
 . rw[h1];exact hv
structure Q0x(P:Nat)(m:List Int):Prop where
 len:m.length=32*P
 p1:0<=P
 p2:P<=32
 u: ∀w∈m,U w
structure Q7w(d:Q0d):Prop where
 block:U d.C1
 frame:U d.Frame
 opBlock:U d.B5
 opFrame:U d.B2
structure Qiv(n:Q0n):Prop where
 frame:U n.Frame
 len:U n.D8
 buffer:U n.C0
 got:U n.D9
theorem Qkp{l:List Int}(h: ∀w∈l,U w)(i:Nat):U (l.getD i 0):=by
 by_cases hi:i<l.length
 . have:l.getD i 0=l[i]:=by simp [List.getD,hi]
   rw[this];exact h _ (List.getElem_mem hi)
 . have:l.getD i 0=0:=by simp [List.getD,List.getElem?_eq_none (by omega:l.length<=i)]
   rw[this];exact U_0
structure Q29(c:Q02):Prop where
 x: ∀w∈A16.l c.X,U w
 pc:U c.Pc
 csr: ∀w∈A8.l c.B4,U w
theorem Z9m{X:A16 Int}(h: ∀w∈A16.l X,U w){v:Int}(hv:U v)(i:Nat): ∀w∈A16.l (A16.of 0 (dH (A16.l X) i v)),U w:=by
 have hs:=Qzd h hv i
 intro w hw
 simp only[A16.l,A16.of,cU,cV,or_false]at hw
 repeat(first|(rcases hw with rfl|hw; · exact Qkp hs _)|(subst hw;exact Qkp hs _))
theorem Quo{X:A8 Int}(h: ∀w∈A8.l X,U w){v:Int}(hv:U v)(i:Nat): ∀w∈A8.l (A8.of 0 (dH (A8.l X) i v)),U w:=by
 have hs:=Qzd h hv i
 intro w hw
 simp only[A8.l,A8.of,cU,cV,or_false]at hw
 repeat(first|(rcases hw with rfl|hw; · exact Qkp hs _)|(subst hw;exact Qkp hs _))
section
variable {c:Q02} (h:Q29 c)
include h
theorem Q29.a(i:Nat):U ((A8.l c.B4).getD i 0):=Qkp h.csr i
theorem Q29.r(i:Nat):U ((A16.l c.X).getD i 0):=Qkp h.x i
theorem Q29.a0:U c.B4.a0:=h.a 0
theorem Q29.a1:U c.B4.a1:=h.a 1
theorem Q29.a2:U c.B4.a2:=h.a 2
theorem Q29.a3:U c.B4.a3:=h.a 3
theorem Q29.a4:U c.B4.a4:=h.a 4
theorem Q29.a5:U c.B4.a5:=h.a 5
theorem Q29.a6:U c.B4.a6:=h.a 6
theorem Q29.a7:U c.B4.a7:=h.a 7
theorem Q29.pcs{p:Int}(hp:U p):Q29 {X:=c.X,Pc:=p,B4:=c.B4}:=⟨h.x,hp,h.csr⟩
end
section
variable {α β:Type} {W:β->Prop} {t:Tree α} {Q:α->Prop} {k:α->Tree β}
theorem Q08(hq:t.w Q)(g: ∀x,Q x->(k x).w W):(Tree.an t.p (Tree.lv t.m k)).w W:=⟨(Tree.pp hq).1,λy hy=>g y (by rw[hy];exact(Tree.pp hq).2)⟩
theorem Zeg(hq:t.w Q)(g: ∀x,Q x->(k x).w W):(Tree.lv t.m k).w W:=λy hy=>g y (by rw[hy];exact t.post hq)
end
theorem rc{r:Int}(h:0<=r/\r<16):(bT 0 1&&decide (0<=r/\r<((16:Nat):Int)))=true:=by simp [bT];omega
theorem Qsp{a:Int}(h:U a)(b:Int):U (ishr .u32 a b):=by
 unfold ishr U
 obtain⟨h1,h2⟩:=h
 have hp:(0:Int)<2^(min b.toNat u32.bits):=dP (by decide)
 have:=Int.fdiv_nonneg h1 (dR hp)
 refine⟨this,?_⟩
 rw[dQ _ (dR hp)]
 have h3:=Int.ediv_le_self (2^(min b.toNat u32.bits)) h1
 omega
structure Qfa(i:Q0h):Prop where
 a:0<=i.A/\i.A<16
 b:0<=i.B/\i.B<16
 c:0<=i.C/\i.C<16
 csr:i.Op=58->0<=i.Imm/\i.Imm<8
theorem Z3y{P:Nat}{m:List Int}(h:Q0x P m):Q0q m=P:=by
 obtain⟨h1,h2,h3,_⟩:=h
 simp only[Q0q,Q82,Tree.m]
 have e:(m.length:Int)=32*P:=by omega
 rw[e]
 have e1:(dF (32*(P:Int)) 32 !=0)=false:=by simp [gZ]
 have e2:decide ((32*(P:Int))>1024)=false:=dN (by omega)
 rw[e1,e2]
 simp only[cond_false]
 rw[hH _ (by decide),wrap_i64];omega
theorem zZ(n:Int):(Qay n).w (λ_=>True):=by
 unfold Qay
 exact w_br (λ_=>trivial) (λ_=>w_cn (dY (by rw[wrap_u64];omega)) trivial)
theorem Qvy(w low n:Int):(Q8p w low n).w U:=by
 unfold Q8p
 exact w_br (λ_=>U_0) (λ_=>w_br (λ_=>U_0) (λ_=>w_br (λ_=>U_0) (λ_=>w_cn (dY (by rw[wrap_u64];omega)) (Q08 (zZ n) λ_ _=>Qh5 _ _))))
theorem Zo3{w:Int}(hw:U w)(low n v:Int):(Q8k w low n v).w U:=by
 have h0:decide (0<=wrap u64 low)=true:=dY (by rw[wrap_u64];omega)
 unfold Q8k
 exact w_br (λ_=>hw) (λ_=>w_br (λ_=>hw) (λ_=>w_br (λ_=>hw) (λ_=>Q08 (zZ n) λ_ _=>w_cn h0 (w_cn h0 (U_or _ _)))))
theorem Qvj{x:Int}(hx:U x)(n:Int):(Q6y x n).w U:=by
 have h0: ∀y,decide (0<=wrap u64 y)=true:=λy=>dY (by rw[wrap_u64];omega)
 unfold Q6y
 exact w_br (λ_=>U_0) (λ_=>w_br (λ_=>hx) (λ_=>w_cn (h0 _) (w_cn (h0 _) (Q0m _))))
section
variable {P:Nat} {m:List Int} (h:Q0x P m)
include h
theorem Q9c:Q06 m:=by
 have:=h.len
 have:=h.p2
 show m.length<=35184372088832
 omega
theorem Zf0{a:Int}(ha:U a){size:Int}(hs:size=1\/size=4):(Q2w m a size).w (λb=>b=true->a+size<=128*P):=by
 have hp:=Z3y h
 have h2:=h.p2
 obtain⟨a1,a2⟩:=ha
 have e:decide (wrap u32 size≠0)=true:=by rcases hs with rfl|rfl<;>decide
 have l: ∀x,x=Q0q m->decide (wrap u64 (wrap u64 a+wrap u64 size)<=wrap u64 (wrap u64 x*128))=true->a+size<=128*P:=λx hx hd=>by
   rw[hx,hp]at hd
   have:=oY hd
   simp only[wrap_u64]at this
   omega
 unfold Q2w
 refine w_br (λ_=>w_br (λ_=>λh=>by cases h) (λ_=> ?_)) (λ_=> ?_)<;>
 exact w_cn e (w_br (λ_=>λh=>by cases h) (λ_=>w_lv λx hx=>l x hx))
theorem idxP{a:Int}(ha:U a)(hl:a<128*P):(bS 1 1&&bT 0 1&&decide (0<=wrap u32 (eZ a 4)/\wrap u32 (eZ a 4)<(m.length:Int)))=true:=by
 obtain⟨a1,a2⟩:=ha
 have e:wrap u32 (eZ a 4)=a/4:=by rw[wrap_u32,fA a1];omega
 have:=h.len
 rw[e];simp [bT];omega
theorem Qs0{a:Int}(ha:U a){size:Int}(hs:size=1\/size=4):(Q5x m a size).w (λr=>U r.1/\(r.2=true->a<128*P)):=by
 unfold Q5x
 refine Q08 (Zf0 h ha hs) λx hx=>w_br (λ_=>⟨U_0,λh=>by cases h⟩) (λhb=> ?_)
 have hl:=hx (by simpa using hb)
 have hl:a<128*P:=by omega
 exact w_cn (idxP h ha hl) (w_br (λ_=>Q08 (Qvy _ _ _) λy hy=>⟨hy,λ_=>hl⟩) (λ_=>⟨Qkp h.u _,λ_=>hl⟩))
theorem Z0{a:Int}(ha:U a){size:Int}(hs:size=1\/size=4){v:Int}(hv:U v):(Q7z m a size v).w (λr=>Q0x P r.1):=by
 have st: ∀i v,U v->Q0x P (m.set i v):=λi v hv=>⟨by simp [h.len],h.p1,h.p2,Qzd h.u hv i⟩
 have hcl:Q03 m=m:=rfl
 unfold Q7z
 refine w_an (Q9c h) (w_lv λx0 hx0=> ?_)
 rw[hcl]at hx0;subst hx0
 refine Q08 (Zf0 h ha hs) λx hx=>w_br (λ_=>h) (λhb=> ?_)
 have hl:=hx (by simpa using hb)
 have hl:a<128*P:=by omega
 exact w_br (λ_=>w_cn (idxP h ha hl) (Q08 (Zo3 (Qkp h.u _) _ _ _) λy hy=>w_cn (idxP h ha hl) (st _ _ hy))) (λ_=>w_cn (idxP h ha hl) (st _ _ hv))
end
theorem Zik{r:Int}{used:Bool}(h:Q8y r used=true):0<=r/\r<16:=by
 simp only[Q8y,Qe2,Tree.m]at h
 cases used
 . have h:(r==0)=true:=h
   have:=eq_of_beq h;omega
 . cases h1:decide (r>=0)<;>rw[h1]at h
   . cases h
   . have h1:=oY h1
     have h:=oY h
     omega
theorem zw{i:Q0h}(h:Qee i=true):Qfa i:=by
 have no:false=true->Qfa i:=λh=>by cases h
 refine(Tree.post (Qgy i) (W:=λb=>b=true->Qfa i) ?_) h
 unfold Qgy
 refine w_lv λx0 h0=>w_br (λ_=>w_lv λx1 h1=>w_br (λb1=>w_lv λx2 h2=>w_br (λb2=>w_lv λx3 h3=>w_br (λb3=>w_br (λb4=>λb5=> ?_) (λ_=>no)) (λ_=>no)) (λ_=>no)) (λ_=>no)) (λ_=>no)
 have b4:=oY b4
 have b5:=oY b5
 refine⟨Zik (h1.symm.trans b1),Zik (h2.symm.trans b2),Zik (h3.symm.trans b3),λe=> ?_⟩
 rw[e]at h0
 have h0:x0=({a:=true,b:=false,c:=false,low:=0,D5:=7},true):=h0
 subst h0
 simp at b4 b5;omega
theorem Z1g(w:Int):(Q73 w).w (λr=>r.2=true->Qfa r.1):=by
 have no: ∀{p:Prop},false=true->p:=λh=>by cases h
 have l: ∀i,(Tree.lv (Qee i) λx=> .br (!x) (.lf ((⟨0,0,0,0,0⟩:Q0h),false)) (.lf (i,true))).w (λr=>r.2=true->Qfa r.1):=λi=>w_lv λx hx=>w_br (λ_=>no) (λhb=>λ_=>zw (hx.symm.trans (by simpa using hb)))
 unfold Q73
 exact Q08 (Qvy _ _ _) λx0 _=>Q08 (Qvy _ _ _) λx1 _=>Q08 (Qvy _ _ _) λx2 _=>w_lv λx3 _=>w_br (λ_=>no) (λ_=>Q08 (Qvy _ _ _) λx4 h4=>w_br (λ_=>l _) (λ_=>w_br (λ_=>Q08 (Qvj h4 _) λx6 _=>l _) (λ_=>l _)))
section
variable {P:Nat} {m:List Int} (h:Q0x P m)
include h
theorem yS{f:Int}(hf:U f):Qa0 m f=decide (f<P):=by
 have:=Z3y h
 obtain⟨h1,h2⟩:=hf
 have h3:=h.p2
 simp only[Qa0,Qhk,Tree.m,letv,this]
 congr 1
 rw[wrap_u64,wrap_u64,dO h1 (by omega),dO (by omega) (by omega)]
theorem zaw{root va:Int}(hv:U va)(access:Int):(Q9y m root va access).w (λt=>U t.Addr/\U t.F0):=by
 have bad:U (0:Int)/\U (0:Int):=⟨U_0,U_0⟩
 have fr: ∀x,(Q7o x).w U:=λx=>by
   unfold Q7o
   exact Q08 (Qvy _ _ _) λy hy=>hy
 unfold Q9y
 exact w_lv λx0 _=>w_br (λ_=>bad) (λ_=>w_br (λ_=>bad) (λ_=>w_lv λx1 _=>w_br (λ_=>bad) (λ_=>Q08 (Qs0 h (Q0m _) (.inr rfl)) λx2 _=>w_br (λ_=>bad) (λ_=>w_lv λx3 _=>w_br (λ_=>bad) (λ_=>Q08 (fr _) λx4 _=>w_lv λx5 _=>w_br (λ_=>bad) (λ_=>Q08 (fr _) λx6 _=>⟨Q0m _,Q0m _⟩))))))
theorem vS{a:Int}(ha:U a)(access:Int):(Q7y m a access).w (Q0x P):=by
 have hcl:Q03 m=m:=rfl
 unfold Q7y
 exact Q08 (Qs0 h ha (.inr rfl)) λx0 _=>w_br (λ_=>w_an (Q9c h) (w_lv λx1 h1=>by rw[h1,hcl];exact h)) (λ_=>w_br (λ_=>Q08 (Z0 h ha (.inr rfl) (U_or _ _)) λx hx=>hx) (λ_=>Q08 (Z0 h ha (.inr rfl) (U_or _ _)) λx hx=>hx))
theorem Qke{c:Q02}{va:Int}(hv:U va){size:Int}(hs:size=1\/size=4)(access:Int):(Q5y c m va size access).w (λr=>U r.1/\Q0x P r.2.1):=by
 have hcl:Q03 m=m:=rfl
 have e:decide (wrap u32 size≠0)=true:=by rcases hs with rfl|rfl<;>decide
 have cl: ∀(K:List Int->Int×List Int×Int),(∀x,x=m->U (K x).1/\Q0x P (K x).2.1)->(Tree.an (Q06 m) (.lv (Q03 m) λx=> .lf (K x))).w (λr=>U r.1/\Q0x P r.2.1):=λK hK=>w_an (Q9c h) (w_lv λx hx=>hK x (hx.trans hcl))
 have z: ∀(k:Nat) (x:List Int),x=m->U (0:Int)/\Q0x P x:=λ_ x hx=>⟨U_0,hx▸h⟩
 have v: ∀x,x=m->U va/\Q0x P x:=λx hx=>⟨hv,hx▸h⟩
 have main: ∀(x0:Int×Bool),(Tree.cn (decide (wrap u32 size≠0)) (.br (dF va (wrap u32 size) !=0) (.an (Q06 m) (.lv (Q03 m) λx3=> .lf ((0:Int),x3,(3:Int)))) (.lv (Q9p c) λx4=> .br (!x4) (.br (iand u32 c.B4.a0 4 !=0) (.an (Qhq m c.B4.a6 va access) (.lv (Qin m c.B4.a6 va access) λx5=> .br (x5.E0 !=0) (.an (Q06 m) (.lv (Q03 m) λx6=> .lf (0,x6,x5.E0))) (.an (Qfi m x5.F0 access) (.lv (Qbk m x5.F0 access) λx7=> .lf (x5.Addr,x7,0))))) (.an (Q35 m va size) (.lv (Q4g m va size) λx8=> .br (!x8.2) (.an (Q06 m) (.lv (Q03 m) λx9=> .lf (0,x9,x0.1))) (.an (Q06 m) (.lv (Q03 m) λx10=> .lf (va,x10,0)))))) (.an (Q35 m va size) (.lv (Q4g m va size) λx11=> .br (!x11.2) (.an (Q06 m) (.lv (Q03 m) λx12=> .lf (0,x12,x0.1))) (.an (Q06 m) (.lv (Q03 m) λx13=> .lf (va,x13,0)))))))).w (λr=>U r.1/\Q0x P r.2.1):=λx0=>
   w_cn e (w_br (λ_=>cl _ (z 0)) (λ_=>w_lv λx4 _=>w_br (λ_=>w_br (λ_=>Q08 (zaw h hv access) λx5 hx=>w_br (λ_=>cl _ (z 0)) (λ_=>Q08 (vS h hx.2 access) λx7 h7=>⟨hx.1,h7⟩)) (λ_=>Q08 (Qs0 h hv hs) λx8 _=>w_br (λ_=>cl _ (z 0)) (λ_=>cl _ v))) (λ_=>Q08 (Qs0 h hv hs) λx8 _=>w_br (λ_=>cl _ (z 0)) (λ_=>cl _ v))))
 unfold Q5y
 exact w_lv λx0 _=>w_br (λ_=>cl _ (z 0)) (λ_=>w_br (λ_=>w_br (λ_=>cl _ (z 0)) (λ_=>main x0)) (λ_=>main x0))
theorem Z8l{c:Q02}(hc:Q29 c):(Qb6 c m).w (λr=>U r.1/\Q0x P r.2.1):=by
 unfold Qb6
 exact Q08 (Qke h hc.pc (.inr rfl) 1) λx0 h0=>w_br (λ_=>⟨U_0,h0.2⟩) (λ_=>Q08 (Qs0 h0.2 h0.1 (.inr rfl)) λx1 h1=>⟨h1.1,h0.2⟩)
end
theorem xaw{s a b:Int}:U (Q8i s a b):=by
 refine Tree.post (Qpg s a b) (W:=U) ?_
 unfold Qpg
 exact w_br (λ_=>Q0m _) (λ_=>Q0m _)
section
variable {c:Q02} (h:Q29 c)
include h
theorem Qo8(k:Int){b:Int}(hb:U b):Q29 (Q47 c k b):=by
 refine(Tree.post (Ql1 c k b) (W:=Q29) ?_)
 unfold Ql1
 refine w_lv λ_ _=>w_lv λ_ _=>⟨h.x,h.a1,?_⟩
 intro w hw
 simp only[A8.l,cU,cV,or_false]at hw
 rcases hw with rfl|rfl|rfl|rfl|rfl|rfl|rfl|rfl
 . exact Q0m _
 . exact h.a1
 . exact h.pc
 . exact Q0m _
 . exact hb
 . exact h.a5
 . exact h.a6
 . exact h.a7
theorem yw:Q29 (Qdi c):=by
 refine(Tree.post (Qf4 c) (W:=Q29) ?_)
 unfold Qf4
 refine w_lv λx0 _=>w_lv λx1 h1=>⟨h.x,h.a2,?_⟩
 intro w hw
 simp only[A8.l,cU,cV,or_false]at hw
 rcases hw with rfl|rfl|rfl|rfl|rfl|rfl|rfl|rfl
 . rw[h1];exact xaw
 . exact h.a1
 . exact h.a2
 . exact h.a3
 . exact h.a4
 . exact h.a5
 . exact h.a6
 . exact h.a7
theorem Qqn{r:Int}(hr:0<=r/\r<16){v:Int}(hv:U v):(Qcy c r v).w Q29:=by
 unfold Qcy
 exact w_br (λ_=>w_cn (rc hr) ⟨Z9m h.x hv _,h.pc,h.csr⟩) (λ_=>h)
theorem Zlw(k:Int){v:Int}(hv:U v):(Qb c k v).w Q29:=by
 have ok: ∀i v,U v->Q29 {X:=c.X,Pc:=c.Pc,B4:=A8.of 0 (dH (A8.l c.B4) i v)}:=λi v hv=>⟨h.x,h.pc,Quo h.csr hv i⟩
 unfold Qb
 repeat'(first
   |exact h
   |exact ok _ _ (Q0m _)
   |exact ok _ _ hv
   |refine w_br (λhk=> ?_) (λ_=> ?_)
   |refine w_cn (by rw[eq_of_beq (by assumption:(k==_)=true)];decide) ?_)
end
theorem Zc9{a b:Int}(ha:U a)(hb:U b):(Q9s a b).w (λr=>U r.1/\U r.2):=by
 have u1:U 4294967295:=⟨by omega,by omega⟩
 unfold Q9s
 refine w_br (λ_=>⟨u1,ha⟩) (λh=> ?_)
 have h: ¬b=0:=by simpa using h
 obtain⟨b1,b2⟩:=hb
 have hc:decide (wrap i32 b≠0)=true:=dY (by rw[wrap_i32];omega)
 exact w_br (λ_=>w_br (λ_=>⟨ha,U_0⟩) (λ_=>w_cn hc (w_cn hc ⟨Q0m _,Q0m _⟩))) (λ_=>w_cn hc (w_cn hc ⟨Q0m _,Q0m _⟩))
theorem qax(b:Bool):U (Qnr b):=by cases b<;>exact⟨by decide,by decide⟩
theorem Z8h(op:Int){a b:Int}(ha:U a)(hb:U b):(Qok op a b).w (λr=>U r.1):=by
 unfold Qok
 repeat'(first
   |refine w_br (λ_=> ?_) (λ_=> ?_)
   |exact Q08 (Zc9 ha hb) λx hx=>hx.1
   |exact Q08 (Zc9 ha hb) λx hx=>hx.2
   |exact w_lv λx hx=>(by rw[hx];exact qax _)
   |refine w_lf ?_)
 all_goals(first
   |exact Q0m _
   |exact Qsp ha _
   |exact U_0)
theorem Zac(op:Int):Qed op=1\/Qed op=4:=by
 simp only[Qed,Qs7,Tree.m]
 cases op==32<;>cases op==35<;>simp
section
variable {c:Q02} (h:Q29 c) {i:Q0h} (hi:Qfa i)
include h hi
theorem Znf:(Q4q c i).w (λr=>Q29 r.1/\U r.2.Value):=by
 have k: ∀{x:Q02} {p:Int},Q29 x->U p->Q29 {X:=x.X,Pc:=p,B4:=x.B4}:=λhx hp=>⟨hx.x,hp,hx.csr⟩
 unfold Q4q
 refine w_cn (rc hi.a) (w_cn (rc hi.b) ?_)
 repeat'(first
   |refine w_br (λ_=> ?_) (λ_=> ?_)
   |exact Q08 (Qqn h hi.a (Q0m _)) λx hx=>⟨k hx (Q0m _),U_0⟩
   |exact w_lv λx _=>w_br (λ_=>⟨k h (Q0m _),U_0⟩) (λ_=>⟨k h (Q0m _),U_0⟩)
   |exact w_lv λx hx=>⟨by rw[hx];exact Qo8 h _ U_0,U_0⟩
   |exact w_lv λx hx=>⟨by rw[hx];exact yw h,U_0⟩
   |exact w_cn (by have:=hi.csr (by simp_all);simp [bT];omega) (Q08 (Qqn h hi.a (h.a _)) λx hx=>⟨k hx (Q0m _),U_0⟩)
   |exact Q08 (Zlw h _ (h.r _)) λx hx=>⟨k hx (Q0m _),U_0⟩
   |refine w_cn (rc hi.c) ?_
   |exact Q08 (Z8h _ (h.r _) (Q0m _)) λy hy=>Q08 (Qqn h hi.a hy) λx hx=>⟨k hx (Q0m _),U_0⟩
   |exact Q08 (Z8h _ (h.r _) (h.r _)) λy hy=>Q08 (Qqn h hi.a hy) λx hx=>⟨k hx (Q0m _),U_0⟩
   |refine w_lf ?_)
 all_goals(first
   |exact⟨k h (Q0m _),U_0⟩
   |exact⟨k h (Q0m _),h.r _⟩)
theorem Z1y{P:Nat}{m:List Int}(hm:Q0x P m):(Qdb c m i).w (λr=>Q29 r.1/\Q0x P r.2):=by
 have w:=Zac i.Op
 unfold Qdb
 refine w_cn (rc hi.b) (w_lv λx0 h0=> ?_)
 rw[<-h0]at w
 refine Q08 (Qke hm (Q0m _) w 2) λx1 h1=>w_br (λ_=>w_lv λy hy=>⟨by rw[hy];exact Qo8 h _ (Q0m _),h1.2⟩) (λ_=>w_lv λx3 h3=> ?_)
 rw[h0,<-h3]at w
 exact Q08 (Qs0 h1.2 h1.1 w) λx4 h4=>w_br (λ_=>Q08 (Qvj h4.1 8) λy hy=>Q08 (Qqn h hi.a hy) λx hx=>⟨⟨hx.x,Q0m _,hx.csr⟩,h1.2⟩) (λ_=>Q08 (Qqn h hi.a h4.1) λx hx=>⟨⟨hx.x,Q0m _,hx.csr⟩,h1.2⟩)
theorem Qxo{P:Nat}{m:List Int}(hm:Q0x P m):(Qb9 c m i).w (λr=>Q29 r.1/\Q0x P r.2):=by
 have w:=Zac i.Op
 unfold Qb9
 refine w_cn (rc hi.b) (w_lv λx0 h0=> ?_)
 rw[<-h0]at w
 refine Q08 (Qke hm (Q0m _) w 3) λx1 h1=>w_br (λ_=>w_lv λy hy=>⟨by rw[hy];exact Qo8 h _ (Q0m _),h1.2⟩) (λ_=>w_lv λx3 h3=>w_cn (rc hi.a) ?_)
 rw[h0,<-h3]at w
 exact Q08 (Z0 h1.2 h1.1 w (h.r _)) λx hx=>⟨⟨h.x,Q0m _,h.csr⟩,hx⟩
end
theorem vw{c:Q02}(h:Q29 c){P:Nat}{m:List Int}(hm:Q0x P m):(Q6p c m).w (λr=>Q29 r.1/\Q0x P r.2.1/\U r.2.2.Value):=by
 unfold Q6p
 refine Q08 (Z8l hm h) λx0 h0=>w_br (λ_=>w_lv λy hy=>⟨by rw[hy];exact Qo8 h _ h.pc,h0.2,U_0⟩) (λ_=>Q08 (Z1g _) λx2 h2=>w_br (λ_=>w_lv λy hy=>⟨by rw[hy];exact Qo8 h _ h0.1,h0.2,U_0⟩) (λhb=> ?_))
 have hi:=h2 (by simpa using hb)
 refine w_lv λx4 _=> ?_
 repeat'(first
   |refine w_br (λ_=> ?_) (λ_=> ?_)
   |exact Q08 (Z1y h hi h0.2) λx hx=>⟨hx.1,hx.2,U_0⟩
   |exact Q08 (Qxo h hi h0.2) λx hx=>⟨hx.1,hx.2,U_0⟩
   |exact Q08 (Znf h hi) λx hx=>⟨hx.1,h0.2,hx.2⟩
   |exact w_lv λy hy=>⟨by rw[hy];exact Qo8 h _ h0.1,h0.2,U_0⟩
   |refine w_lv λ_ _=> ?_)
theorem Zlm{a:Int}(h:U a)(k:Nat)(hk:k<=32):0<=ishr .u32 a k/\ishr .u32 a k*2^k<=a:=by
 obtain⟨h1,h2⟩:=h
 unfold ishr
 have e:min (k:Int).toNat u32.bits=k:=by show min (k:Int).toNat 32=k;omega
 have hp:(0:Int)<2^k:=dP (by decide)
 rw[e,dQ _ (dR hp)]
 exact⟨Int.ediv_nonneg h1 (dR hp),Int.ediv_mul_le a (Int.ne_of_gt hp)⟩
theorem Zkq(x:Int):0<=u8.wrap x/\u8.wrap x<256:=by rw[wrap_u8];omega
theorem zax{x:Int}(h:U x):(Q1n x).w (λ_=>True):=by
 have s16:=Zlm h 16 (by omega)
 have s8:=Zlm h 8 (by omega)
 have s24:=Zlm (Qsp h 16) 8 (by omega)
 obtain⟨h1,h2⟩:=h
 unfold Q1n
 repeat'(first
   |refine w_br (λ_=> ?_) (λ_=> ?_)
   |refine w_cn (dY ⟨?_,hJ (b:=256) ?_ (hY (by kernel_rfl))⟩) ?_
   |exact trivial
   |refine w_lf ?_)
 all_goals(first
   |trivial
   |exact(Zkq _).1
   |exact(Zkq _).2
   |(simp only[decide_eq_true_eq,decide_eq_false_iff_not]at*;simp at s16 s8 s24;omega))
theorem and255(a:Int):iand .u32 a 255<256:=by
 unfold iand
 rw[wrap_u32]
 have:(dX u32.bits a&&&dX u32.bits 255).toNat<=255:=by
   show(dX 32 a&&&dX 32 255).toNat<=255
   rw[eB]
   exact Nat.le_trans Nat.and_le_right (by decide)
 omega
theorem qaM{x:Int}(h:U x):(Q2v x).w (λ_=>True):=by
 have s24:=Zlm h 24 (by omega)
 obtain⟨h1,h2⟩:=h
 have i24:ishr .u32 x 24<256:=by simp at s24;omega
 unfold Q2v
 repeat'(first
   |refine w_cn (dY ⟨?_,hJ (b:=256) ?_ (hY (by kernel_rfl))⟩) ?_
   |exact trivial
   |refine w_lf ?_)
 all_goals(first
   |trivial
   |exact(Q0m _).1
   |exact s24.1
   |exact i24
   |exact and255 _)
structure okS(P:Nat)(m:Q00):Prop where
 cpu:Q29 m.B1
 mem:Q0x P m.Mem
 disk:Q7w m.A9
 nic:Qiv m.B9
 target:U m.A1.C6
 given:U m.A1.C2
theorem Zl{b:Q07}(h:U b.C2):(Q97 b).w (λ_=>True):=by
 unfold Q97
 exact Q08 (qaM h) λ_ _=>trivial
theorem qx{m:Q00}(h:U m.A1.C2):(Q4n m).w (λ_=>True):=by
 have b: ∀x,(Q3r m.A1 x).w (λ_=>True):=λx=>by
   unfold Q3r
   exact Q08 (zax h) λ_ _=>trivial
 have d:(Q11 m).w (λ_=>True):=by
   unfold Q11
   exact w_lv λ_ _=>w_lv λ_ _=>w_br (λ_=>w_lv λ_ _=>w_br (λ_=>w_lv λ_ _=>w_br (λ_=>w_lv λ_ _=>w_br (λ_=>Q08 (b _) λ_ _=>trivial) (λ_=>trivial)) (λ_=>trivial)) (λ_=>trivial)) (λ_=>trivial)
 unfold Q4n
 repeat'(first
   |refine w_br (λ_=> ?_) (λ_=> ?_)
   |exact Q08 d λ_ _=>trivial
   |refine w_lv λ_ _=> ?_
   |exact trivial)
theorem Zkx{m:Q00}(h:U m.A1.C2):(Q6x m).w (λ_=>True):=by
 have p:(Q4y m.A1).w (λ_=>True):=by
   unfold Q4y
   exact Q08 (Zl h) λ_ _=>trivial
 unfold Q6x
 refine w_lv λx0 _=>w_lv λx1 _=>w_lv λx2 _=>w_lv λx3 _=>Q08 p λx4 _=>w_lp (inv:=λz=>0<=z.2/\z.2<=5) (μ:=Qht m) ⟨by omega,by omega⟩ (cO _) (λz hz=> ?_)
 obtain⟨z1,z2⟩:=hz
 have ew:z.2<5->i64.wrap (z.2+1)=z.2+1:=λ_=>by rw[wrap_i64];omega
 refine w_br (λhb=> ?_) (λ_=>trivial)
 have hb:=oY hb
 have nx:(0<=i64.wrap (z.2+1)/\i64.wrap (z.2+1)<=5)/\(5-i64.wrap (z.2+1)).toNat<(5-z.2).toNat:=by rw[ew hb];omega
 refine w_cn (by simp;omega) (w_br (λ_=>w_cn (dY z1) (w_nx nx)) (λ_=>w_nx nx))
theorem Qpk{m:Q00}(h:U m.A1.C2):(Q4z m).w U:=by
 unfold Q4z
 exact Q08 (Zkx h) λ_ _=>Qh5 _ _
theorem xx{m:Q00}(h:U m.A1.C2):(Q3s m).w (λ_=>True):=by
 have i:(Q2u m).w (λ_=>True):=by
   unfold Q2u
   exact w_br (λ_=>Q08 (Qpk h) λ_ _=>trivial) (λ_=>trivial)
 unfold Q3s
 exact Q08 (qx h) λ_ _=>w_br (λ_=>w_br (λ_=>Q08 i λ_ _=>w_br (λ_=>trivial) (λ_=>trivial)) (λ_=>trivial)) (λ_=>trivial)
theorem qT{P:Nat}{m:Q00}(h:okS P m):(Q2n m).w (okS P):=by
 obtain⟨h1,h2,h3,h4,h5,h6⟩:=h
 unfold Q2n
 refine w_br (λ_=>⟨h1,h2,h3,h4,h5,h6⟩) (λ_=>Q08 (Qpk (m:=⟨_,_,_,_,_,_,m.A1,_,_,_⟩) h6) λx0 _=>w_lp (inv:=λz=>0<=z/\z<=5) (μ:=Qba m) ⟨by omega,by omega⟩ (cO _) (λz hz=> ?_))
 obtain⟨z1,z2⟩:=hz
 refine w_br (λhb=>w_cn (dY z1) (w_br (λ_=>w_lv λx1 hx=>⟨by rw[hx];exact Qo8 h1 _ U_0,h2,h3,h4,h5,h6⟩) (λ_=>w_nx ?_))) (λ_=>⟨h1,h2,h3,h4,h5,h6⟩)
 have hb:=oY hb
 show(0<=i64.wrap (z+1)/\i64.wrap (z+1)<=5)/\(5-i64.wrap (z+1)).toNat<(5-z).toNat
 have ew:i64.wrap (z+1)=z+1:=by rw[wrap_i64];omega
 rw[ew];omega
theorem Qdz{P:Nat}{m:List Int}(h:Q0x P m):Q3o m=P:=by
 obtain⟨h1,h2,h3,_⟩:=h
 simp only[Q3o,Qp3,Tree.m]
 have e:(m.length:Int)=32*P:=by omega
 rw[e]
 have e1:(dF (32*(P:Int)) 32 !=0)=false:=by simp [gZ]
 have e2:decide ((32*(P:Int))>1024)=false:=dN (by omega)
 rw[e1,e2]
 simp only[cond_false]
 rw[hH _ (by decide),wrap_i64];omega
theorem Qm2{P:Nat}{m:List Int}(h:Q0x P m){f:Int}(hf:U f):Q22 m f=decide (f<P):=by
 have:=Qdz h
 obtain⟨h1,h2⟩:=hf
 have h3:=h.p2
 simp only[Q22,Qhp,Tree.m,letv,this]
 congr 1
 rw[wrap_u64,wrap_u64,dO h1 (by omega),dO (by omega) (by omega)]
theorem yZ{P:Nat}{m:List Int}(h:Q0x P m):(Q9f m).w (λr=>r=m):=by
 obtain⟨h1,h2,h3,_⟩:=h
 unfold Q9f
 refine w_cn ?_ ?_
 . simp [bT,D.plain];omega
 . show _=_
   simp
theorem put_w{P:Nat}{m:List Int}(h:Q0x P m){addr size v:Int}(ha:U addr)(hl:addr<4*m.length)(hv:U v):(Qdv m addr size v).w (Q0x P):=by
 obtain⟨h1,h2,h3,h4⟩:=h
 obtain⟨a1,a2⟩:=ha
 have e:wrap u32 (eZ addr 4)=addr/4:=by rw[wrap_u32,fA a1];omega
 have hc:(bS 1 1&&bT 0 1&&decide (0<=wrap u32 (eZ addr 4)/\wrap u32 (eZ addr 4)<(m.length:Int)))=true:=by
   rw[e];simp [bT];omega
 have h0: ∀x,decide (0<=wrap u32 x)=true:=λx=>dY (Q0m x).1
 have hs: ∀i v,U v->Q0x P (m.set i v):=λi v hv=>⟨by simp [h1],h2,h3,Qzd h4 hv i⟩
 unfold Qdv
 exact w_br (λ_=>w_cn hc (hs _ _ hv)) (λ_=>w_cn hc (w_cn (h0 _) (w_cn (h0 _) (w_cn hc (hs _ _ (U_or _ _))))))
theorem vZ{P:Nat}{m:List Int}(h:Q0x P m){frame:Int}(f0:0<=frame)(f1:frame<P)(s:List UInt8):(Q90 m frame s).w (Q0x P):=by
 unfold Q90
 have h3:=h.p2
 refine w_lp (inv:=λz=>0<=z.1/\z.1<=128/\Q0x P z.2) (μ:=Qi7 m frame s) ⟨by omega,by omega,h⟩ (cO _) (λv0 hv0=> ?_)
 obtain⟨i0,i1,hm⟩:=hv0
 refine w_br (λh1=>w_br (λh2=>w_cn ?_ ?_) (λ_=>hm)) (λ_=>hm)
 . have:=oY h1
   simp [bT];omega
 . have h2:=oY h2
   have e:wrap u32 (wrap i64 (wrap i64 (frame*128)+v0.1))=frame*128+v0.1:=by
     rw[wrap_u32,wrap_i64,wrap_i64];omega
   rw[e]
   obtain⟨g1,g2⟩:=Tree.pp (put_w hm (size:=1) (addr:=frame*128+v0.1) ⟨by omega,by omega⟩ (by rw[hm.len];omega) (Q0m (UInt8.toNat (s.getD v0.1.toNat 0))))
   refine w_an g1 (w_lv λx0 hx0=> ?_)
   rw[hx0]
   have ew:i64.wrap (v0.1+1)=v0.1+1:=by rw[wrap_i64];omega
   refine w_nx ?_
   show(0<=i64.wrap (v0.1+1)/\i64.wrap (v0.1+1)<=128/\Q0x P _)/\(128-i64.wrap (v0.1+1)).toNat<(128-v0.1).toNat
   rw[ew]
   exact⟨⟨by omega,by omega,g2⟩,by omega⟩
theorem Zju{P:Nat}{m:List Int}(h:Q0x P m){d:Q0d}(hd:Q7w d)(e:Q0e):(Q5v d m e).w (λr=>Q7w r.1/\Q0x P r.2.2):=by
 have fl:Q22 m d.B2=true->(Q90 m (i64.wrap d.B2) e.C9).w (Q0x P):=λhp=>by
   rw[Qm2 h hd.opFrame]at hp
   have:=oY hp
   have h1:=hd.opFrame.1
   have h3:=h.p2
   have ew:i64.wrap d.B2=d.B2:=by rw[wrap_i64];omega
   rw[ew]
   exact vZ h h1 this _
 have l0:Q7w d/\Q0x P m:=⟨hd,h⟩
 have l1: ∀st,Q7w {Blocks:=d.Blocks,C1:=d.C1,Frame:=d.Frame,B8:=st,D4:=0,B5:=0,B2:=0,B7:=[]}:=λst=>⟨hd.block,hd.frame,U_0,U_0⟩
 unfold Q5v
 repeat'(first
   |exact l0
   |exact⟨l1 _,h⟩
   |refine w_br (λ_=> ?_) (λ_=> ?_)
   |refine w_lv (λ_ _=> ?_))
 all_goals(
   first
     | (have hp:Q22 m d.B2=true:=by simp_all
        obtain⟨g1,g2⟩:=Tree.pp (fl hp)
        refine w_an g1 (w_lv λx hx=> ?_)
        rw[hx]
        exact w_br (λ_=>⟨l1 _,g2⟩) (λ_=>⟨l1 _,g2⟩))
     |(exfalso;simp_all;done))
section
variable {c:Q02} (h:Q29 c)
include h
theorem Z3m(k:Int){b:Int}(hb:U b):Q29 (Q2l c k b):=by
 refine(Tree.post (Qhh c k b) (W:=Q29) ?_)
 unfold Qhh
 refine w_lv λ_ _=>w_lv λ_ _=>⟨h.x,h.a1,?_⟩
 intro w hw
 simp only[A8.l,cU,cV,or_false]at hw
 rcases hw with rfl|rfl|rfl|rfl|rfl|rfl|rfl|rfl
 . exact U_or _ _
 . exact h.a1
 . exact h.pc
 . exact Q0m _
 . exact hb
 . exact h.a5
 . exact h.a6
 . exact h.a7
theorem xT:Q29 (Qic c):=by
 refine(Tree.post (Qcm c) (W:=Q29) ?_)
 unfold Qcm
 refine w_lv λ_ _=>w_lv λ_ _=>⟨h.x,h.a2,?_⟩
 intro w hw
 simp only[A8.l,cU,cV,or_false]at hw
 rcases hw with rfl|rfl|rfl|rfl|rfl|rfl|rfl|rfl
 . exact U_or _ _
 . exact h.a1
 . exact h.a2
 . exact h.a3
 . exact h.a4
 . exact h.a5
 . exact h.a6
 . exact h.a7
theorem Z4u(r:Int){v:Int}(hv:U v):(Qdu c r v).w Q29:=by
 unfold Qdu
 refine w_br (λh1=>w_br (λh2=>w_cn ?_ ⟨Z9m h.x hv _,h.pc,h.csr⟩) (λ_=>h)) (λ_=>h)
 have h1:=oY h1
 have h2:=oY h2
 simp [bT];omega
theorem xax(k:Int){v:Int}(hv:U v):(Qbt c k v).w Q29:=by
 have ok: ∀i v,U v->Q29 {X:=c.X,Pc:=c.Pc,B4:=A8.of 0 (dH (A8.l c.B4) i v)}:=λi v hv=>⟨h.x,h.pc,Quo h.csr hv i⟩
 unfold Qbt
 repeat'(first
   |exact h
   |exact ok _ _ (Q0m _)
   |exact ok _ _ hv
   |refine w_br (λhk=> ?_) (λ_=> ?_)
   |refine w_cn (by rw[eq_of_beq (by assumption:(k==_)=true)];decide) ?_)
end
section
variable {P:Nat} {m:List Int} (h:Q0x P m)
include h
theorem Zb5(a:Int){size:Int}(hs:size=1\/size=4):(Q7l m a size).w (λb=>b=true->a<128*P):=by
 have hp:=Qdz h
 have h2:=h.p2
 have e:decide (wrap u32 size≠0)=true:=by rcases hs with rfl|rfl<;>decide
 have l: ∀x,x=Q3o m->decide (a<wrap u32 (wrap i64 (128*x)))=true->a<128*P:=λx hx hd=>by
   rw[hx,hp,wrap_u32,wrap_i64]at hd
   have:=oY hd
   omega
 unfold Q7l
 refine w_br (λ_=>w_br (λ_=>λh=>by cases h) (λ_=> ?_)) (λ_=> ?_)<;>
 exact w_cn e (w_br (λ_=>w_lv λx hx=>l x hx) (λ_=>λh=>by cases h))
theorem idx{a:Int}(ha:U a)(hl:a<128*P):(bS 1 1&&bT 0 1&&decide (0<=wrap u32 (eZ a 4)/\wrap u32 (eZ a 4)<(m.length:Int)))=true:=by
 obtain⟨a1,a2⟩:=ha
 have e:wrap u32 (eZ a 4)=a/4:=by rw[wrap_u32,fA a1];omega
 have:=h.len
 rw[e];simp [bT];omega
theorem Zd{a:Int}(ha:U a){size:Int}(hs:size=1\/size=4):(Q3d m a size).w (λr=>U r.1):=by
 obtain⟨g1,g2⟩:=Tree.pp (Zb5 h a hs)
 unfold Q3d
 refine w_an g1 (w_lv λx hx=>w_br (λ_=>U_0) (λhb=> ?_))
 have hb:x=true:=by simpa using hb
 have hl:=g2 (hx.symm.trans hb)
 refine w_cn (idx h ha hl) (w_br (λ_=>w_cn (dY (Q0m _).1) (Q0m _)) (λ_=>Qkp h.u _))
theorem zaM{a:Int}(ha:U a)(access:Int):(Qde m a access).w (Q0x P):=by
 obtain⟨g1,g2⟩:=Tree.pp (Zb5 h a (size:=4) (.inr rfl))
 have hs: ∀{m:List Int} i v,Q0x P m->U v->Q0x P (m.set i v):=λi v h hv=>⟨by simp [h.len],h.p1,h.p2,Qzd h.u hv i⟩
 unfold Qde
 refine w_an g1 (w_lv λx hx=>w_br (λ_=>h) (λhb=> ?_))
 have hb:x=true:=by simpa using hb
 have hl:=g2 (hx.symm.trans hb)
 have i0:=idx h ha hl
 have h':=hs (Int.toNat (wrap u32 (eZ a 4))) (ior u32 (m.getD (Int.toNat (wrap u32 (eZ a 4))) 0) 8) h (U_or _ _)
 have i1:=idx h' ha hl
 exact w_cn i0 (w_cn i0 (w_br (λ_=>w_cn i1 (w_cn i1 (hs _ _ h' (U_or _ _)))) (λ_=>h')))
theorem v6{root va:Int}(hr:U root)(hv:U va)(access:Int):(Q99 m root va access).w (λt=>U t.Addr/\U t.F0/\(t.E0=0->t.Addr<128*P)):=by
 have hp:=Qdz h
 have h2:=h.p2
 have hlen:=h.len
 obtain⟨r1,r2⟩:=hr
 obtain⟨v1,v2⟩:=hv
 unfold Q99
 refine w_lv λx0 hx0=>w_lv λx1 hx1=>w_lv λx2 _=> ?_
 have hc:x0≠0:=by
   rw[hx0]
   simp only[Q1w,Q85,Tree.m]
   cases access==1<;>cases access==3<;>simp
 rw[hp]at hx1
 have bad:U (0:Int)/\U (0:Int)/\(x0=0->(0:Int)<128*P):=⟨U_0,U_0,λe=>absurd e hc⟩
 refine w_br (λ_=>bad) (λ_=>w_br (λ_=>bad) (λhva=>w_br (λ_=>bad) (λhro=> ?_)))
 have hva:=oN hva
 have hro:=oN hro
 have e1:wrap u32 x1=P:=by rw[hx1,wrap_u32];omega
 rw[e1]at hro
 have e2:wrap u32 (wrap u32 (root*128)+wrap u32 (4*wrap u32 (eZ va 128)))=root*128+4*(va/128):=by
   rw[fA v1,wrap_u32,wrap_u32,wrap_u32,wrap_u32];omega
 have hU:U (wrap u32 (wrap u32 (root*128)+wrap u32 (4*wrap u32 (eZ va 128)))):=Q0m _
 have ci:=idx h hU (by rw[e2];omega)
 have good: ∀w:Int,decide (iand u32 w 255>=wrap u32 x1)=false->(U (wrap u32 (wrap u32 (iand u32 w 255*128)+dF va 128))/\U (wrap u32 (wrap u32 (root*128)+wrap u32 (4*wrap u32 (eZ va 128))))/\((0:Int)=0->wrap u32 (wrap u32 (iand u32 w 255*128)+dF va 128)<128*P)):=λw hw=>by
   have hw:=oN hw
   rw[e1]at hw
   have hn:=(Qh5 w 255).1
   refine⟨Q0m _,Q0m _,λ_=> ?_⟩
   rw[Int.tmod_eq_emod_of_nonneg v1,wrap_u32,wrap_u32]
   generalize iand u32 w 255=q at*
   omega
 refine w_cn ci ?_
 repeat'(first
   |exact bad
   |exact good _ (by assumption)
   |refine w_br (λ_=> ?_) (λ_=> ?_)
   |refine w_cn ci ?_)
theorem Z95{c:Q02}(hc:Q29 c){va:Int}(hv:U va){size:Int}(hs:size=1\/size=4)(access:Int):(Q74 c m va size access).w (λr=>Q0x P r.2.2/\U r.1/\(r.2.1=0->r.1<128*P)):=by
 have e:decide (wrap u32 size≠0)=true:=by rcases hs with rfl|rfl<;>decide
 obtain⟨g1,g2⟩:=Tree.pp (Zb5 h va hs)
 obtain⟨k1,k2⟩:=Tree.pp (v6 h hc.a6 hv access)
 have bad: ∀k:Int,k≠0->Q0x P m/\U (0:Int)/\(k=0->(0:Int)<128*P):=λk hk=>⟨h,U_0,λe=>absurd e hk⟩
 have hca:Q1w access≠0:=by
   simp only[Q1w,Q85,Tree.m]
   cases access==1<;>cases access==3<;>simp
 unfold Q74
 refine w_lv λx0 _=>w_br (λ_=>bad 5 (by decide)) (λ_=>w_br (λh1=>w_br (λh2=> ?_) (λ_=> ?_)) (λ_=> ?_))
 . exact bad 5 (by decide)
 all_goals(
   refine w_cn e (w_br (λ_=>bad 3 (by decide)) (λ_=>w_lv λx1 _=>w_br (λ_=>w_an g1 (w_lv λx2 hx2=>w_br (λ_=>w_lv λx3 hx3=>bad x3 (by rw[hx3];exact hca)) (λhb=> ?_))) (λ_=>w_an k1 (w_lv λx4 hx4=>w_br (λhb=> ?_) (λhb=> ?_)))))
   . have hb:x2=true:=by simpa using hb
     exact⟨h,hv,λ_=>g2 (hx2.symm.trans hb)⟩
   . exact bad _ (by simpa using hb)
   . obtain⟨t1,t2,t3⟩:=k2
     rw[show(Q99 m c.B4.a6 va access).m=x4 from hx4.symm]at t1 t2 t3
     obtain⟨m1,m2⟩:=Tree.pp (zaM h t2 access)
     refine w_an m1 (w_lv λx5 hx5=> ?_)
     exact⟨hx5▸m2,t1,λ_=>t3 (by simpa using hb)⟩)
end
theorem zx{r:Int}(h:Q7b r=true):0<=r/\r<16:=by
 simp only[Q7b,Qcs,Tree.m]at h
 cases h1:decide (r>=0)<;>rw[h1]at h
 . cases h
 . have h1:=oY h1
   have h:=oY h
   omega
theorem zT{i:Q0h}(hi:wrap .i64 i.Imm=i.Imm)(h:Q6v i=true):Qfa i:=by
 have no:false=true->Qfa i:=λh=>by cases h
 refine(Tree.post (Qe9 i) (W:=λb=>b=true->Qfa i) ?_) h
 unfold Qe9
 refine w_lv λx0 h0=>w_br (λ_=>no) (λ_=>w_lv λx1 h1=>w_br (λ_=>no) (λb1=>w_lv λx2 h2=>w_br (λ_=>no) (λb2=>w_lv λx3 h3=>w_br (λ_=>no) (λb3=>w_lv λx4 h4=>w_br (λ_=>no) (λb4=>w_br (λ_=>no) (λb5=> ?_))))))
 have b1:x1=true:=by simpa using b1
 have b2:x2=true:=by simpa using b2
 have b3:x3=true:=by simpa using b3
 have b4:=oN b4
 have b5:=oN b5
 rw[hi]at b4 b5
 have ok:Qfa i:=⟨zx (h1.symm.trans b1),zx (h2.symm.trans b2),zx (h3.symm.trans b3),λe=>by
   rw[e]at h0
   have h0:x0=8:=h0
   subst h0
   have h4:x4=(0,7):=h4
   subst h4
   simp at b4 b5;omega⟩
 repeat'(first
   |exact λ_=>ok
   |exact no
   |refine w_br (λ_=> ?_) (λ_=> ?_))
theorem Zm3(w:Int):(Q5w w).w (λr=>r.2=true->Qfa r.1):=by
 have no: ∀{p:Prop},false=true->p:=λh=>by cases h
 have e: ∀x,wrap .i64 (wrap .i32 x)=wrap .i32 x:=λx=>by rw[wrap_i64,wrap_i32];omega
 have ok: ∀i,wrap .i64 i.Imm=i.Imm-> ∀x,x=Q6v i->(!x)=false->true=true->Qfa i:=λi hi x hx hb _=>zT hi (hx.symm.trans (by simpa using hb))
 unfold Q5w
 refine w_lv λx0 _=> ?_
 have l: ∀i,wrap .i64 i.Imm=i.Imm->(Tree.lv (Q6v i) λx=> .br (!x) (.lf ((⟨0,0,0,0,0⟩:Q0h),false)) (.lf (i,true))).w (λr=>r.2=true->Qfa r.1):=λi hi=>w_lv λx hx=>w_br (λ_=>no) (λhb=>ok i hi x hx hb)
 refine w_br (λ_=>no) (λ_=>w_br (λ_=>l _ rfl) (λ_=>w_br (λ_=>l _ (e _)) (λ_=>w_br (λ_=>l _ (e _)) (λ_=>l _ (e _)))))
theorem bit_w(b:Bool):U (Qam b):=by cases b<;>exact⟨by decide,by decide⟩
theorem Zle{a b:Int}(ha:U a)(hb:U b):(Q9x a b).w (λr=>U r.1/\U r.2):=by
 unfold Q9x
 refine w_br (λ_=>⟨⟨by omega,by omega⟩,ha⟩) (λh=> ?_)
 have h: ¬b=0:=by simpa using h
 obtain⟨b1,b2⟩:=hb
 have hc:decide (wrap i64 (wrap i32 b)≠0)=true:=dY (by rw[wrap_i64,wrap_i32];omega)
 exact w_cn hc (w_cn hc ⟨Q0m _,Q0m _⟩)
theorem alu_w(op:Int){a b:Int}(ha:U a)(hb:U b):(Qkl op a b).w (λr=>U r.1):=by
 unfold Qkl
 refine w_lv λx0 _=> ?_
 repeat'(first
   |exact Q0m _
   |exact Qsp ha _
   |exact U_0
   |refine w_br (λ_=> ?_) (λ_=> ?_)
   |exact Q08 (Zle ha hb) λx hx=>hx.1
   |exact Q08 (Zle ha hb) λx hx=>hx.2
   |exact w_lv λx hx=>(by rw[hx];exact bit_w _))
theorem yx{x:Int}(hx:U x):(Q6w x 8).w U:=by
 unfold Q6w
 have h0:decide (0<=wrap u64 8)=true:=by decide
 refine w_br (λh=>absurd h (by decide)) λ_=>w_br (λh=>absurd h (by decide)) λ_=>w_cn h0 (w_cn (by decide) (w_br (λ_=>w_cn h0 (U_or _ _)) (λ_=>Qh5 _ _)))
section
variable {c:Q02} (h:Q29 c) {i:Q0h} (hi:Qfa i)
include h hi
theorem yT:(Q7f c i).w (λr=>Q29 r.1/\U r.2.Value):=by
 unfold Q7f
 refine w_br (λ_=>w_lv λx hx=>⟨hx▸Z3m h _ U_0,U_0⟩) (λ_=>w_br (λ_=>w_lv λx hx=>⟨hx▸xT h,U_0⟩) (λ_=>w_br (λe=>w_cn ?_ (Q08 (Z4u h _ (h.a _)) λx hx=>⟨hx.pcs (Q0m _),U_0⟩)) (λ_=>w_br (λ_=>w_cn (rc hi.a) (Q08 (xax h _ (h.r _)) λx hx=>⟨hx.pcs (Q0m _),U_0⟩)) (λ_=> ?_))))
 . have:=hi.csr (by simpa using e)
   simp [bT];omega
 . have k:=h.pcs (Q0m (c.Pc+4))
   repeat'(first
     |exact⟨k,U_0⟩
     |exact⟨k,h.r _⟩
     |refine w_br (λ_=> ?_) (λ_=> ?_)
     |refine w_cn (rc hi.a) ?_)
theorem xaM:(Qh c i).w Q29:=by
 unfold Qh
 exact w_br (λ_=>Q08 (Z4u h _ (Q0m _)) λx hx=>hx.pcs (Q0m _)) (λ_=>w_br (λ_=>w_cn (rc hi.b) (Q08 (Z4u h _ (Q0m _)) λx hx=>hx.pcs (Q0m _))) (λ_=>w_cn (rc hi.a) (w_cn (rc hi.b) (w_lv λx _=>w_br (λ_=>h.pcs (Q0m _)) (λ_=>h.pcs (Q0m _))))))
theorem Zor{P:Nat}{m:List Int}(hm:Q0x P m):(Q9g c m i).w (λr=>Q29 r.1/\Q0x P r.2):=by
  unfold Q9g
  refine w_cn (rc hi.b) ?_
  have e1:(1:Int)=1\/(1:Int)=4:= .inl rfl
  have e4:(4:Int)=1\/(4:Int)=4:= .inr rfl
  repeat'(first
    |refine w_br (λ_=> ?_) (λ_=> ?_)
    | (refine Q08 (Z95 hm h (Q0m _) e4 _) λx hx=> ?_
       obtain⟨m1,m2,m3⟩:=hx
       refine w_br (λ_=>w_lv λy hy=>⟨hy▸Z3m h _ (Q0m _),m1⟩) (λhb=> ?_)
       have m3:=m3 (by simpa using hb)
       have m4:x.1<4*x.2.2.length:=by rw[m1.len];omega
       clear hb)
    | (refine Q08 (Z95 hm h (Q0m _) e1 _) λx hx=> ?_
       obtain⟨m1,m2,m3⟩:=hx
       refine w_br (λ_=>w_lv λy hy=>⟨hy▸Z3m h _ (Q0m _),m1⟩) (λhb=> ?_)
       have m3:=m3 (by simpa using hb)
       have m4:x.1<4*x.2.2.length:=by rw[m1.len];omega
       clear hb)
    |exact w_cn (rc hi.a) (Q08 (put_w (by assumption) (by assumption) (by assumption) (h.r _)) λy hy=>⟨h.pcs (Q0m _),hy⟩)
    |(refine Q08 (Zd (by assumption) (by assumption) e4) λy hy=> ?_)
    |(refine Q08 (Zd (by assumption) (by assumption) e1) λy hy=> ?_)
    |exact Q08 (yx (by assumption)) λz hz=>Q08 (Z4u h _ hz) λu hu=>⟨hu.pcs (Q0m _),by assumption⟩
    |exact Q08 (Z4u h _ (by assumption)) λu hu=>⟨hu.pcs (Q0m _),by assumption⟩)
end
theorem do_w{c:Q02}(h:Q29 c){P:Nat}{m:List Int}(hm:Q0x P m):(Qo2 c m).w (λr=>Q29 r.1/\U r.2.1.Value/\Q0x P r.2.2):=by
 unfold Qo2
 refine Q08 (Z95 hm h h.pc (.inr rfl) 1) λx0 hx=> ?_
 obtain⟨m1,m2,m3⟩:=hx
 refine w_br (λ_=>w_lv λy hy=>⟨hy▸Z3m h _ h.pc,U_0,m1⟩) (λhb=> ?_)
 refine Q08 (Zd m1 m2 (.inr rfl)) λx2 h2=>Zeg (Zm3 _) λx3 h3=>w_br (λ_=>w_lv λy hy=>⟨hy▸Z3m h _ h2,U_0,m1⟩) (λb3=> ?_)
 have hi:=h3 (by simpa using b3)
 refine w_lv λx5 _=> ?_
 repeat'(first
   |refine w_br (λ_=> ?_) (λ_=> ?_)
   |exact w_lv λy hy=>⟨hy▸Z3m h _ h2,U_0,m1⟩
   |exact Q08 (yT h hi) λy hy=>⟨hy.1,hy.2,m1⟩
   |exact Q08 (xaM h hi) λy hy=>⟨hy,U_0,m1⟩
   |exact Q08 (Zor h hi m1) λy hy=>⟨hy.1,U_0,hy.2⟩
   |exact Q08 (Z4u h _ (Q0m _)) λy hy=>⟨hy.pcs (Q0m _),U_0,m1⟩
   |refine w_cn (rc hi.c) ?_
   |refine w_cn (rc hi.b) ?_
   |exact Q08 (alu_w _ (h.r _) (h.r _)) λy hy=>Q08 (Z4u h _ hy) λz hz=>⟨hz.pcs (Q0m _),U_0,m1⟩
   |exact Q08 (alu_w _ (h.r _) (Q0m _)) λy hy=>Q08 (Z4u h _ hy) λz hz=>⟨hz.pcs (Q0m _),U_0,m1⟩)
theorem and1{q:Int}(h:U q):iand .u32 q 1=q%2:=by
 obtain⟨h1,h2⟩:=h
 unfold iand
 rw[wrap_u32]
 have e1:(dX 32 q).toNat=q.toNat:=by rw[BitVec.toNat_ofInt];omega
 have e2:(dX 32 1).toNat=1:=by decide
 have:(dX u32.bits q&&&dX u32.bits 1).toNat=q.toNat%2:=by
   show(dX 32 q&&&dX 32 1).toNat=_
   rw[eB,e1,e2,Nat.and_one_is_mod]
 rw[this];omega
theorem Ze1(b:Bool)(n:Int):(Qgw b n).w (λ_=>True):=by
 unfold Qgw
 exact w_br (λ_=>w_cn (dY (by rw[wrap_u64];omega)) trivial) (λ_=>trivial)
theorem qy(m:Q00):(Qeq m).w (λ_=>True):=by
 unfold Qeq
 exact w_lv λ_ _=>Q08 (Ze1 _ _) λ_ _=>w_lv λ_ _=>Q08 (Ze1 _ _) λ_ _=>w_lv λ_ _=>Q08 (Ze1 _ _) λ_ _=>w_lv λ_ _=>Q08 (Ze1 _ _) λ_ _=>w_lv λ_ _=>Q08 (Ze1 _ _) λ_ _=>trivial
theorem Zes(m:Q00):(Q80 m).w U:=by
 unfold Q80
 exact Q08 (qy m) λ_ _=>Qh5 _ _
theorem xy(m:Q00):(Qdc m).w (λ_=>True):=by
 unfold Qdc
 exact w_br (λ_=>Q08 (Zes m) λ_ _=>trivial) (λ_=>trivial)
theorem Z9n(m:Q00):(Q92 m).w (λ_=>True):=by
 unfold Q92
 exact w_lv λ_ _=>w_br (λ_=>trivial) (λ_=>w_br (λ_=>trivial) (λ_=>Q08 (xy m) λ_ _=>w_br (λ_=>trivial) (λ_=>trivial)))
theorem Qgj{m:Q00}(h:Q29 m.B1):(Q45 m).w Q29:=by
 unfold Q45
 refine Q08 (Zes m) λx0 hx=>w_br (λ_=>h) (λ_=>w_br (λ_=>h) (λhb=> ?_))
 have hb:x0≠0:=by simpa using hb
 have sh: ∀z:Int,0<=z->z<=31->ishr .u32 x0 (wrap .u64 z)=x0/2^z.toNat:=λz h1 h2=>by
   unfold ishr
   have e:min (wrap .u64 z).toNat u32.bits=z.toNat:=by
     show min (wrap .u64 z).toNat 32=z.toNat
     rw[wrap_u64];omega
   rw[e,dQ _ (dR (dP (by decide)))]
 refine w_lp (inv:=λz=>0<=z/\z<=31/\x0/2^z.toNat≠0) (μ:=Qd6 m) ⟨by omega,by omega,by simpa using hb⟩ (cO _) (λz hz=> ?_)
 obtain⟨z1,z2,z3⟩:=hz
 refine w_cn (dY (by rw[wrap_u64];omega)) (w_br (λe=>w_nx ?_) (λ_=>w_lv λy hy=>hy▸Z3m h _ U_0))
 have e:=eq_of_beq e
 have hq:=Qsp hx (wrap .u64 z)
 rw[and1 hq,sh z z1 z2]at e
 rw[sh z z1 z2]at hq
 have hlt:x0/2^z.toNat/2≠0:=by omega
 have z4:z<=30:=by
   rcases Int.lt_or_le z 31 with h|h
   . omega
   . have:z=31:=by omega
     subst this
     have:=hx.2
     have:=hx.1
     simp at z3 e hlt
     omega
 show(0<=i64.wrap (z+1)/\i64.wrap (z+1)<=31/\x0/2^(i64.wrap (z+1)).toNat≠0)/\(32-i64.wrap (z+1)).toNat<(32-z).toNat
 have ew:i64.wrap (z+1)=z+1:=by rw[wrap_i64];omega
 rw[ew]
 refine⟨⟨by omega,by omega,?_⟩,by omega⟩
 have et:(z+1).toNat=z.toNat+1:=by omega
 rw[et,Int.pow_succ,<-Int.ediv_ediv_of_nonneg (dR (dP (by decide)))]
 exact hlt
theorem Zht{P:Nat}{m:Q00}(h:Q29 m.B1)(hm:Q0x P m.Mem):(Qeu m).w (λ_=>True):=by
 unfold Qeu
 refine Q08 (Qgj h) λx0 hx=>w_br (λ_=>trivial) (λ_=>Q08 (Zd hm hx.pc (.inr rfl)) λx1 _=>w_lv λx2 _=> ?_)
 exact w_br (λ_=>w_br (λ_=>w_br (λ_=>trivial) (λ_=>trivial)) (λ_=>trivial)) (λ_=>trivial)
theorem Qy0{P:Nat}{m:Q00}(h:Q29 m.B1)(hm:Q0x P m.Mem):(Q3f m).w (λ_=>True):=by
 unfold Q3f
 exact Q08 (Z9n m) λ_ _=>w_br (λ_=>trivial) (λ_=>Q08 (Zht h hm) λ_ _=>trivial)
theorem Qib(l:List Int):(bytesOf l).length=l.length:=by simp [bytesOf]
theorem Qq4(l:List UInt8):(Q1f l).length=l.length:=by simp [Q1f]
theorem low_w(x:Int):(Qgr x 4).w (λr=>r.length=4):=by
 unfold Qgr
 refine w_lp (inv:=λz=>0<=z.1/\z.1<=4/\(z.2.length:Int)=z.1) (μ:=Qe0 x 4) ⟨by omega,by omega,rfl⟩ (cO _) (λz hz=> ?_)
 obtain⟨z1,z2,z3⟩:=hz
 refine w_br (λh=>w_cn (dY (by rw[wrap_u64];omega)) (w_cn (dY (by omega)) (w_nx ?_))) (λh=> ?_)
 . have h:=oY h
   show(0<=i64.wrap (z.1+1)/\i64.wrap (z.1+1)<=4/\((z.2++[_]).length:Int)=i64.wrap (z.1+1))/\(4-i64.wrap (z.1+1)).toNat<(4-z.1).toNat
   have ew:i64.wrap (z.1+1)=z.1+1:=by rw[wrap_i64];omega
   rw[ew]
   refine⟨⟨by omega,by omega,by simp;omega⟩,by omega⟩
 . have h:=oN h
   show(bytesOf z.2).length=4
   rw[Qib];omega
theorem y7{P:Nat}{m:List Int}(hm:Q0x P m)(frame:Int):(Q8r m frame).w (λr=>0<=frame->frame<P->r.1.length=128):=by
 have hp:=Qdz hm
 have hl:=hm.len
 have h2:=hm.p2
 unfold Q8r
 refine w_br (λh=>λh0 _=>by have:=oY h;omega) (λh=>w_lv λx0 hx=>w_br (λh1=>λ_ h2=>by have:=oY h1;rw[hx,hp]at this;omega) (λh1=> ?_))
 have h:=oN h
 have h1:=oN h1
 rw[hx,hp]at h1
 refine w_lp (inv:=λz=>0<=z.1/\z.1<=32/\(z.2.length:Int)=4*z.1) (μ:=Qik m frame) ⟨by omega,by omega,rfl⟩ (cO _) (λz hz=> ?_)
 obtain⟨z1,z2,z3⟩:=hz
 refine w_br (λhb=> ?_) (λhb=> ?_)
 . have hb:=oY hb
   have e:wrap i64 (wrap i64 (frame*32)+z.1)=frame*32+z.1:=by rw[wrap_i64,wrap_i64];omega
   refine w_cn (by rw[e];simp [bT];omega) (w_an (show(4:Int)<=1000000000000 by decide) (Zeg (low_w _) λx1 h4=>w_cn (dY (by rw[Qq4,h4];omega)) (w_nx ?_)))
   show(0<=i64.wrap (z.1+1)/\i64.wrap (z.1+1)<=32/\((z.2++Q1f x1).length:Int)=4*i64.wrap (z.1+1))/\(32-i64.wrap (z.1+1)).toNat<(32-z.1).toNat
   have ew:i64.wrap (z.1+1)=z.1+1:=by rw[wrap_i64];omega
   rw[ew,lA,Qq4,h4]
   exact⟨⟨by omega,by omega,by omega⟩,by omega⟩
 . have hb:=oN hb
   intro _ _
   show(bytesOf z.2).length=128
   rw[Qib];omega
theorem Zgi{P:Nat}{m:List Int}(hm:Q0x P m){d:Q0d}(hd:Q7w d)(port:Int){v:Int}(hv:U v)(at0:Int):(Q4s d m port v at0).w (λr=>Q7w r.1/\r.2.length<=1):=by
 have k: ∀st,Q7w {Blocks:=d.Blocks,C1:=d.C1,Frame:=d.Frame,B8:=st,D4:=d.D4,B5:=d.B5,B2:=d.B2,B7:=d.B7}:=λst=>⟨hd.block,hd.frame,hd.opBlock,hd.opFrame⟩
 have k2: ∀c o,Q7w {Blocks:=d.Blocks,C1:=d.C1,Frame:=d.Frame,B8:=1,D4:=c,B5:=d.C1,B2:=d.Frame,B7:=o}:=λc o=>⟨hd.block,hd.frame,hd.block,hd.frame⟩
 have k3:Q7w {Blocks:=d.Blocks,C1:=v,Frame:=d.Frame,B8:=d.B8,D4:=d.D4,B5:=d.B5,B2:=d.B2,B7:=d.B7}:=⟨hv,hd.frame,hd.opBlock,hd.opFrame⟩
 have k4:Q7w {Blocks:=d.Blocks,C1:=d.C1,Frame:=v,B8:=d.B8,D4:=d.D4,B5:=d.B5,B2:=d.B2,B7:=d.B7}:=⟨hd.block,hv,hd.opBlock,hd.opFrame⟩
 unfold Q4s
 repeat'(first
   |refine w_br (λ_=> ?_) (λ_=> ?_)
   |exact Q08 (y7 hm _) λ_ _=>w_lv λ_ _=>⟨k2 _ _,aO _⟩
   |refine w_lv (λ_ _=> ?_)
   |refine w_lf ?_)
 all_goals(first
   |exact⟨hd,aT _⟩
   |exact⟨k _,aT _⟩
   |exact⟨k2 _ _,aO _⟩
   |exact⟨k3,aT _⟩
   |exact⟨k4,aT _⟩)
theorem Zkk{P:Nat}{m:List Int}(hm:Q0x P m){n:Q0n}(hn:Qiv n)(port:Int){v:Int}(hv:U v)(at0:Int):(Q9k n m port v at0).w (λr=>Qiv r.1/\r.2.length<=1):=by
 have k1:Qiv {Frame:=v,D8:=n.D8,C5:=n.C5,C0:=n.C0,B6:=n.B6,D9:=n.D9}:=⟨hv,hn.len,hn.buffer,hn.got⟩
 have k2:Qiv {Frame:=n.Frame,D8:=v,C5:=n.C5,C0:=n.C0,B6:=n.B6,D9:=n.D9}:=⟨hn.frame,hv,hn.buffer,hn.got⟩
 have k3:Qiv {Frame:=n.Frame,D8:=n.D8,C5:=n.C5,C0:=n.C0,B6:=false,D9:=0}:=⟨hn.frame,hn.len,hn.buffer,U_0⟩
 have k4: ∀p r,Qiv {Frame:=n.Frame,D8:=n.D8,C5:=p,C0:=n.Frame,B6:=r,D9:=n.D9}:=λp r=>⟨hn.frame,hn.len,hn.frame,hn.got⟩
 have send: ∀K:List UInt8×Bool->Tree (Q0n×List Q09),Q22 m n.Frame=true->(∀x:List UInt8×Bool,x.1.length=128->(K x).w (λr=>Qiv r.1/\r.2.length<=1))->(Tree.an (Qga m (wrap .i64 n.Frame)) (.lv (Qig m (wrap .i64 n.Frame)) K)).w (λr=>Qiv r.1/\r.2.length<=1):=λK hp hK=>by
   rw[Qm2 hm hn.frame]at hp
   have hp:=oY hp
   obtain⟨f1,f2⟩:=hn.frame
   have ew:i64.wrap n.Frame=n.Frame:=by rw[wrap_i64];omega
   exact Q08 (y7 hm _) λx hx=>hK x (hx (by rw[ew];exact f1) (by rw[ew];exact hp))
 unfold Q9k
 repeat'(first
   |refine w_br (λ_=> ?_) (λ_=> ?_)
   |refine send _ (by simp_all) (λx hx=>w_cn (by simp_all;exact hn.len.1) ?_)
   |refine w_lv (λ_ _=> ?_)
   |refine w_lf ?_)
 all_goals(first
   |exact⟨hn,aT _⟩
   |exact⟨hn,aO _⟩
   |exact⟨k1,aT _⟩
   |exact⟨k2,aT _⟩
   |exact⟨k3,aT _⟩
   |exact⟨k4 _ _,aT _⟩)
def okB(b:Q07):Prop:=U b.C6/\U b.C2
theorem v7{P:Nat}{m:List Int}(hm:Q0x P m){b:Q07}(hb:okB b)(port:Int){v:Int}(hv:U v):(Q4e b m port v).w (λr=>okB r.1/\Q0x P r.2):=by
 have hv0:decide (0<=v)=true:=dY hv.1
 have h2:=hm.p2
 have rest:(Tree.br (port==11) (.br (decide (v<32)) (.cn (decide (0<=v)) (.lf (({C6:=b.C6,C2:=Qg7 .u32 b.C2 (ishl .u32 1 v)}:Q07),m))) (.lf (b,m))) (.lf (b,m))).w (λr=>okB r.1/\Q0x P r.2):=
   w_br (λ_=>w_br (λ_=>w_cn hv0 ⟨⟨hb.1,Q0m _⟩,hm⟩) (λ_=>⟨hb,hm⟩)) (λ_=>⟨hb,hm⟩)
 unfold Q4e
 refine w_br (λ_=>w_lv λx0 hx=>w_br (λhp=>w_cn hv0 (w_br (λ_=>w_cn hv0 ?_) (λ_=>rest))) (λ_=>rest)) (λ_=>rest)
 have hp:Q22 m v=true:=hx.symm.trans hp
 rw[Qm2 hm hv]at hp
 have hp:=oY hp
 obtain⟨v1,v2⟩:=hv
 refine w_lp (inv:=λz=>0<=z.1/\z.1<=32/\Q0x P z.2) (μ:=Qh8 b m port v) ⟨by omega,by omega,hm⟩ (cO _) (λz hz=> ?_)
 obtain⟨z1,z2,z3⟩:=hz
 have hl:=z3.len
 refine w_br (λh=> ?_) (λ_=>⟨⟨hb.1,Q0m _⟩,z3⟩)
 have h:=oY h
 have e:wrap i64 (wrap i64 (wrap i64 v*32)+z.1)=v*32+z.1:=by rw[wrap_i64,wrap_i64,wrap_i64];omega
 refine w_cn (by rw[e];simp [bT];omega) (w_nx ?_)
 show(0<=i64.wrap (z.1+1)/\i64.wrap (z.1+1)<=32/\Q0x P (dH _ _ _))/\(32-i64.wrap (z.1+1)).toNat<(32-z.1).toNat
 have ew:i64.wrap (z.1+1)=z.1+1:=by rw[wrap_i64];omega
 rw[ew]
 exact⟨⟨by omega,by omega,⟨by simp [hl],z3.p1,z3.p2,Qzd z3.u U_0 _⟩⟩,by omega⟩
structure okM(P:Nat)(m:Q00):Prop where
 cpu:Q29 m.B1
 mem:Q0x P m.Mem
 disk:Q7w m.A9
 nic:Qiv m.B9
 target:okB m.A1
 cnt:0<=m.A4
theorem Z2z(c:Q0c)(port:Int):U (Q4t c port).2:=by
 refine Tree.post (Q38 c port) (W:=λr=>U r.2) ?_
 have u1:U 4294967295:=⟨by omega,by omega⟩
 unfold Q38
 refine w_br (λ_=>w_br (λ_=>u1) (λh=>w_br (λ_=>w_cn ?_ (w_cn ?_ (Q0m _))) (λ_=>w_br (λ_=>Q0m _) (λ_=>U_0)))) (λh1=>w_br (λh=>(by rw[h1]at h;cases h)) (λ_=>w_br (λ_=>Q0m _) (λ_=>U_0)))
 . have h: ¬(c.D0.length:Int)=0:=by simpa using h
   exact dY ⟨by omega,by omega,by omega⟩
 . have h: ¬(c.D0.length:Int)=0:=by simpa using h
   simp [bT];omega
theorem zy{n:Q0n}(h:Qiv n)(port:Int):U (Qgl n port):=by
 refine Tree.post (Qet n port) (W:=U) ?_
 have u1:U 1:=⟨by omega,by omega⟩
 unfold Qet
 exact w_br (λ_=>h.frame) (λ_=>w_br (λ_=>h.got) (λ_=>w_br (λ_=>w_br (λ_=>w_br (λ_=>Q0m _) (λ_=>u1)) (λ_=>w_br (λ_=>Q0m _) (λ_=>U_0))) (λ_=>U_0)))
theorem Zkc{d:Q0d}(h:Q7w d)(port:Int):U (Qhf d port):=by
 refine Tree.post (Qg3 d port) (W:=U) ?_
 unfold Qg3
 exact w_br (λ_=>h.block) (λ_=>w_br (λ_=>h.frame) (λ_=>w_br (λ_=>Q0m _) (λ_=>U_0)))
theorem Zfz(t:Q0i):U (Qer t):=by
 refine Tree.post (Qe6 t) (W:=U) ?_
 unfold Qe6
 exact w_br (λ_=>⟨by omega,by omega⟩) (λ_=>U_0)
theorem Z0m{b:Q07}(h:U b.C6)(port:Int):U (Q4v b port):=by
 refine Tree.post (Q5j b port) (W:=U) ?_
 unfold Q5j
 exact w_br (λ_=>h) (λ_=>w_br (λ_=>w_lv λ_ _=>Q0m _) (λ_=>U_0))
structure okR(P:Nat)(r:Q01):Prop where
 m:okM P r.A0
 clock:U r.B3
structure okL(P:Nat)(r x:Q01):Prop where
 ok:okR P x
 log:x.C8=r.C8
 queue:x.B0=r.B0
theorem w0(x:Int):0<=u64.wrap x:=by rw[wrap_u64];omega
section
variable {P:Nat} {r:Q01} (h:okR P r)
include h
theorem in_w(port:Int){clock:Int}(hc:U clock):(Qhi r port clock).w (λx=>U x.1/\okL P r x.2):=by
 have k:okL P r r:=⟨h,rfl,rfl⟩
 obtain⟨⟨h1,h2,h3,h4,h5,h7⟩,h6⟩:=h
 unfold Qhi
 exact w_br (λ_=>w_lv λx hx=>⟨hx▸Z2z _ _,⟨⟨⟨h1,h2,h3,h4,h5,h7⟩,h6⟩,rfl,rfl⟩⟩) (λ_=>w_br (λ_=>⟨hc,k⟩) (λ_=>w_br (λ_=>w_lv λx hx=>⟨hx▸Zfz _,k⟩) (λ_=>w_br (λ_=>w_lv λx hx=>⟨hx▸Zkc h3 _,k⟩) (λ_=>w_br (λ_=>w_lv λx hx=>⟨hx▸zy h4 _,k⟩) (λ_=>w_lv λx hx=>⟨hx▸Z0m h5.1 _,k⟩)))))
theorem out_w(port:Int){v:Int}(hv:U v):(Qbh r port v).w (λx=>x.1.length<=1/\okL P r x.2):=by
 have k:okL P r r:=⟨h,rfl,rfl⟩
 obtain⟨⟨h1,h2,h3,h4,h5,h7⟩,h6⟩:=h
 unfold Qbh
 exact w_br (λ_=>⟨aO _,k⟩) (λ_=>w_br (λ_=>⟨aT _,k⟩) (λ_=>w_br (λ_=>w_lv λ_ _=>⟨aT _,⟨⟨⟨h1,h2,h3,h4,h5,h7⟩,h6⟩,rfl,rfl⟩⟩) (λ_=>w_br (λ_=>Q08 (Zgi h2 h3 _ hv _) λx hx=>⟨hx.2,⟨⟨⟨h1,h2,hx.1,h4,h5,h7⟩,h6⟩,rfl,rfl⟩⟩) (λ_=>w_br (λ_=>Q08 (Zkk h2 h4 _ hv _) λx hx=>⟨hx.2,⟨⟨⟨h1,h2,h3,hx.1,h5,h7⟩,h6⟩,rfl,rfl⟩⟩) (λ_=>Q08 (v7 h2 h5 _ hv) λx hx=>⟨aT _,⟨⟨⟨h1,hx.2,h3,h4,hx.1,h7⟩,h6⟩,rfl,rfl⟩⟩)))))
theorem Qt7{clock:Int}(hc:U clock):(Q5m r clock).w (λx=>x.1.length<=1/\okL P r x.2):=by
 obtain⟨⟨h1,h2,h3,h4,h5,h7⟩,h6⟩:=h
 unfold Q5m
 refine Q08 (Qgj h1) λx0 c0=>Q08 (do_w c0 h2) λx1 hx=> ?_
 obtain⟨c1,v1,m1⟩:=hx
 refine w_br (λ_=>Zeg (in_w (r:=⟨⟨_,_,_,_,_,_,_,_,_,_⟩,_,_,_⟩) ⟨⟨c1,m1,h3,h4,h5,h7⟩,h6⟩ _ hc) λx2 hx=> ?_) (λ_=>w_br (λ_=>Q08 (out_w (r:=⟨⟨_,_,_,_,_,_,_,_,_,_⟩,_,_,_⟩) ⟨⟨c1,m1,h3,h4,h5,h7⟩,h6⟩ _ v1) λx4 hx=> ?_) (λ_=> ?_))
 . obtain⟨u,⟨⟨⟨k1,k2,k3,k4,k5,k7⟩,k6⟩,e1,e2⟩⟩:=hx
   exact Q08 (Z4u k1 _ u) λx3 h3=>⟨aT _,⟨⟨⟨h3,k2,k3,k4,k5,w0 _⟩,k6⟩,e1,e2⟩⟩
 . obtain⟨u,⟨⟨⟨k1,k2,k3,k4,k5,k7⟩,k6⟩,e1,e2⟩⟩:=hx
   exact⟨u,⟨⟨⟨k1,k2,k3,k4,k5,w0 _⟩,k6⟩,e1,e2⟩⟩
 . repeat'(first
     |exact⟨aT _,⟨⟨⟨c1,m1,h3,h4,h5,w0 _⟩,h6⟩,rfl,rfl⟩⟩
     |refine w_br (λ_=> ?_) (λ_=> ?_))
end
theorem y8(c:Q0c)(b:Int):(Qhs c b).w (λ_=>True):=by
 unfold Qhs
 refine w_br (λ_=>trivial) (λh=>w_cn (dY ?_) trivial)
 have h:=oN h
 simp [maxLen];omega
theorem Zkj{P:Nat}{m:List Int}(hm:Q0x P m){n:Q0n}(hn:Qiv n)(frame:List UInt8):(Q9u n m frame).w (λr=>Qiv r.1/\Q0x P r.2.2):=by
 unfold Q9u
 refine w_br (λ_=>⟨hn,hm⟩) (λ_=>w_br (λ_=>⟨hn,hm⟩) (λ_=>w_br (λ_=>⟨hn,hm⟩) (λ_=>w_lv λx0 hx=>w_br (λ_=>⟨hn,hm⟩) (λhb=> ?_))))
 have hp:Q22 m n.C0=true:=hx.symm.trans (by simpa using hb)
 rw[Qm2 hm hn.buffer]at hp
 have hp:=oY hp
 obtain⟨b1,b2⟩:=hn.buffer
 have ew:i64.wrap n.C0=n.C0:=by rw[wrap_i64];omega
 exact Q08 (vZ hm (frame:=i64.wrap n.C0) (by rw[ew];exact b1) (by rw[ew];exact hp) frame) λx hx=>⟨⟨hn.frame,hn.len,U_0,Q0m _⟩,hx⟩
section
variable {P:Nat} {r:Q01} (h:okR P r)
include h
theorem qay{e:Q0e}(he:U e.N):(Q81 r e).w (λx=>okL P r x.2):=by
 have k:okL P r r:=⟨h,rfl,rfl⟩
 obtain⟨⟨h1,h2,h3,h4,h5,h7⟩,h6⟩:=h
 unfold Q81
 repeat'(first
   |exact k
   |exact⟨⟨⟨h1,h2,h3,h4,⟨he,h5.2⟩,h7⟩,h6⟩,rfl,rfl⟩
   |exact w_lv λ_ _=>⟨⟨⟨h1,h2,h3,h4,h5,h7⟩,h6⟩,rfl,rfl⟩
   |exact Q08 (y8 _ _) λ_ _=>⟨⟨⟨h1,h2,h3,h4,h5,h7⟩,h6⟩,rfl,rfl⟩
   |exact Q08 (Zju h2 h3 _) λx hx=>⟨⟨⟨h1,hx.2,hx.1,h4,h5,h7⟩,h6⟩,rfl,rfl⟩
   |exact Q08 (Zkj h2 h4 _) λx hx=>⟨⟨⟨h1,hx.2,h3,hx.1,h5,h7⟩,h6⟩,rfl,rfl⟩
   |refine w_br (λ_=> ?_) (λ_=> ?_))
theorem yy{e:Q0e}(he:U e.N)(hl:r.C8.length<=1000000):(Qa r e).w (λx=>okR P x/\x.C8.length<=r.C8.length+1/\x.B0=r.B0):=by
 have acc:(Q70 r e).w (λx=>okL P r x.2):=by
   unfold Q70
   exact Q08 (qay h he) λx hx=>hx
 unfold Qa
 refine Q08 acc λx hx=> ?_
 obtain⟨⟨k1,k2⟩,e1,e2⟩:=hx
 refine w_br (λ_=>w_cn (dY (by rw[e1];omega)) ⟨⟨k1,k2⟩,by simp [e1],e2⟩) (λ_=>⟨⟨k1,k2⟩,by rw[e1];omega,e2⟩)
theorem own_w(hl:r.C8.length<=1000000)(hq:r.B0.length<=1000000):(Qdd r).w (λx=>okR P x/\x.C8=r.C8/\x.B0=r.B0):=by
 have ow:(Q86 r.A0).w (λm=>okM P m):=by
   obtain⟨⟨h1,h2,h3,h4,h5,h7⟩,h6⟩:=h
   unfold Q86
   exact Q08 (yZ h2) λx hx=>⟨h1,by rw[hx];exact h2,h3,h4,h5,h7⟩
 unfold Qdd
 refine Q08 ow λx hx=>w_cn (dY (by simp;omega)) (w_cn (dY (by simp;omega)) ⟨⟨hx,h.clock⟩,rfl,rfl⟩)
theorem vT(e:Q0e)(hl:r.C8.length<=1000000)(hq:r.B0.length<=16)(hu: ∀q∈r.B0,U q.N)(he:U e.N):(Q87 r e).w (λx=>okR P x.1/\x.1.C8=r.C8/\x.1.B0.length<=16/\ ∀q∈x.1.B0,U q.N):=by
 unfold Q87
 refine Q08 (own_w h hl (by omega)) λx hx=> ?_
 obtain⟨k1,k2,k3⟩:=hx
 have g:okR P x/\x.C8=r.C8/\x.B0.length<=16/\ ∀q∈x.B0,U q.N:=⟨k1,k2,by rw[k3];exact hq,by rw[k3];exact hu⟩
 refine w_lv λx1 _=>w_br (λ_=>g) (λ_=>w_br (λ_=>g) (λ_=>w_br (λ_=>g) (λhb=>w_cn (dY (by rw[k3];omega)) ?_)))
 have hb:=oN hb
 refine⟨⟨k1.m,k1.clock⟩,k2,?_,?_⟩
 . show(x.B0++[e]).length<=16
   rw[lA];simp at hb⊢;omega
 . intro q hq
   have hq:q∈x.B0++[e]:=hq
   rw[List.mem_append]at hq
   rcases hq with hq|hq
   . exact hu q (k3▸hq)
   . rw[List.mem_singleton.1 hq];exact he
end
theorem qz(n:Int):(Qew n).w (λe=>U e.N):=by
 have u1:U 1:=⟨by omega,by omega⟩
 have ev40: ∀x y,Q4m x (wrap .i64 (1+dF y 40)):=λx y=>by
   show wrap .i64 (1+dF y 40)<=1000000000000
   have h1:=Int.tmod_lt_of_pos y (b:=40) (by decide)
   have h2:=Int.lt_tmod_of_pos y (b:=40) (by decide)
   rw[wrap_i64];omega
 unfold Qew
 refine w_lv λx0 _=> ?_
 repeat'(first
   |exact U_0
   |exact u1
   |exact Q0m _
   |exact w_an (show(128:Int)<=1000000000000 by decide) (w_lv λ_ _=>u1)
   |exact w_an (ev40 _ _) (w_lv λ_ _=>U_0)
   |refine w_br (λ_=> ?_) (λ_=> ?_))

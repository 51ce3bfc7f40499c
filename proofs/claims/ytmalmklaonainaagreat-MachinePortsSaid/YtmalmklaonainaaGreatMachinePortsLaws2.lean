import Derived.Test.YtmalmklaonainaaGreatMachinePortsZx
set_option maxRecDepth 100000
set_option linter.all false
namespace Go.Proofs.YtmalmklaonainaaGreat
open Go Go.GD
open Go.IntKind(wrap i64 u32 u64 u8 i32 wrap_i64 wrap_u32 wrap_u64 wrap_u8 wrap_i32)
def U(x:Int):Prop:=0<=x/\x<4294967296
theorem Q0g(x:Int):U (u32.wrap x):=by rw[wrap_u32];unfold U;omega
theorem Z56(x y:Int):U (iand .u32 x y):=Q0g _
theorem U_or(x y:Int):U (ior .u32 x y):=Q0g _
theorem U_0:U 0:=⟨by omega,by omega⟩
theorem Quy{m:List Int}(h: ∀w∈m,U w){v:Int}(hv:U v)(i:Nat): ∀w∈m.set i v,U w:=by
 intro w hw
 rcases List.mem_or_eq_of_mem_set hw with h1|h1
 . exact h w h1
 . rw[h1];exact hv
structure Q0n(P:Nat)(m:List Int):Prop where
 len:m.length=32*P
 p1:0<=P
 p2:P<=32
 u: ∀w∈m,U w
structure Q6g(d:Q09):Prop where
 block:U d.B5
 frame:U d.Frame
 opBlock:U d.B2
 opFrame:U d.B0
structure Qds(n:Q0k):Prop where
 frame:U n.Frame
 len:U n.D4
 buffer:U n.B6
 got:U n.D5
theorem Qfd{l:List Int}(h: ∀w∈l,U w)(i:Nat):U (l.getD i 0):=by
 by_cases hi:i<l.length
 . have:l.getD i 0=l[i]:=by simp [List.getD,hi]
   rw[this];exact h _ (List.getElem_mem hi)
 . have:l.getD i 0=0:=by simp [List.getD,List.getElem?_eq_none (by omega:l.length<=i)]
   rw[this];exact U_0
structure Q21(c:Q03):Prop where
 x: ∀w∈A16.l c.X,U w
 pc:U c.Pc
 csr: ∀w∈A8.l c.B3,U w
theorem Z4u{X:A16 Int}(h: ∀w∈A16.l X,U w){v:Int}(hv:U v)(i:Nat): ∀w∈A16.l (A16.of 0 (List.set (A16.l X) i v)),U w:=by
 have hs:=Quy h hv i
 intro w hw
 simp only[A16.l,A16.of,List.mem_cons,List.not_mem_nil,or_false]at hw
 repeat(first|(rcases hw with rfl|hw; · exact Qfd hs _)|(subst hw;exact Qfd hs _))
theorem Z2q{X:A8 Int}(h: ∀w∈A8.l X,U w){v:Int}(hv:U v)(i:Nat): ∀w∈A8.l (A8.of 0 (List.set (A8.l X) i v)),U w:=by
 have hs:=Quy h hv i
 intro w hw
 simp only[A8.l,A8.of,List.mem_cons,List.not_mem_nil,or_false]at hw
 repeat(first|(rcases hw with rfl|hw; · exact Qfd hs _)|(subst hw;exact Qfd hs _))
section
variable {c:Q03} (h:Q21 c)
include h
theorem Q21.a(i:Nat):U ((A8.l c.B3).getD i 0):=Qfd h.csr i
theorem Q21.r(i:Nat):U ((A16.l c.X).getD i 0):=Qfd h.x i
theorem Q21.a0:U c.B3.a0:=h.a 0
theorem Q21.a1:U c.B3.a1:=h.a 1
theorem Q21.a2:U c.B3.a2:=h.a 2
theorem Q21.a3:U c.B3.a3:=h.a 3
theorem Q21.a4:U c.B3.a4:=h.a 4
theorem Q21.a5:U c.B3.a5:=h.a 5
theorem Q21.a6:U c.B3.a6:=h.a 6
theorem Q21.a7:U c.B3.a7:=h.a 7
theorem Q21.pcs{p:Int}(hp:U p):Q21 {X:=c.X,Pc:=p,B3:=c.B3}:=⟨h.x,hp,h.csr⟩
end
section
variable {α β:Type} {W:β->Prop} {t:Tree α} {Q:α->Prop} {k:α->Tree β}
theorem Q0c(hq:t.w Q)(g: ∀x,Q x->(k x).w W):(Tree.an t.p (Tree.lv t.m k)).w W:=⟨(Tree.pp hq).1,λy hy=>g y (by rw[hy];exact(Tree.pp hq).2)⟩
theorem Z61(hq:t.w Q)(g: ∀x,Q x->(k x).w W):(Tree.lv t.m k).w W:=λy hy=>g y (by rw[hy];exact t.post hq)
end
theorem rc{r:Int}(h:0<=r/\r<16):(Nat.blt 0 1&&decide (0<=r/\r<((16:Nat):Int)))=true:=by simp [Nat.blt];omega
theorem Qnv{a:Int}(h:U a)(b:Int):U (ishr .u32 a b):=by
 unfold ishr U
 obtain⟨h1,h2⟩:=h
 have hp:(0:Int)<2^(min b.toNat u32.bits):=Int.pow_pos (by decide)
 have:=Int.fdiv_nonneg h1 (Int.le_of_lt hp)
 refine⟨this,?_⟩
 rw[Int.fdiv_eq_ediv_of_nonneg _ (Int.le_of_lt hp)]
 have h3:=Int.ediv_le_self (2^(min b.toNat u32.bits)) h1
 omega
structure Qax(i:Q0e):Prop where
 a:0<=i.A/\i.A<16
 b:0<=i.B/\i.B<16
 c:0<=i.C/\i.C<16
 csr:i.Op=58->0<=i.Imm/\i.Imm<8
theorem Qtk{P:Nat}{m:List Int}(h:Q0n P m):Q0i m=P:=by
 obtain⟨h1,h2,h3,_⟩:=h
 simp only[Q0i,Q66,Tree.m]
 have e:(m.length:Int)=32*P:=by omega
 rw[e]
 have e1:(Int.tmod (32*(P:Int)) 32 !=0)=false:=by simp [Int.mul_tmod_right]
 have e2:decide ((32*(P:Int))>1024)=false:=dN (by omega)
 rw[e1,e2]
 simp only[cond_false]
 rw[Int.mul_tdiv_cancel_left _ (by decide),wrap_i64];omega
theorem vP(n:Int):(Q8k n).w (λ_=>True):=by
 unfold Q8k
 exact w_br (λ_=>trivial) (λ_=>w_cn (dY (by rw[wrap_u64];omega)) trivial)
theorem Qo0(w low n:Int):(Q6x w low n).w U:=by
 unfold Q6x
 exact w_br (λ_=>U_0) (λ_=>w_br (λ_=>U_0) (λ_=>w_br (λ_=>U_0) (λ_=>w_cn (dY (by rw[wrap_u64];omega)) (Q0c (vP n) λ_ _=>Z56 _ _))))
theorem Z8k{w:Int}(hw:U w)(low n v:Int):(Q6m w low n v).w U:=by
 have h0:decide (0<=wrap u64 low)=true:=dY (by rw[wrap_u64];omega)
 unfold Q6m
 exact w_br (λ_=>hw) (λ_=>w_br (λ_=>hw) (λ_=>w_br (λ_=>hw) (λ_=>Q0c (vP n) λ_ _=>w_cn h0 (w_cn h0 (U_or _ _)))))
theorem Qnp{x:Int}(hx:U x)(n:Int):(Q55 x n).w U:=by
 have h0: ∀y,decide (0<=wrap u64 y)=true:=λy=>dY (by rw[wrap_u64];omega)
 unfold Q55
 exact w_br (λ_=>U_0) (λ_=>w_br (λ_=>hx) (λ_=>w_cn (h0 _) (w_cn (h0 _) (Q0g _))))
section
variable {P:Nat} {m:List Int} (h:Q0n P m)
include h
theorem Q6h:Q05 m:=by
 have:=h.len
 have:=h.p2
 show m.length<=35184372088832
 omega
theorem Z2t{a:Int}(ha:U a){size:Int}(hs:size=1\/size=4):(Q28 m a size).w (λb=>b=true->a+size<=128*P):=by
 have hp:=Qtk h
 have h2:=h.p2
 obtain⟨a1,a2⟩:=ha
 have e:decide (wrap u32 size≠0)=true:=by rcases hs with rfl|rfl<;>decide
 have l: ∀x,x=Q0i m->decide (wrap u64 (wrap u64 a+wrap u64 size)<=wrap u64 (wrap u64 x*128))=true->a+size<=128*P:=λx hx hd=>by
   rw[hx,hp]at hd
   have:=oY hd
   simp only[wrap_u64]at this
   omega
 unfold Q28
 refine w_br (λ_=>w_br (λ_=>λh=>by cases h) (λ_=> ?_)) (λ_=> ?_)<;>
 exact w_cn e (w_br (λ_=>λh=>by cases h) (λ_=>w_lv λx hx=>l x hx))
theorem idxP{a:Int}(ha:U a)(hl:a<128*P):(Nat.beq 1 1&&Nat.blt 0 1&&decide (0<=wrap u32 (Int.tdiv a 4)/\wrap u32 (Int.tdiv a 4)<(m.length:Int)))=true:=by
 obtain⟨a1,a2⟩:=ha
 have e:wrap u32 (Int.tdiv a 4)=a/4:=by rw[wrap_u32,Int.tdiv_eq_ediv_of_nonneg a1];omega
 have:=h.len
 rw[e];simp [Nat.blt];omega
theorem Qk4{a:Int}(ha:U a){size:Int}(hs:size=1\/size=4):(Q4o m a size).w (λr=>U r.1/\(r.2=true->a<128*P)):=by
 unfold Q4o
 refine Q0c (Z2t h ha hs) λx hx=>w_br (λ_=>⟨U_0,λh=>by cases h⟩) (λhb=> ?_)
 have hl:=hx (by simpa using hb)
 have hl:a<128*P:=by omega
 exact w_cn (idxP h ha hl) (w_br (λ_=>Q0c (Qo0 _ _ _) λy hy=>⟨hy,λ_=>hl⟩) (λ_=>⟨Qfd h.u _,λ_=>hl⟩))
theorem Qqc{a:Int}(ha:U a){size:Int}(hs:size=1\/size=4){v:Int}(hv:U v):(Q68 m a size v).w (λr=>Q0n P r.1):=by
 have st: ∀i v,U v->Q0n P (m.set i v):=λi v hv=>⟨by simp [h.len],h.p1,h.p2,Quy h.u hv i⟩
 have hcl:Q01 m=m:=rfl
 unfold Q68
 refine w_an (Q6h h) (w_lv λx0 hx0=> ?_)
 rw[hcl]at hx0;subst hx0
 refine Q0c (Z2t h ha hs) λx hx=>w_br (λ_=>h) (λhb=> ?_)
 have hl:=hx (by simpa using hb)
 have hl:a<128*P:=by omega
 exact w_br (λ_=>w_cn (idxP h ha hl) (Q0c (Z8k (Qfd h.u _) _ _ _) λy hy=>w_cn (idxP h ha hl) (st _ _ hy))) (λ_=>w_cn (idxP h ha hl) (st _ _ hv))
end
theorem Z5n{r:Int}{used:Bool}(h:Q6l r used=true):0<=r/\r<16:=by
 simp only[Q6l,Qan,Tree.m]at h
 cases used
 . have h:(r==0)=true:=h
   have:=eq_of_beq h;omega
 . cases h1:decide (r>=0)<;>rw[h1]at h
   . cases h
   . have h1:=oY h1
     have h:=oY h
     omega
theorem zp{i:Q0e}(h:Qas i=true):Qax i:=by
 have no:false=true->Qax i:=λh=>by cases h
 refine(Tree.post (Qda i) (W:=λb=>b=true->Qax i) ?_) h
 unfold Qda
 refine w_lv λx0 h0=>w_br (λ_=>w_lv λx1 h1=>w_br (λb1=>w_lv λx2 h2=>w_br (λb2=>w_lv λx3 h3=>w_br (λb3=>w_br (λb4=>λb5=> ?_) (λ_=>no)) (λ_=>no)) (λ_=>no)) (λ_=>no)) (λ_=>no)
 have b4:=oY b4
 have b5:=oY b5
 refine⟨Z5n (h1.symm.trans b1),Z5n (h2.symm.trans b2),Z5n (h3.symm.trans b3),λe=> ?_⟩
 rw[e]at h0
 have h0:x0=({a:=true,b:=false,c:=false,low:=0,C8:=7},true):=h0
 subst h0
 simp at b4 b5;omega
theorem Qte(w:Int):(Q5d w).w (λr=>r.2=true->Qax r.1):=by
 have no: ∀{p:Prop},false=true->p:=λh=>by cases h
 have l: ∀i,(Tree.lv (Qas i) λx=> .br (!x) (.lf ((⟨0,0,0,0,0⟩:Q0e),false)) (.lf (i,true))).w (λr=>r.2=true->Qax r.1):=λi=>w_lv λx hx=>w_br (λ_=>no) (λhb=>λ_=>zp (hx.symm.trans (by simpa using hb)))
 unfold Q5d
 exact Q0c (Qo0 _ _ _) λx0 _=>Q0c (Qo0 _ _ _) λx1 _=>Q0c (Qo0 _ _ _) λx2 _=>w_lv λx3 _=>w_br (λ_=>no) (λ_=>Q0c (Qo0 _ _ _) λx4 h4=>w_br (λ_=>l _) (λ_=>w_br (λ_=>Q0c (Qnp h4 _) λx6 _=>l _) (λ_=>l _)))
section
variable {P:Nat} {m:List Int} (h:Q0n P m)
include h
theorem zJ{f:Int}(hf:U f):Q72 m f=decide (f<P):=by
 have:=Qtk h
 obtain⟨h1,h2⟩:=hf
 have h3:=h.p2
 simp only[Q72,Qd0,Tree.m,letv,this]
 congr 1
 rw[wrap_u64,wrap_u64,Int.emod_eq_of_lt h1 (by omega),Int.emod_eq_of_lt (by omega) (by omega)]
theorem v8{root va:Int}(hv:U va)(access:Int):(Q74 m root va access).w (λt=>U t.Addr/\U t.D6):=by
 have bad:U (0:Int)/\U (0:Int):=⟨U_0,U_0⟩
 have fr: ∀x,(Q5t x).w U:=λx=>by
   unfold Q5t
   exact Q0c (Qo0 _ _ _) λy hy=>hy
 unfold Q74
 exact w_lv λx0 _=>w_br (λ_=>bad) (λ_=>w_br (λ_=>bad) (λ_=>w_lv λx1 _=>w_br (λ_=>bad) (λ_=>Q0c (Qk4 h (Q0g _) (.inr rfl)) λx2 _=>w_br (λ_=>bad) (λ_=>w_lv λx3 _=>w_br (λ_=>bad) (λ_=>Q0c (fr _) λx4 _=>w_lv λx5 _=>w_br (λ_=>bad) (λ_=>Q0c (fr _) λx6 _=>⟨Q0g _,Q0g _⟩))))))
theorem yJ{a:Int}(ha:U a)(access:Int):(Q63 m a access).w (Q0n P):=by
 have hcl:Q01 m=m:=rfl
 unfold Q63
 exact Q0c (Qk4 h ha (.inr rfl)) λx0 _=>w_br (λ_=>w_an (Q6h h) (w_lv λx1 h1=>by rw[h1,hcl];exact h)) (λ_=>w_br (λ_=>Q0c (Qqc h ha (.inr rfl) (U_or _ _)) λx hx=>hx) (λ_=>Q0c (Qqc h ha (.inr rfl) (U_or _ _)) λx hx=>hx))
theorem Qf{c:Q03}{va:Int}(hv:U va){size:Int}(hs:size=1\/size=4)(access:Int):(Q4m c m va size access).w (λr=>U r.1/\Q0n P r.2.1):=by
 have hcl:Q01 m=m:=rfl
 have e:decide (wrap u32 size≠0)=true:=by rcases hs with rfl|rfl<;>decide
 have cl: ∀(K:List Int->Int×List Int×Int),(∀x,x=m->U (K x).1/\Q0n P (K x).2.1)->(Tree.an (Q05 m) (.lv (Q01 m) λx=> .lf (K x))).w (λr=>U r.1/\Q0n P r.2.1):=λK hK=>w_an (Q6h h) (w_lv λx hx=>hK x (hx.trans hcl))
 have z: ∀(k:Nat) (x:List Int),x=m->U (0:Int)/\Q0n P x:=λ_ x hx=>⟨U_0,hx▸h⟩
 have v: ∀x,x=m->U va/\Q0n P x:=λx hx=>⟨hv,hx▸h⟩
 have main: ∀(x0:Int×Bool),(Tree.cn (decide (wrap u32 size≠0)) (.br (Int.tmod va (wrap u32 size) !=0) (.an (Q05 m) (.lv (Q01 m) λx3=> .lf ((0:Int),x3,(3:Int)))) (.lv (Q8r c) λx4=> .br (!x4) (.br (iand u32 c.B3.a0 4 !=0) (.an (Qdg m c.B3.a6 va access) (.lv (Qdl m c.B3.a6 va access) λx5=> .br (x5.D3 !=0) (.an (Q05 m) (.lv (Q01 m) λx6=> .lf (0,x6,x5.D3))) (.an (Qbh m x5.D6 access) (.lv (Q8p m x5.D6 access) λx7=> .lf (x5.Addr,x7,0))))) (.an (Q26 m va size) (.lv (Q3d m va size) λx8=> .br (!x8.2) (.an (Q05 m) (.lv (Q01 m) λx9=> .lf (0,x9,x0.1))) (.an (Q05 m) (.lv (Q01 m) λx10=> .lf (va,x10,0)))))) (.an (Q26 m va size) (.lv (Q3d m va size) λx11=> .br (!x11.2) (.an (Q05 m) (.lv (Q01 m) λx12=> .lf (0,x12,x0.1))) (.an (Q05 m) (.lv (Q01 m) λx13=> .lf (va,x13,0)))))))).w (λr=>U r.1/\Q0n P r.2.1):=λx0=>
   w_cn e (w_br (λ_=>cl _ (z 0)) (λ_=>w_lv λx4 _=>w_br (λ_=>w_br (λ_=>Q0c (v8 h hv access) λx5 hx=>w_br (λ_=>cl _ (z 0)) (λ_=>Q0c (yJ h hx.2 access) λx7 h7=>⟨hx.1,h7⟩)) (λ_=>Q0c (Qk4 h hv hs) λx8 _=>w_br (λ_=>cl _ (z 0)) (λ_=>cl _ v))) (λ_=>Q0c (Qk4 h hv hs) λx8 _=>w_br (λ_=>cl _ (z 0)) (λ_=>cl _ v))))
 unfold Q4m
 exact w_lv λx0 _=>w_br (λ_=>cl _ (z 0)) (λ_=>w_br (λ_=>w_br (λ_=>cl _ (z 0)) (λ_=>main x0)) (λ_=>main x0))
theorem Qyl{c:Q03}(hc:Q21 c):(Q8e c m).w (λr=>U r.1/\Q0n P r.2.1):=by
 unfold Q8e
 exact Q0c (Qf h hc.pc (.inr rfl) 1) λx0 h0=>w_br (λ_=>⟨U_0,h0.2⟩) (λ_=>Q0c (Qk4 h0.2 h0.1 (.inr rfl)) λx1 h1=>⟨h1.1,h0.2⟩)
end
theorem y9{s a b:Int}:U (Q6c s a b):=by
 refine Tree.post (Qiv s a b) (W:=U) ?_
 unfold Qiv
 exact w_br (λ_=>Q0g _) (λ_=>Q0g _)
section
variable {c:Q03} (h:Q21 c)
include h
theorem Qki(k:Int){b:Int}(hb:U b):Q21 (Q3b c k b):=by
 refine(Tree.post (Qff c k b) (W:=Q21) ?_)
 unfold Qff
 refine w_lv λ_ _=>w_lv λ_ _=>⟨h.x,h.a1,?_⟩
 intro w hw
 simp only[A8.l,List.mem_cons,List.not_mem_nil,or_false]at hw
 rcases hw with rfl|rfl|rfl|rfl|rfl|rfl|rfl|rfl
 . exact Q0g _
 . exact h.a1
 . exact h.pc
 . exact Q0g _
 . exact hb
 . exact h.a5
 . exact h.a6
 . exact h.a7
theorem yp:Q21 (Qa6 c):=by
 refine(Tree.post (Qaq c) (W:=Q21) ?_)
 unfold Qaq
 refine w_lv λx0 _=>w_lv λx1 h1=>⟨h.x,h.a2,?_⟩
 intro w hw
 simp only[A8.l,List.mem_cons,List.not_mem_nil,or_false]at hw
 rcases hw with rfl|rfl|rfl|rfl|rfl|rfl|rfl|rfl
 . rw[h1];exact y9
 . exact h.a1
 . exact h.a2
 . exact h.a3
 . exact h.a4
 . exact h.a5
 . exact h.a6
 . exact h.a7
theorem Qk1{r:Int}(hr:0<=r/\r<16){v:Int}(hv:U v):(Q9d c r v).w Q21:=by
 unfold Q9d
 exact w_br (λ_=>w_cn (rc hr) ⟨Z4u h.x hv _,h.pc,h.csr⟩) (λ_=>h)
theorem Z76(k:Int){v:Int}(hv:U v):(Q8a c k v).w Q21:=by
 have ok: ∀i v,U v->Q21 {X:=c.X,Pc:=c.Pc,B3:=A8.of 0 (List.set (A8.l c.B3) i v)}:=λi v hv=>⟨h.x,h.pc,Z2q h.csr hv i⟩
 unfold Q8a
 repeat'(first
   |exact h
   |exact ok _ _ (Q0g _)
   |exact ok _ _ hv
   |refine w_br (λhk=> ?_) (λ_=> ?_)
   |refine w_cn (by rw[eq_of_beq (by assumption:(k==_)=true)];decide) ?_)
end
theorem Z1r{a b:Int}(ha:U a)(hb:U b):(Q79 a b).w (λr=>U r.1/\U r.2):=by
 have u1:U 4294967295:=⟨by omega,by omega⟩
 unfold Q79
 refine w_br (λ_=>⟨u1,ha⟩) (λh=> ?_)
 have h: ¬b=0:=by simpa using h
 obtain⟨b1,b2⟩:=hb
 have hc:decide (wrap i32 b≠0)=true:=dY (by rw[wrap_i32];omega)
 exact w_br (λ_=>w_br (λ_=>⟨ha,U_0⟩) (λ_=>w_cn hc (w_cn hc ⟨Q0g _,Q0g _⟩))) (λ_=>w_cn hc (w_cn hc ⟨Q0g _,Q0g _⟩))
theorem qaa(b:Bool):U (Qho b):=by cases b<;>exact⟨by decide,by decide⟩
theorem Qvy(op:Int){a b:Int}(ha:U a)(hb:U b):(Qi3 op a b).w (λr=>U r.1):=by
 unfold Qi3
 repeat'(first
   |refine w_br (λ_=> ?_) (λ_=> ?_)
   |exact Q0c (Z1r ha hb) λx hx=>hx.1
   |exact Q0c (Z1r ha hb) λx hx=>hx.2
   |exact w_lv λx hx=>(by rw[hx];exact qaa _)
   |refine w_lf ?_)
 all_goals(first
   |exact Q0g _
   |exact Qnv ha _
   |exact U_0)
theorem Qxc(op:Int):Qb5 op=1\/Qb5 op=4:=by
 simp only[Qb5,Qk5,Tree.m]
 cases op==32<;>cases op==35<;>simp
section
variable {c:Q03} (h:Q21 c) {i:Q0e} (hi:Qax i)
include h hi
theorem Z8:(Q3g c i).w (λr=>Q21 r.1/\U r.2.Value):=by
 have k: ∀{x:Q03} {p:Int},Q21 x->U p->Q21 {X:=x.X,Pc:=p,B3:=x.B3}:=λhx hp=>⟨hx.x,hp,hx.csr⟩
 unfold Q3g
 refine w_cn (rc hi.a) (w_cn (rc hi.b) ?_)
 repeat'(first
   |refine w_br (λ_=> ?_) (λ_=> ?_)
   |exact Q0c (Qk1 h hi.a (Q0g _)) λx hx=>⟨k hx (Q0g _),U_0⟩
   |exact w_lv λx _=>w_br (λ_=>⟨k h (Q0g _),U_0⟩) (λ_=>⟨k h (Q0g _),U_0⟩)
   |exact w_lv λx hx=>⟨by rw[hx];exact Qki h _ U_0,U_0⟩
   |exact w_lv λx hx=>⟨by rw[hx];exact yp h,U_0⟩
   |exact w_cn (by have:=hi.csr (by simp_all);simp [Nat.blt];omega) (Q0c (Qk1 h hi.a (h.a _)) λx hx=>⟨k hx (Q0g _),U_0⟩)
   |exact Q0c (Z76 h _ (h.r _)) λx hx=>⟨k hx (Q0g _),U_0⟩
   |refine w_cn (rc hi.c) ?_
   |exact Q0c (Qvy _ (h.r _) (Q0g _)) λy hy=>Q0c (Qk1 h hi.a hy) λx hx=>⟨k hx (Q0g _),U_0⟩
   |exact Q0c (Qvy _ (h.r _) (h.r _)) λy hy=>Q0c (Qk1 h hi.a hy) λx hx=>⟨k hx (Q0g _),U_0⟩
   |refine w_lf ?_)
 all_goals(first
   |exact⟨k h (Q0g _),U_0⟩
   |exact⟨k h (Q0g _),h.r _⟩)
theorem Qt8{P:Nat}{m:List Int}(hm:Q0n P m):(Qa1 c m i).w (λr=>Q21 r.1/\Q0n P r.2):=by
 have w:=Qxc i.Op
 unfold Qa1
 refine w_cn (rc hi.b) (w_lv λx0 h0=> ?_)
 rw[<-h0]at w
 refine Q0c (Qf hm (Q0g _) w 2) λx1 h1=>w_br (λ_=>w_lv λy hy=>⟨by rw[hy];exact Qki h _ (Q0g _),h1.2⟩) (λ_=>w_lv λx3 h3=> ?_)
 rw[h0,<-h3]at w
 exact Q0c (Qk4 h1.2 h1.1 w) λx4 h4=>w_br (λ_=>Q0c (Qnp h4.1 8) λy hy=>Q0c (Qk1 h hi.a hy) λx hx=>⟨⟨hx.x,Q0g _,hx.csr⟩,h1.2⟩) (λ_=>Q0c (Qk1 h hi.a h4.1) λx hx=>⟨⟨hx.x,Q0g _,hx.csr⟩,h1.2⟩)
theorem Qp1{P:Nat}{m:List Int}(hm:Q0n P m):(Q8d c m i).w (λr=>Q21 r.1/\Q0n P r.2):=by
 have w:=Qxc i.Op
 unfold Q8d
 refine w_cn (rc hi.b) (w_lv λx0 h0=> ?_)
 rw[<-h0]at w
 refine Q0c (Qf hm (Q0g _) w 3) λx1 h1=>w_br (λ_=>w_lv λy hy=>⟨by rw[hy];exact Qki h _ (Q0g _),h1.2⟩) (λ_=>w_lv λx3 h3=>w_cn (rc hi.a) ?_)
 rw[h0,<-h3]at w
 exact Q0c (Qqc h1.2 h1.1 w (h.r _)) λx hx=>⟨⟨h.x,Q0g _,h.csr⟩,hx⟩
end
theorem zaa{c:Q03}(h:Q21 c){P:Nat}{m:List Int}(hm:Q0n P m):(Q5 c m).w (λr=>Q21 r.1/\Q0n P r.2.1/\U r.2.2.Value):=by
 unfold Q5
 refine Q0c (Qyl hm h) λx0 h0=>w_br (λ_=>w_lv λy hy=>⟨by rw[hy];exact Qki h _ h.pc,h0.2,U_0⟩) (λ_=>Q0c (Qte _) λx2 h2=>w_br (λ_=>w_lv λy hy=>⟨by rw[hy];exact Qki h _ h0.1,h0.2,U_0⟩) (λhb=> ?_))
 have hi:=h2 (by simpa using hb)
 refine w_lv λx4 _=> ?_
 repeat'(first
   |refine w_br (λ_=> ?_) (λ_=> ?_)
   |exact Q0c (Qt8 h hi h0.2) λx hx=>⟨hx.1,hx.2,U_0⟩
   |exact Q0c (Qp1 h hi h0.2) λx hx=>⟨hx.1,hx.2,U_0⟩
   |exact Q0c (Z8 h hi) λx hx=>⟨hx.1,h0.2,hx.2⟩
   |exact w_lv λy hy=>⟨by rw[hy];exact Qki h _ h0.1,h0.2,U_0⟩
   |refine w_lv λ_ _=> ?_)
theorem Z7n{a:Int}(h:U a)(k:Nat)(hk:k<=32):0<=ishr .u32 a k/\ishr .u32 a k*2^k<=a:=by
 obtain⟨h1,h2⟩:=h
 unfold ishr
 have e:min (k:Int).toNat u32.bits=k:=by show min (k:Int).toNat 32=k;omega
 have hp:(0:Int)<2^k:=Int.pow_pos (by decide)
 rw[e,Int.fdiv_eq_ediv_of_nonneg _ (Int.le_of_lt hp)]
 exact⟨Int.ediv_nonneg h1 (Int.le_of_lt hp),Int.ediv_mul_le a (Int.ne_of_gt hp)⟩
theorem Z6f(x:Int):0<=u8.wrap x/\u8.wrap x<256:=by rw[wrap_u8];omega
theorem xaa{x:Int}(h:U x):(Q1a x).w (λ_=>True):=by
 have s16:=Z7n h 16 (by omega)
 have s8:=Z7n h 8 (by omega)
 have s24:=Z7n (Qnv h 16) 8 (by omega)
 obtain⟨h1,h2⟩:=h
 unfold Q1a
 repeat'(first
   |refine w_br (λ_=> ?_) (λ_=> ?_)
   |refine w_cn (dY ⟨?_,Int.lt_of_lt_of_le (b:=256) ?_ (Int.le_of_eq (by kernel_rfl))⟩) ?_
   |exact trivial
   |refine w_lf ?_)
 all_goals(first
   |trivial
   |exact(Z6f _).1
   |exact(Z6f _).2
   |(simp only[decide_eq_true_eq,decide_eq_false_iff_not]at*;simp at s16 s8 s24;omega))
theorem and255(a:Int):iand .u32 a 255<256:=by
 unfold iand
 rw[wrap_u32]
 have:(BitVec.ofInt u32.bits a&&&BitVec.ofInt u32.bits 255).toNat<=255:=by
   show(BitVec.ofInt 32 a&&&BitVec.ofInt 32 255).toNat<=255
   rw[BitVec.toNat_and]
   exact Nat.le_trans Nat.and_le_right (by decide)
 omega
theorem xal{x:Int}(h:U x):(Q25 x).w (λ_=>True):=by
 have s24:=Z7n h 24 (by omega)
 obtain⟨h1,h2⟩:=h
 have i24:ishr .u32 x 24<256:=by simp at s24;omega
 unfold Q25
 repeat'(first
   |refine w_cn (dY ⟨?_,Int.lt_of_lt_of_le (b:=256) ?_ (Int.le_of_eq (by kernel_rfl))⟩) ?_
   |exact trivial
   |refine w_lf ?_)
 all_goals(first
   |trivial
   |exact(Q0g _).1
   |exact s24.1
   |exact i24
   |exact and255 _)
structure okS(P:Nat)(m:Q00):Prop where
 cpu:Q21 m.B1
 mem:Q0n P m.Mem
 disk:Q6g m.A9
 nic:Qds m.C2
 target:U m.A0.C3
 given:U m.A0.B8
theorem Z6i{b:Q06}(h:U b.B8):(Q6t b).w (λ_=>True):=by
 unfold Q6t
 exact Q0c (xal h) λ_ _=>trivial
theorem qQ{m:Q00}(h:U m.A0.B8):(Q3h m).w (λ_=>True):=by
 have b: ∀x,(Q2v m.A0 x).w (λ_=>True):=λx=>by
   unfold Q2v
   exact Q0c (xaa h) λ_ _=>trivial
 have d:(Q19 m).w (λ_=>True):=by
   unfold Q19
   exact w_lv λ_ _=>w_lv λ_ _=>w_br (λ_=>w_lv λ_ _=>w_br (λ_=>w_lv λ_ _=>w_br (λ_=>w_lv λ_ _=>w_br (λ_=>Q0c (b _) λ_ _=>trivial) (λ_=>trivial)) (λ_=>trivial)) (λ_=>trivial)) (λ_=>trivial)
 unfold Q3h
 repeat'(first
   |refine w_br (λ_=> ?_) (λ_=> ?_)
   |exact Q0c d λ_ _=>trivial
   |refine w_lv λ_ _=> ?_
   |exact trivial)
theorem vJ{m:Q00}(h:U m.A0.B8):(Q51 m).w (λ_=>True):=by
 have p:(Q3o m.A0).w (λ_=>True):=by
   unfold Q3o
   exact Q0c (Z6i h) λ_ _=>trivial
 unfold Q51
 refine w_lv λx0 _=>w_lv λx1 _=>w_lv λx2 _=>w_lv λx3 _=>Q0c p λx4 _=>w_lp (inv:=λz=>0<=z.2/\z.2<=5) (μ:=Qd m) ⟨by omega,by omega⟩ (Nat.lt_succ_self _) (λz hz=> ?_)
 obtain⟨z1,z2⟩:=hz
 have ew:z.2<5->i64.wrap (z.2+1)=z.2+1:=λ_=>by rw[wrap_i64];omega
 refine w_br (λhb=> ?_) (λ_=>trivial)
 have hb:=oY hb
 have nx:(0<=i64.wrap (z.2+1)/\i64.wrap (z.2+1)<=5)/\(5-i64.wrap (z.2+1)).toNat<(5-z.2).toNat:=by rw[ew hb];omega
 refine w_cn (by simp;omega) (w_br (λ_=>w_cn (dY z1) (w_nx nx)) (λ_=>w_nx nx))
theorem Qwp{m:Q00}(h:U m.A0.B8):(Q3p m).w U:=by
 unfold Q3p
 exact Q0c (vJ h) λ_ _=>Z56 _ _
theorem vp{m:Q00}(h:U m.A0.B8):(Q2u m).w (λ_=>True):=by
 have i:(Q3j m).w (λ_=>True):=by
   unfold Q3j
   exact w_br (λ_=>Q0c (Qwp h) λ_ _=>trivial) (λ_=>trivial)
 unfold Q2u
 exact Q0c (qQ h) λ_ _=>w_br (λ_=>w_br (λ_=>Q0c i λ_ _=>w_br (λ_=>trivial) (λ_=>trivial)) (λ_=>trivial)) (λ_=>trivial)
theorem Qaj{P:Nat}{m:List Int}(h:Q0n P m):Q37 m=P:=by
 obtain⟨h1,h2,h3,_⟩:=h
 simp only[Q37,Qp5,Tree.m]
 have e:(m.length:Int)=32*P:=by omega
 rw[e]
 have e1:(Int.tmod (32*(P:Int)) 32 !=0)=false:=by simp [Int.mul_tmod_right]
 have e2:decide ((32*(P:Int))>1024)=false:=dN (by omega)
 rw[e1,e2]
 simp only[cond_false]
 rw[Int.mul_tdiv_cancel_left _ (by decide),wrap_i64];omega
theorem Qg1{P:Nat}{m:List Int}(h:Q0n P m){f:Int}(hf:U f):Q1l m f=decide (f<P):=by
 have:=Qaj h
 obtain⟨h1,h2⟩:=hf
 have h3:=h.p2
 simp only[Q1l,Qgj,Tree.m,letv,this]
 congr 1
 rw[wrap_u64,wrap_u64,Int.emod_eq_of_lt h1 (by omega),Int.emod_eq_of_lt (by omega) (by omega)]
theorem put_w{P:Nat}{m:List Int}(h:Q0n P m){addr size v:Int}(ha:U addr)(hl:addr<4*m.length)(hv:U v):(Qce m addr size v).w (Q0n P):=by
 obtain⟨h1,h2,h3,h4⟩:=h
 obtain⟨a1,a2⟩:=ha
 have e:wrap u32 (Int.tdiv addr 4)=addr/4:=by rw[wrap_u32,Int.tdiv_eq_ediv_of_nonneg a1];omega
 have hc:(Nat.beq 1 1&&Nat.blt 0 1&&decide (0<=wrap u32 (Int.tdiv addr 4)/\wrap u32 (Int.tdiv addr 4)<(m.length:Int)))=true:=by
   rw[e];simp [Nat.blt];omega
 have h0: ∀x,decide (0<=wrap u32 x)=true:=λx=>dY (Q0g x).1
 have hs: ∀i v,U v->Q0n P (m.set i v):=λi v hv=>⟨by simp [h1],h2,h3,Quy h4 hv i⟩
 unfold Qce
 exact w_br (λ_=>w_cn hc (hs _ _ hv)) (λ_=>w_cn hc (w_cn (h0 _) (w_cn (h0 _) (w_cn hc (hs _ _ (U_or _ _))))))
theorem xQ{P:Nat}{m:List Int}(h:Q0n P m){frame:Int}(f0:0<=frame)(f1:frame<P)(s:List UInt8):(Q8b m frame s).w (Q0n P):=by
 unfold Q8b
 have h3:=h.p2
 refine w_lp (inv:=λz=>0<=z.1/\z.1<=128/\Q0n P z.2) (μ:=Qcp m frame s) ⟨by omega,by omega,h⟩ (Nat.lt_succ_self _) (λv0 hv0=> ?_)
 obtain⟨i0,i1,hm⟩:=hv0
 refine w_br (λh1=>w_br (λh2=>w_cn ?_ ?_) (λ_=>hm)) (λ_=>hm)
 . have:=oY h1
   simp [Nat.blt];omega
 . have h2:=oY h2
   have e:wrap u32 (wrap i64 (wrap i64 (frame*128)+v0.1))=frame*128+v0.1:=by
     rw[wrap_u32,wrap_i64,wrap_i64];omega
   rw[e]
   obtain⟨g1,g2⟩:=Tree.pp (put_w hm (size:=1) (addr:=frame*128+v0.1) ⟨by omega,by omega⟩ (by rw[hm.len];omega) (Q0g (UInt8.toNat (s.getD v0.1.toNat 0))))
   refine w_an g1 (w_lv λx0 hx0=> ?_)
   rw[hx0]
   have ew:i64.wrap (v0.1+1)=v0.1+1:=by rw[wrap_i64];omega
   refine w_nx ?_
   show(0<=i64.wrap (v0.1+1)/\i64.wrap (v0.1+1)<=128/\Q0n P _)/\(128-i64.wrap (v0.1+1)).toNat<(128-v0.1).toNat
   rw[ew]
   exact⟨⟨by omega,by omega,g2⟩,by omega⟩
theorem qK{P:Nat}{m:List Int}(h:Q0n P m){d:Q09}(hd:Q6g d)(e:Q0s):(Q9b d m e).w (λr=>Q6g r.1/\Q0n P r.2.2):=by
 have fl:Q1l m d.B0=true->(Q8b m (i64.wrap d.B0) e.C6).w (Q0n P):=λhp=>by
   rw[Qg1 h hd.opFrame]at hp
   have:=oY hp
   have h1:=hd.opFrame.1
   have h3:=h.p2
   have ew:i64.wrap d.B0=d.B0:=by rw[wrap_i64];omega
   rw[ew]
   exact xQ h h1 this _
 have l0:Q6g d/\Q0n P m:=⟨hd,h⟩
 have l1: ∀st,Q6g {Blocks:=d.Blocks,B5:=d.B5,Frame:=d.Frame,B7:=st,D1:=0,B2:=0,B0:=0,B9:=[]}:=λst=>⟨hd.block,hd.frame,U_0,U_0⟩
 unfold Q9b
 repeat'(first
   |exact l0
   |exact⟨l1 _,h⟩
   |refine w_br (λ_=> ?_) (λ_=> ?_)
   |refine w_lv (λ_ _=> ?_))
 all_goals(
   first
     | (have hp:Q1l m d.B0=true:=by simp_all
        obtain⟨g1,g2⟩:=Tree.pp (fl hp)
        refine w_an g1 (w_lv λx hx=> ?_)
        rw[hx]
        exact w_br (λ_=>⟨l1 _,g2⟩) (λ_=>⟨l1 _,g2⟩))
     |(exfalso;simp_all;done))
section
variable {c:Q03} (h:Q21 c)
include h
theorem Qri(k:Int){b:Int}(hb:U b):Q21 (Q22 c k b):=by
 refine(Tree.post (Qfj c k b) (W:=Q21) ?_)
 unfold Qfj
 refine w_lv λ_ _=>w_lv λ_ _=>⟨h.x,h.a1,?_⟩
 intro w hw
 simp only[A8.l,List.mem_cons,List.not_mem_nil,or_false]at hw
 rcases hw with rfl|rfl|rfl|rfl|rfl|rfl|rfl|rfl
 . exact U_or _ _
 . exact h.a1
 . exact h.pc
 . exact Q0g _
 . exact hb
 . exact h.a5
 . exact h.a6
 . exact h.a7
theorem xK:Q21 (Qgf c):=by
 refine(Tree.post (Qc2 c) (W:=Q21) ?_)
 unfold Qc2
 refine w_lv λ_ _=>w_lv λ_ _=>⟨h.x,h.a2,?_⟩
 intro w hw
 simp only[A8.l,List.mem_cons,List.not_mem_nil,or_false]at hw
 rcases hw with rfl|rfl|rfl|rfl|rfl|rfl|rfl|rfl
 . exact U_or _ _
 . exact h.a1
 . exact h.a2
 . exact h.a3
 . exact h.a4
 . exact h.a5
 . exact h.a6
 . exact h.a7
theorem Qxy(r:Int){v:Int}(hv:U v):(Qc3 c r v).w Q21:=by
 unfold Qc3
 refine w_br (λh1=>w_br (λh2=>w_cn ?_ ⟨Z4u h.x hv _,h.pc,h.csr⟩) (λ_=>h)) (λ_=>h)
 have h1:=oY h1
 have h2:=oY h2
 simp [Nat.blt];omega
theorem qab(k:Int){v:Int}(hv:U v):(Qaw c k v).w Q21:=by
 have ok: ∀i v,U v->Q21 {X:=c.X,Pc:=c.Pc,B3:=A8.of 0 (List.set (A8.l c.B3) i v)}:=λi v hv=>⟨h.x,h.pc,Z2q h.csr hv i⟩
 unfold Qaw
 repeat'(first
   |exact h
   |exact ok _ _ (Q0g _)
   |exact ok _ _ hv
   |refine w_br (λhk=> ?_) (λ_=> ?_)
   |refine w_cn (by rw[eq_of_beq (by assumption:(k==_)=true)];decide) ?_)
end
section
variable {P:Nat} {m:List Int} (h:Q0n P m)
include h
theorem Qzw(a:Int){size:Int}(hs:size=1\/size=4):(Q7f m a size).w (λb=>b=true->a<128*P):=by
 have hp:=Qaj h
 have h2:=h.p2
 have e:decide (wrap u32 size≠0)=true:=by rcases hs with rfl|rfl<;>decide
 have l: ∀x,x=Q37 m->decide (a<wrap u32 (wrap i64 (128*x)))=true->a<128*P:=λx hx hd=>by
   rw[hx,hp,wrap_u32,wrap_i64]at hd
   have:=oY hd
   omega
 unfold Q7f
 refine w_br (λ_=>w_br (λ_=>λh=>by cases h) (λ_=> ?_)) (λ_=> ?_)<;>
 exact w_cn e (w_br (λ_=>w_lv λx hx=>l x hx) (λ_=>λh=>by cases h))
theorem idx{a:Int}(ha:U a)(hl:a<128*P):(Nat.beq 1 1&&Nat.blt 0 1&&decide (0<=wrap u32 (Int.tdiv a 4)/\wrap u32 (Int.tdiv a 4)<(m.length:Int)))=true:=by
 obtain⟨a1,a2⟩:=ha
 have e:wrap u32 (Int.tdiv a 4)=a/4:=by rw[wrap_u32,Int.tdiv_eq_ediv_of_nonneg a1];omega
 have:=h.len
 rw[e];simp [Nat.blt];omega
theorem Z6b{a:Int}(ha:U a){size:Int}(hs:size=1\/size=4):(Q4q m a size).w (λr=>U r.1):=by
 obtain⟨g1,g2⟩:=Tree.pp (Qzw h a hs)
 unfold Q4q
 refine w_an g1 (w_lv λx hx=>w_br (λ_=>U_0) (λhb=> ?_))
 have hb:x=true:=by simpa using hb
 have hl:=g2 (hx.symm.trans hb)
 refine w_cn (idx h ha hl) (w_br (λ_=>w_cn (dY (Q0g _).1) (Q0g _)) (λ_=>Qfd h.u _))
theorem qam{a:Int}(ha:U a)(access:Int):(Qcf m a access).w (Q0n P):=by
 obtain⟨g1,g2⟩:=Tree.pp (Qzw h a (size:=4) (.inr rfl))
 have hs: ∀{m:List Int} i v,Q0n P m->U v->Q0n P (m.set i v):=λi v h hv=>⟨by simp [h.len],h.p1,h.p2,Quy h.u hv i⟩
 unfold Qcf
 refine w_an g1 (w_lv λx hx=>w_br (λ_=>h) (λhb=> ?_))
 have hb:x=true:=by simpa using hb
 have hl:=g2 (hx.symm.trans hb)
 have i0:=idx h ha hl
 have h':=hs (Int.toNat (wrap u32 (Int.tdiv a 4))) (ior u32 (m.getD (Int.toNat (wrap u32 (Int.tdiv a 4))) 0) 8) h (U_or _ _)
 have i1:=idx h' ha hl
 exact w_cn i0 (w_cn i0 (w_br (λ_=>w_cn i1 (w_cn i1 (hs _ _ h' (U_or _ _)))) (λ_=>h')))
theorem zQ{root va:Int}(hr:U root)(hv:U va)(access:Int):(Q8f m root va access).w (λt=>U t.Addr/\U t.D6/\(t.D3=0->t.Addr<128*P)):=by
 have hp:=Qaj h
 have h2:=h.p2
 have hlen:=h.len
 obtain⟨r1,r2⟩:=hr
 obtain⟨v1,v2⟩:=hv
 unfold Q8f
 refine w_lv λx0 hx0=>w_lv λx1 hx1=>w_lv λx2 _=> ?_
 have hc:x0≠0:=by
   rw[hx0]
   simp only[Q2e,Q7t,Tree.m]
   cases access==1<;>cases access==3<;>simp
 rw[hp]at hx1
 have bad:U (0:Int)/\U (0:Int)/\(x0=0->(0:Int)<128*P):=⟨U_0,U_0,λe=>absurd e hc⟩
 refine w_br (λ_=>bad) (λ_=>w_br (λ_=>bad) (λhva=>w_br (λ_=>bad) (λhro=> ?_)))
 have hva:=oN hva
 have hro:=oN hro
 have e1:wrap u32 x1=P:=by rw[hx1,wrap_u32];omega
 rw[e1]at hro
 have e2:wrap u32 (wrap u32 (root*128)+wrap u32 (4*wrap u32 (Int.tdiv va 128)))=root*128+4*(va/128):=by
   rw[Int.tdiv_eq_ediv_of_nonneg v1,wrap_u32,wrap_u32,wrap_u32,wrap_u32];omega
 have hU:U (wrap u32 (wrap u32 (root*128)+wrap u32 (4*wrap u32 (Int.tdiv va 128)))):=Q0g _
 have ci:=idx h hU (by rw[e2];omega)
 have good: ∀w:Int,decide (iand u32 w 255>=wrap u32 x1)=false->(U (wrap u32 (wrap u32 (iand u32 w 255*128)+Int.tmod va 128))/\U (wrap u32 (wrap u32 (root*128)+wrap u32 (4*wrap u32 (Int.tdiv va 128))))/\((0:Int)=0->wrap u32 (wrap u32 (iand u32 w 255*128)+Int.tmod va 128)<128*P)):=λw hw=>by
   have hw:=oN hw
   rw[e1]at hw
   have hn:=(Z56 w 255).1
   refine⟨Q0g _,Q0g _,λ_=> ?_⟩
   rw[Int.tmod_eq_emod_of_nonneg v1,wrap_u32,wrap_u32]
   generalize iand u32 w 255=q at*
   omega
 refine w_cn ci ?_
 repeat'(first
   |exact bad
   |exact good _ (by assumption)
   |refine w_br (λ_=> ?_) (λ_=> ?_)
   |refine w_cn ci ?_)
theorem Qyn{c:Q03}(hc:Q21 c){va:Int}(hv:U va){size:Int}(hs:size=1\/size=4)(access:Int):(Q71 c m va size access).w (λr=>Q0n P r.2.2/\U r.1/\(r.2.1=0->r.1<128*P)):=by
 have e:decide (wrap u32 size≠0)=true:=by rcases hs with rfl|rfl<;>decide
 obtain⟨g1,g2⟩:=Tree.pp (Qzw h va hs)
 obtain⟨k1,k2⟩:=Tree.pp (zQ h hc.a6 hv access)
 have bad: ∀k:Int,k≠0->Q0n P m/\U (0:Int)/\(k=0->(0:Int)<128*P):=λk hk=>⟨h,U_0,λe=>absurd e hk⟩
 have hca:Q2e access≠0:=by
   simp only[Q2e,Q7t,Tree.m]
   cases access==1<;>cases access==3<;>simp
 unfold Q71
 refine w_lv λx0 _=>w_br (λ_=>bad 5 (by decide)) (λ_=>w_br (λh1=>w_br (λh2=> ?_) (λ_=> ?_)) (λ_=> ?_))
 . exact bad 5 (by decide)
 all_goals(
   refine w_cn e (w_br (λ_=>bad 3 (by decide)) (λ_=>w_lv λx1 _=>w_br (λ_=>w_an g1 (w_lv λx2 hx2=>w_br (λ_=>w_lv λx3 hx3=>bad x3 (by rw[hx3];exact hca)) (λhb=> ?_))) (λ_=>w_an k1 (w_lv λx4 hx4=>w_br (λhb=> ?_) (λhb=> ?_)))))
   . have hb:x2=true:=by simpa using hb
     exact⟨h,hv,λ_=>g2 (hx2.symm.trans hb)⟩
   . exact bad _ (by simpa using hb)
   . obtain⟨t1,t2,t3⟩:=k2
     rw[show(Q8f m c.B3.a6 va access).m=x4 from hx4.symm]at t1 t2 t3
     obtain⟨m1,m2⟩:=Tree.pp (qam h t2 access)
     refine w_an m1 (w_lv λx5 hx5=> ?_)
     exact⟨hx5▸m2,t1,λ_=>t3 (by simpa using hb)⟩)
end
theorem qq{r:Int}(h:Q5n r=true):0<=r/\r<16:=by
 simp only[Q5n,Q94,Tree.m]at h
 cases h1:decide (r>=0)<;>rw[h1]at h
 . cases h
 . have h1:=oY h1
   have h:=oY h
   omega
theorem zK{i:Q0e}(hi:wrap .i64 i.Imm=i.Imm)(h:Q61 i=true):Qax i:=by
 have no:false=true->Qax i:=λh=>by cases h
 refine(Tree.post (Qb8 i) (W:=λb=>b=true->Qax i) ?_) h
 unfold Qb8
 refine w_lv λx0 h0=>w_br (λ_=>no) (λ_=>w_lv λx1 h1=>w_br (λ_=>no) (λb1=>w_lv λx2 h2=>w_br (λ_=>no) (λb2=>w_lv λx3 h3=>w_br (λ_=>no) (λb3=>w_lv λx4 h4=>w_br (λ_=>no) (λb4=>w_br (λ_=>no) (λb5=> ?_))))))
 have b1:x1=true:=by simpa using b1
 have b2:x2=true:=by simpa using b2
 have b3:x3=true:=by simpa using b3
 have b4:=oN b4
 have b5:=oN b5
 rw[hi]at b4 b5
 have ok:Qax i:=⟨qq (h1.symm.trans b1),qq (h2.symm.trans b2),qq (h3.symm.trans b3),λe=>by
   rw[e]at h0
   have h0:x0=8:=h0
   subst h0
   have h4:x4=(0,7):=h4
   subst h4
   simp at b4 b5;omega⟩
 repeat'(first
   |exact λ_=>ok
   |exact no
   |refine w_br (λ_=> ?_) (λ_=> ?_))
theorem Z6x(w:Int):(Q9i w).w (λr=>r.2=true->Qax r.1):=by
 have no: ∀{p:Prop},false=true->p:=λh=>by cases h
 have e: ∀x,wrap .i64 (wrap .i32 x)=wrap .i32 x:=λx=>by rw[wrap_i64,wrap_i32];omega
 have ok: ∀i,wrap .i64 i.Imm=i.Imm-> ∀x,x=Q61 i->(!x)=false->true=true->Qax i:=λi hi x hx hb _=>zK hi (hx.symm.trans (by simpa using hb))
 unfold Q9i
 refine w_lv λx0 _=> ?_
 have l: ∀i,wrap .i64 i.Imm=i.Imm->(Tree.lv (Q61 i) λx=> .br (!x) (.lf ((⟨0,0,0,0,0⟩:Q0e),false)) (.lf (i,true))).w (λr=>r.2=true->Qax r.1):=λi hi=>w_lv λx hx=>w_br (λ_=>no) (λhb=>ok i hi x hx hb)
 refine w_br (λ_=>no) (λ_=>w_br (λ_=>l _ rfl) (λ_=>w_br (λ_=>l _ (e _)) (λ_=>w_br (λ_=>l _ (e _)) (λ_=>l _ (e _)))))
theorem bit_w(b:Bool):U (Q9 b):=by cases b<;>exact⟨by decide,by decide⟩
theorem Z7g{a b:Int}(ha:U a)(hb:U b):(Q9r a b).w (λr=>U r.1/\U r.2):=by
 unfold Q9r
 refine w_br (λ_=>⟨⟨by omega,by omega⟩,ha⟩) (λh=> ?_)
 have h: ¬b=0:=by simpa using h
 obtain⟨b1,b2⟩:=hb
 have hc:decide (wrap i64 (wrap i32 b)≠0)=true:=dY (by rw[wrap_i64,wrap_i32];omega)
 exact w_cn hc (w_cn hc ⟨Q0g _,Q0g _⟩)
theorem alu_w(op:Int){a b:Int}(ha:U a)(hb:U b):(Qj2 op a b).w (λr=>U r.1):=by
 unfold Qj2
 refine w_lv λx0 _=> ?_
 repeat'(first
   |exact Q0g _
   |exact Qnv ha _
   |exact U_0
   |refine w_br (λ_=> ?_) (λ_=> ?_)
   |exact Q0c (Z7g ha hb) λx hx=>hx.1
   |exact Q0c (Z7g ha hb) λx hx=>hx.2
   |exact w_lv λx hx=>(by rw[hx];exact bit_w _))
theorem xq{x:Int}(hx:U x):(Q73 x 8).w U:=by
 unfold Q73
 have h0:decide (0<=wrap u64 8)=true:=by decide
 refine w_br (λh=>absurd h (by decide)) λ_=>w_br (λh=>absurd h (by decide)) λ_=>w_cn h0 (w_cn (by decide) (w_br (λ_=>w_cn h0 (U_or _ _)) (λ_=>Z56 _ _)))
section
variable {c:Q03} (h:Q21 c) {i:Q0e} (hi:Qax i)
include h hi
theorem yK:(Qbx c i).w (λr=>Q21 r.1/\U r.2.Value):=by
 unfold Qbx
 refine w_br (λ_=>w_lv λx hx=>⟨hx▸Qri h _ U_0,U_0⟩) (λ_=>w_br (λ_=>w_lv λx hx=>⟨hx▸xK h,U_0⟩) (λ_=>w_br (λe=>w_cn ?_ (Q0c (Qxy h _ (h.a _)) λx hx=>⟨hx.pcs (Q0g _),U_0⟩)) (λ_=>w_br (λ_=>w_cn (rc hi.a) (Q0c (qab h _ (h.r _)) λx hx=>⟨hx.pcs (Q0g _),U_0⟩)) (λ_=> ?_))))
 . have:=hi.csr (by simpa using e)
   simp [Nat.blt];omega
 . have k:=h.pcs (Q0g (c.Pc+4))
   repeat'(first
     |exact⟨k,U_0⟩
     |exact⟨k,h.r _⟩
     |refine w_br (λ_=> ?_) (λ_=> ?_)
     |refine w_cn (rc hi.a) ?_)
theorem zam:(Qg6 c i).w Q21:=by
 unfold Qg6
 exact w_br (λ_=>Q0c (Qxy h _ (Q0g _)) λx hx=>hx.pcs (Q0g _)) (λ_=>w_br (λ_=>w_cn (rc hi.b) (Q0c (Qxy h _ (Q0g _)) λx hx=>hx.pcs (Q0g _))) (λ_=>w_cn (rc hi.a) (w_cn (rc hi.b) (w_lv λx _=>w_br (λ_=>h.pcs (Q0g _)) (λ_=>h.pcs (Q0g _))))))
theorem Z8v{P:Nat}{m:List Int}(hm:Q0n P m):(Q97 c m i).w (λr=>Q21 r.1/\Q0n P r.2):=by
  unfold Q97
  refine w_cn (rc hi.b) ?_
  have e1:(1:Int)=1\/(1:Int)=4:= .inl rfl
  have e4:(4:Int)=1\/(4:Int)=4:= .inr rfl
  repeat'(first
    |refine w_br (λ_=> ?_) (λ_=> ?_)
    | (refine Q0c (Qyn hm h (Q0g _) e4 _) λx hx=> ?_
       obtain⟨m1,m2,m3⟩:=hx
       refine w_br (λ_=>w_lv λy hy=>⟨hy▸Qri h _ (Q0g _),m1⟩) (λhb=> ?_)
       have m3:=m3 (by simpa using hb)
       have m4:x.1<4*x.2.2.length:=by rw[m1.len];omega
       clear hb)
    | (refine Q0c (Qyn hm h (Q0g _) e1 _) λx hx=> ?_
       obtain⟨m1,m2,m3⟩:=hx
       refine w_br (λ_=>w_lv λy hy=>⟨hy▸Qri h _ (Q0g _),m1⟩) (λhb=> ?_)
       have m3:=m3 (by simpa using hb)
       have m4:x.1<4*x.2.2.length:=by rw[m1.len];omega
       clear hb)
    |exact w_cn (rc hi.a) (Q0c (put_w (by assumption) (by assumption) (by assumption) (h.r _)) λy hy=>⟨h.pcs (Q0g _),hy⟩)
    |(refine Q0c (Z6b (by assumption) (by assumption) e4) λy hy=> ?_)
    |(refine Q0c (Z6b (by assumption) (by assumption) e1) λy hy=> ?_)
    |exact Q0c (xq (by assumption)) λz hz=>Q0c (Qxy h _ hz) λu hu=>⟨hu.pcs (Q0g _),by assumption⟩
    |exact Q0c (Qxy h _ (by assumption)) λu hu=>⟨hu.pcs (Q0g _),by assumption⟩)
end
theorem do_w{c:Q03}(h:Q21 c){P:Nat}{m:List Int}(hm:Q0n P m):(Qli c m).w (λr=>Q21 r.1/\U r.2.1.Value/\Q0n P r.2.2):=by
 unfold Qli
 refine Q0c (Qyn hm h h.pc (.inr rfl) 1) λx0 hx=> ?_
 obtain⟨m1,m2,m3⟩:=hx
 refine w_br (λ_=>w_lv λy hy=>⟨hy▸Qri h _ h.pc,U_0,m1⟩) (λhb=> ?_)
 refine Q0c (Z6b m1 m2 (.inr rfl)) λx2 h2=>Z61 (Z6x _) λx3 h3=>w_br (λ_=>w_lv λy hy=>⟨hy▸Qri h _ h2,U_0,m1⟩) (λb3=> ?_)
 have hi:=h3 (by simpa using b3)
 refine w_lv λx5 _=> ?_
 repeat'(first
   |refine w_br (λ_=> ?_) (λ_=> ?_)
   |exact w_lv λy hy=>⟨hy▸Qri h _ h2,U_0,m1⟩
   |exact Q0c (yK h hi) λy hy=>⟨hy.1,hy.2,m1⟩
   |exact Q0c (zam h hi) λy hy=>⟨hy,U_0,m1⟩
   |exact Q0c (Z8v h hi m1) λy hy=>⟨hy.1,U_0,hy.2⟩
   |exact Q0c (Qxy h _ (Q0g _)) λy hy=>⟨hy.pcs (Q0g _),U_0,m1⟩
   |refine w_cn (rc hi.c) ?_
   |refine w_cn (rc hi.b) ?_
   |exact Q0c (alu_w _ (h.r _) (h.r _)) λy hy=>Q0c (Qxy h _ hy) λz hz=>⟨hz.pcs (Q0g _),U_0,m1⟩
   |exact Q0c (alu_w _ (h.r _) (Q0g _)) λy hy=>Q0c (Qxy h _ hy) λz hz=>⟨hz.pcs (Q0g _),U_0,m1⟩)
theorem and1{q:Int}(h:U q):iand .u32 q 1=q%2:=by
 obtain⟨h1,h2⟩:=h
 unfold iand
 rw[wrap_u32]
 have e1:(BitVec.ofInt 32 q).toNat=q.toNat:=by rw[BitVec.toNat_ofInt];omega
 have e2:(BitVec.ofInt 32 1).toNat=1:=by decide
 have:(BitVec.ofInt u32.bits q&&&BitVec.ofInt u32.bits 1).toNat=q.toNat%2:=by
   show(BitVec.ofInt 32 q&&&BitVec.ofInt 32 1).toNat=_
   rw[BitVec.toNat_and,e1,e2,Nat.and_one_is_mod]
 rw[this];omega
theorem Z2(b:Bool)(n:Int):(Qg5 b n).w (λ_=>True):=by
 unfold Qg5
 exact w_br (λ_=>w_cn (dY (by rw[wrap_u64];omega)) trivial) (λ_=>trivial)
theorem zab(m:Q00):(Qdv m).w (λ_=>True):=by
 unfold Qdv
 exact w_lv λ_ _=>Q0c (Z2 _ _) λ_ _=>w_lv λ_ _=>Q0c (Z2 _ _) λ_ _=>w_lv λ_ _=>Q0c (Z2 _ _) λ_ _=>w_lv λ_ _=>Q0c (Z2 _ _) λ_ _=>w_lv λ_ _=>Q0c (Z2 _ _) λ_ _=>trivial
theorem zq(m:Q00):(Q7q m).w U:=by
 unfold Q7q
 exact Q0c (zab m) λ_ _=>Z56 _ _
theorem Z01{m:Q00}(h:Q21 m.B1):(Q4b m).w Q21:=by
 unfold Q4b
 refine Q0c (zq m) λx0 hx=>w_br (λ_=>h) (λ_=>w_br (λ_=>h) (λhb=> ?_))
 have hb:x0≠0:=by simpa using hb
 have sh: ∀z:Int,0<=z->z<=31->ishr .u32 x0 (wrap .u64 z)=x0/2^z.toNat:=λz h1 h2=>by
   unfold ishr
   have e:min (wrap .u64 z).toNat u32.bits=z.toNat:=by
     show min (wrap .u64 z).toNat 32=z.toNat
     rw[wrap_u64];omega
   rw[e,Int.fdiv_eq_ediv_of_nonneg _ (Int.le_of_lt (Int.pow_pos (by decide)))]
 refine w_lp (inv:=λz=>0<=z/\z<=31/\x0/2^z.toNat≠0) (μ:=Q9x m) ⟨by omega,by omega,by simpa using hb⟩ (Nat.lt_succ_self _) (λz hz=> ?_)
 obtain⟨z1,z2,z3⟩:=hz
 refine w_cn (dY (by rw[wrap_u64];omega)) (w_br (λe=>w_nx ?_) (λ_=>w_lv λy hy=>hy▸Qri h _ U_0))
 have e:=eq_of_beq e
 have hq:=Qnv hx (wrap .u64 z)
 rw[and1 hq,sh z z1 z2]at e
 rw[sh z z1 z2]at hq
 have hlt:x0/2^z.toNat/2≠0:=by omega
 have z4:z<=30:=by
   rcases Int.lt_or_le z 31 with h|h
   . omega
   . have:z=31:=by omega
     subst this
     have:=hx.2
     have:=hx.1
     simp at z3 e hlt
     omega
 show(0<=i64.wrap (z+1)/\i64.wrap (z+1)<=31/\x0/2^(i64.wrap (z+1)).toNat≠0)/\(32-i64.wrap (z+1)).toNat<(32-z).toNat
 have ew:i64.wrap (z+1)=z+1:=by rw[wrap_i64];omega
 rw[ew]
 refine⟨⟨by omega,by omega,?_⟩,by omega⟩
 have et:(z+1).toNat=z.toNat+1:=by omega
 rw[et,Int.pow_succ,<-Int.ediv_ediv_of_nonneg (Int.le_of_lt (Int.pow_pos (by decide)))]
 exact hlt
theorem Qd6(l:List Int):(bytesOf l).length=l.length:=by simp [bytesOf]
theorem Qj5(l:List UInt8):(Q82 l).length=l.length:=by simp [Q82]
theorem low_w(x:Int):(Qnc x 4).w (λr=>r.length=4):=by
 unfold Qnc
 refine w_lp (inv:=λz=>0<=z.1/\z.1<=4/\(z.2.length:Int)=z.1) (μ:=Qjp x 4) ⟨by omega,by omega,rfl⟩ (Nat.lt_succ_self _) (λz hz=> ?_)
 obtain⟨z1,z2,z3⟩:=hz
 refine w_br (λh=>w_cn (dY (by rw[wrap_u64];omega)) (w_cn (dY (by omega)) (w_nx ?_))) (λh=> ?_)
 . have h:=oY h
   show(0<=i64.wrap (z.1+1)/\i64.wrap (z.1+1)<=4/\((z.2++[_]).length:Int)=i64.wrap (z.1+1))/\(4-i64.wrap (z.1+1)).toNat<(4-z.1).toNat
   have ew:i64.wrap (z.1+1)=z.1+1:=by rw[wrap_i64];omega
   rw[ew]
   refine⟨⟨by omega,by omega,by simp;omega⟩,by omega⟩
 . have h:=oN h
   show(bytesOf z.2).length=4
   rw[Qd6];omega
theorem yQ{P:Nat}{m:List Int}(hm:Q0n P m)(frame:Int):(Q8n m frame).w (λr=>0<=frame->frame<P->r.1.length=128):=by
 have hp:=Qaj hm
 have hl:=hm.len
 have h2:=hm.p2
 unfold Q8n
 refine w_br (λh=>λh0 _=>by have:=oY h;omega) (λh=>w_lv λx0 hx=>w_br (λh1=>λ_ h2=>by have:=oY h1;rw[hx,hp]at this;omega) (λh1=> ?_))
 have h:=oN h
 have h1:=oN h1
 rw[hx,hp]at h1
 refine w_lp (inv:=λz=>0<=z.1/\z.1<=32/\(z.2.length:Int)=4*z.1) (μ:=Qd7 m frame) ⟨by omega,by omega,rfl⟩ (Nat.lt_succ_self _) (λz hz=> ?_)
 obtain⟨z1,z2,z3⟩:=hz
 refine w_br (λhb=> ?_) (λhb=> ?_)
 . have hb:=oY hb
   have e:wrap i64 (wrap i64 (frame*32)+z.1)=frame*32+z.1:=by rw[wrap_i64,wrap_i64];omega
   refine w_cn (by rw[e];simp [Nat.blt];omega) (w_an (show(4:Int)<=1000000000000 by decide) (Z61 (low_w _) λx1 h4=>w_cn (dY (by rw[Qj5,h4];omega)) (w_nx ?_)))
   show(0<=i64.wrap (z.1+1)/\i64.wrap (z.1+1)<=32/\((z.2++Q82 x1).length:Int)=4*i64.wrap (z.1+1))/\(32-i64.wrap (z.1+1)).toNat<(32-z.1).toNat
   have ew:i64.wrap (z.1+1)=z.1+1:=by rw[wrap_i64];omega
   rw[ew,lA,Qj5,h4]
   exact⟨⟨by omega,by omega,by omega⟩,by omega⟩
 . have hb:=oN hb
   intro _ _
   show(bytesOf z.2).length=128
   rw[Qd6];omega
theorem yq{P:Nat}{m:List Int}(hm:Q0n P m){d:Q09}(hd:Q6g d)(port:Int){v:Int}(hv:U v)(at0:Int):(Q7u d m port v at0).w (λr=>Q6g r.1/\r.2.length<=1):=by
 have k: ∀st,Q6g {Blocks:=d.Blocks,B5:=d.B5,Frame:=d.Frame,B7:=st,D1:=d.D1,B2:=d.B2,B0:=d.B0,B9:=d.B9}:=λst=>⟨hd.block,hd.frame,hd.opBlock,hd.opFrame⟩
 have k2: ∀c o,Q6g {Blocks:=d.Blocks,B5:=d.B5,Frame:=d.Frame,B7:=1,D1:=c,B2:=d.B5,B0:=d.Frame,B9:=o}:=λc o=>⟨hd.block,hd.frame,hd.block,hd.frame⟩
 have k3:Q6g {Blocks:=d.Blocks,B5:=v,Frame:=d.Frame,B7:=d.B7,D1:=d.D1,B2:=d.B2,B0:=d.B0,B9:=d.B9}:=⟨hv,hd.frame,hd.opBlock,hd.opFrame⟩
 have k4:Q6g {Blocks:=d.Blocks,B5:=d.B5,Frame:=v,B7:=d.B7,D1:=d.D1,B2:=d.B2,B0:=d.B0,B9:=d.B9}:=⟨hd.block,hv,hd.opBlock,hd.opFrame⟩
 unfold Q7u
 repeat'(first
   |refine w_br (λ_=> ?_) (λ_=> ?_)
   |exact Q0c (yQ hm _) λ_ _=>w_lv λ_ _=>⟨k2 _ _,Nat.le_refl _⟩
   |refine w_lv (λ_ _=> ?_)
   |refine w_lf ?_)
 all_goals(first
   |exact⟨hd,Nat.zero_le _⟩
   |exact⟨k _,Nat.zero_le _⟩
   |exact⟨k2 _ _,Nat.le_refl _⟩
   |exact⟨k3,Nat.zero_le _⟩
   |exact⟨k4,Nat.zero_le _⟩)
theorem vK{P:Nat}{m:List Int}(hm:Q0n P m){n:Q0k}(hn:Qds n)(port:Int){v:Int}(hv:U v)(at0:Int):(Q9l n m port v at0).w (λr=>Qds r.1/\r.2.length<=1):=by
 have k1:Qds {Frame:=v,D4:=n.D4,C1:=n.C1,B6:=n.B6,B4:=n.B4,D5:=n.D5}:=⟨hv,hn.len,hn.buffer,hn.got⟩
 have k2:Qds {Frame:=n.Frame,D4:=v,C1:=n.C1,B6:=n.B6,B4:=n.B4,D5:=n.D5}:=⟨hn.frame,hv,hn.buffer,hn.got⟩
 have k3:Qds {Frame:=n.Frame,D4:=n.D4,C1:=n.C1,B6:=n.B6,B4:=false,D5:=0}:=⟨hn.frame,hn.len,hn.buffer,U_0⟩
 have k4: ∀p r,Qds {Frame:=n.Frame,D4:=n.D4,C1:=p,B6:=n.Frame,B4:=r,D5:=n.D5}:=λp r=>⟨hn.frame,hn.len,hn.frame,hn.got⟩
 have send: ∀K:List UInt8×Bool->Tree (Q0k×List Q08),Q1l m n.Frame=true->(∀x:List UInt8×Bool,x.1.length=128->(K x).w (λr=>Qds r.1/\r.2.length<=1))->(Tree.an (Qfs m (wrap .i64 n.Frame)) (.lv (Qer m (wrap .i64 n.Frame)) K)).w (λr=>Qds r.1/\r.2.length<=1):=λK hp hK=>by
   rw[Qg1 hm hn.frame]at hp
   have hp:=oY hp
   obtain⟨f1,f2⟩:=hn.frame
   have ew:i64.wrap n.Frame=n.Frame:=by rw[wrap_i64];omega
   exact Q0c (yQ hm _) λx hx=>hK x (hx (by rw[ew];exact f1) (by rw[ew];exact hp))
 unfold Q9l
 repeat'(first
   |refine w_br (λ_=> ?_) (λ_=> ?_)
   |refine send _ (by simp_all) (λx hx=>w_cn (by simp_all;exact hn.len.1) ?_)
   |refine w_lv (λ_ _=> ?_)
   |refine w_lf ?_)
 all_goals(first
   |exact⟨hn,Nat.zero_le _⟩
   |exact⟨hn,Nat.le_refl _⟩
   |exact⟨k1,Nat.zero_le _⟩
   |exact⟨k2,Nat.zero_le _⟩
   |exact⟨k3,Nat.zero_le _⟩
   |exact⟨k4 _ _,Nat.zero_le _⟩)
def okB(b:Q06):Prop:=U b.C3/\U b.B8
theorem xam{P:Nat}{m:List Int}(hm:Q0n P m){b:Q06}(hb:okB b)(port:Int){v:Int}(hv:U v):(Q3z b m port v).w (λr=>okB r.1/\Q0n P r.2):=by
 have hv0:decide (0<=v)=true:=dY hv.1
 have h2:=hm.p2
 have rest:(Tree.br (port==11) (.br (decide (v<32)) (.cn (decide (0<=v)) (.lf (({C3:=b.C3,B8:=Qbs .u32 b.B8 (ishl .u32 1 v)}:Q06),m))) (.lf (b,m))) (.lf (b,m))).w (λr=>okB r.1/\Q0n P r.2):=
   w_br (λ_=>w_br (λ_=>w_cn hv0 ⟨⟨hb.1,Q0g _⟩,hm⟩) (λ_=>⟨hb,hm⟩)) (λ_=>⟨hb,hm⟩)
 unfold Q3z
 refine w_br (λ_=>w_lv λx0 hx=>w_br (λhp=>w_cn hv0 (w_br (λ_=>w_cn hv0 ?_) (λ_=>rest))) (λ_=>rest)) (λ_=>rest)
 have hp:Q1l m v=true:=hx.symm.trans hp
 rw[Qg1 hm hv]at hp
 have hp:=oY hp
 obtain⟨v1,v2⟩:=hv
 refine w_lp (inv:=λz=>0<=z.1/\z.1<=32/\Q0n P z.2) (μ:=Qdi b m port v) ⟨by omega,by omega,hm⟩ (Nat.lt_succ_self _) (λz hz=> ?_)
 obtain⟨z1,z2,z3⟩:=hz
 have hl:=z3.len
 refine w_br (λh=> ?_) (λ_=>⟨⟨hb.1,Q0g _⟩,z3⟩)
 have h:=oY h
 have e:wrap i64 (wrap i64 (wrap i64 v*32)+z.1)=v*32+z.1:=by rw[wrap_i64,wrap_i64,wrap_i64];omega
 refine w_cn (by rw[e];simp [Nat.blt];omega) (w_nx ?_)
 show(0<=i64.wrap (z.1+1)/\i64.wrap (z.1+1)<=32/\Q0n P (List.set _ _ _))/\(32-i64.wrap (z.1+1)).toNat<(32-z.1).toNat
 have ew:i64.wrap (z.1+1)=z.1+1:=by rw[wrap_i64];omega
 rw[ew]
 exact⟨⟨by omega,by omega,⟨by simp [hl],z3.p1,z3.p2,Quy z3.u U_0 _⟩⟩,by omega⟩
structure okM(P:Nat)(m:Q00):Prop where
 cpu:Q21 m.B1
 mem:Q0n P m.Mem
 disk:Q6g m.A9
 nic:Qds m.C2
 target:okB m.A0
 cnt:0<=m.A4
theorem Z54(c:Q0a)(port:Int):U (Q62 c port).2:=by
 refine Tree.post (Q5r c port) (W:=λr=>U r.2) ?_
 have u1:U 4294967295:=⟨by omega,by omega⟩
 unfold Q5r
 refine w_br (λ_=>w_br (λ_=>u1) (λh=>w_br (λ_=>w_cn ?_ (w_cn ?_ (Q0g _))) (λ_=>w_br (λ_=>Q0g _) (λ_=>U_0)))) (λh1=>w_br (λh=>(by rw[h1]at h;cases h)) (λ_=>w_br (λ_=>Q0g _) (λ_=>U_0)))
 . have h: ¬(c.C7.length:Int)=0:=by simpa using h
   exact dY ⟨by omega,by omega,by omega⟩
 . have h: ¬(c.C7.length:Int)=0:=by simpa using h
   simp [Nat.blt];omega
theorem xab{n:Q0k}(h:Qds n)(port:Int):U (Qip n port):=by
 refine Tree.post (Qe9 n port) (W:=U) ?_
 have u1:U 1:=⟨by omega,by omega⟩
 unfold Qe9
 exact w_br (λ_=>h.frame) (λ_=>w_br (λ_=>h.got) (λ_=>w_br (λ_=>w_br (λ_=>w_br (λ_=>Q0g _) (λ_=>u1)) (λ_=>w_br (λ_=>Q0g _) (λ_=>U_0))) (λ_=>U_0)))
theorem qL{d:Q09}(h:Q6g d)(port:Int):U (Qk9 d port):=by
 refine Tree.post (Qfm d port) (W:=U) ?_
 unfold Qfm
 exact w_br (λ_=>h.block) (λ_=>w_br (λ_=>h.frame) (λ_=>w_br (λ_=>Q0g _) (λ_=>U_0)))
theorem vq(t:Q0f):U (Qi4 t):=by
 refine Tree.post (Qee t) (W:=U) ?_
 unfold Qee
 exact w_br (λ_=>⟨by omega,by omega⟩) (λ_=>U_0)
theorem Z5a{b:Q06}(h:U b.C3)(port:Int):U (Q65 b port):=by
 refine Tree.post (Q5z b port) (W:=U) ?_
 unfold Q5z
 exact w_br (λ_=>h) (λ_=>w_br (λ_=>w_lv λ_ _=>Q0g _) (λ_=>U_0))
structure okR(P:Nat)(r:Q1h):Prop where
 m:okM P r.A7
 clock:U r.Clock
structure okL(P:Nat)(r x:Q1h):Prop where
 ok:okR P x
 log:x.Log=r.Log
 queue:x.Queue=r.Queue
theorem w0(x:Int):0<=u64.wrap x:=by rw[wrap_u64];omega
section
variable {P:Nat} {r:Q1h} (h:okR P r)
include h
end
theorem qan(c:Q0a)(b:Int):(Qfv c b).w (λ_=>True):=by
 unfold Qfv
 refine w_br (λ_=>trivial) (λh=>w_cn (dY ?_) trivial)
 have h:=oN h
 simp [maxLen];omega
theorem xL{P:Nat}{m:List Int}(hm:Q0n P m){n:Q0k}(hn:Qds n)(frame:List UInt8):(Q9o n m frame).w (λr=>Qds r.1/\Q0n P r.2.2):=by
 unfold Q9o
 refine w_br (λ_=>⟨hn,hm⟩) (λ_=>w_br (λ_=>⟨hn,hm⟩) (λ_=>w_br (λ_=>⟨hn,hm⟩) (λ_=>w_lv λx0 hx=>w_br (λ_=>⟨hn,hm⟩) (λhb=> ?_))))
 have hp:Q1l m n.B6=true:=hx.symm.trans (by simpa using hb)
 rw[Qg1 hm hn.buffer]at hp
 have hp:=oY hp
 obtain⟨b1,b2⟩:=hn.buffer
 have ew:i64.wrap n.B6=n.B6:=by rw[wrap_i64];omega
 exact Q0c (xQ hm (frame:=i64.wrap n.B6) (by rw[ew];exact b1) (by rw[ew];exact hp) frame) λx hx=>⟨⟨hn.frame,hn.len,U_0,Q0g _⟩,hx⟩
section
variable {P:Nat} {r:Q1h} (h:okR P r)
include h

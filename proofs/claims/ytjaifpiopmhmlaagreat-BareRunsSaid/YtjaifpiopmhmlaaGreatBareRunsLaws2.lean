import Derived.Test.YtjaifpiopmhmlaaGreatBareRunsYe
import Derived.Test.YtjaifpiopmhmlaaGreatBareRunsZa
import Derived.Test.YtjaifpiopmhmlaaGreatBareRunsZb
import Derived.Test.YtjaifpiopmhmlaaGreatBareRunsZg
set_option maxRecDepth 100000
set_option linter.all false
namespace Go.Proofs.YtjaifpiopmhmlaaGreat
open Go Go.GD
def U(x:Int):Prop:=0<=x/\x<4294967296
theorem Q0r(x:Int):U (IntKind.u32.wrap x):=by rw[IntKind.wrap_u32];unfold U;omega
theorem Qit(x y:Int):U (iand .u32 x y):=Q0r _
theorem U_or(x y:Int):U (ior .u32 x y):=Q0r _
theorem U_0:U 0:=⟨by omega,by omega⟩
theorem Qyv{m:List Int}(h: ∀w∈m,U w){v:Int}(hv:U v)(i:Nat): ∀w∈m.set i v,U w:=by
 intro w hw
 rcases List.mem_or_eq_of_mem_set hw with h1|h1
 . exact h w h1
 . rw[h1];exact hv
structure Q1(P:Nat)(m:List Int):Prop where
 len:m.length=32*P
 p1:0<=P
 p2:P<=32
 u: ∀w∈m,U w
structure Q83(d:Q0e):Prop where
 block:U d.B9
 frame:U d.B4
 opBlock:U d.B6
 opFrame:U d.B3
structure Qii(n:Q0q):Prop where
 frame:U n.B4
 len:U n.F0
 buffer:U n.C2
 got:U n.F3
theorem Ql4{l:List Int}(h: ∀w∈l,U w)(i:Nat):U (l.getD i 0):=by
 by_cases hi:i<l.length
 . have:l.getD i 0=l[i]:=by simp [List.getD,hi]
   rw[this];exact h _ (List.getElem_mem hi)
 . have:l.getD i 0=0:=by simp [List.getD,List.getElem?_eq_none (by omega:l.length<=i)]
   rw[this];exact U_0
structure Q2b(c:Q04):Prop where
 x: ∀w∈A16.l c.X,U w
 pc:U c.Pc
 csr: ∀w∈A8.l c.B5,U w
theorem Z7r{X:A16 Int}(h: ∀w∈A16.l X,U w){v:Int}(hv:U v)(i:Nat): ∀w∈A16.l (A16.of 0 (List.set (A16.l X) i v)),U w:=by
 have hs:=Qyv h hv i
 intro w hw
 simp only[A16.l,A16.of,List.mem_cons,List.not_mem_nil,or_false]at hw
 repeat(first|(rcases hw with rfl|hw; · exact Ql4 hs _)|(subst hw;exact Ql4 hs _))
theorem Qte{X:A8 Int}(h: ∀w∈A8.l X,U w){v:Int}(hv:U v)(i:Nat): ∀w∈A8.l (A8.of 0 (List.set (A8.l X) i v)),U w:=by
 have hs:=Qyv h hv i
 intro w hw
 simp only[A8.l,A8.of,List.mem_cons,List.not_mem_nil,or_false]at hw
 repeat(first|(rcases hw with rfl|hw; · exact Ql4 hs _)|(subst hw;exact Ql4 hs _))
section
variable {c:Q04} (h:Q2b c)
include h
theorem Q2b.a(i:Nat):U ((A8.l c.B5).getD i 0):=Ql4 h.csr i
theorem Q2b.r(i:Nat):U ((A16.l c.X).getD i 0):=Ql4 h.x i
theorem Q2b.a0:U c.B5.a0:=h.a 0
theorem Q2b.a1:U c.B5.a1:=h.a 1
theorem Q2b.a2:U c.B5.a2:=h.a 2
theorem Q2b.a3:U c.B5.a3:=h.a 3
theorem Q2b.a4:U c.B5.a4:=h.a 4
theorem Q2b.a5:U c.B5.a5:=h.a 5
theorem Q2b.a6:U c.B5.a6:=h.a 6
theorem Q2b.a7:U c.B5.a7:=h.a 7
theorem Q2b.pcs{p:Int}(hp:U p):Q2b {X:=c.X,Pc:=p,B5:=c.B5}:=⟨h.x,hp,h.csr⟩
end
section
variable {α β:Type} {W:β->Prop} {t:Tree α} {Q:α->Prop} {k:α->Tree β}
theorem Q0d(hq:t.w Q)(g: ∀x,Q x->(k x).w W):(Tree.an t.p (Tree.lv t.m k)).w W:=⟨(Tree.pp hq).1,λy hy=>g y (by rw[hy];exact(Tree.pp hq).2)⟩
theorem Zct(hq:t.w Q)(g: ∀x,Q x->(k x).w W):(Tree.lv t.m k).w W:=λy hy=>g y (by rw[hy];exact t.post hq)
end
theorem rc{r:Int}(h:0<=r/\r<16):(Nat.blt 0 1&&decide (0<=r/\r<((16:Nat):Int)))=true:=by simp [Nat.blt];omega
theorem Qsf{a:Int}(h:U a)(b:Int):U (ishr .u32 a b):=by
 unfold ishr U
 obtain⟨h1,h2⟩:=h
 have hp:(0:Int)<2^(min b.toNat IntKind.u32.bits):=Int.pow_pos (by decide)
 have:=Int.fdiv_nonneg h1 (Int.le_of_lt hp)
 refine⟨this,?_⟩
 rw[Int.fdiv_eq_ediv_of_nonneg _ (Int.le_of_lt hp)]
 have h3:=Int.ediv_le_self (2^(min b.toNat IntKind.u32.bits)) h1
 omega
structure Qf6(i:Q0k):Prop where
 a:0<=i.A/\i.A<16
 b:0<=i.B/\i.B<16
 c:0<=i.C/\i.C<16
 csr:i.Op=58->0<=i.Imm/\i.Imm<8
theorem Z2n{P:Nat}{m:List Int}(h:Q1 P m):Q0u m=P:=by
 obtain⟨h1,h2,h3,_⟩:=h
 simp only[Q0u,Q8b,Tree.m]
 have e:(m.length:Int)=32*P:=by omega
 rw[e]
 have e1:(Int.tmod (32*(P:Int)) 32 !=0)=false:=by simp [Int.mul_tmod_right]
 have e2:decide ((32*(P:Int))>1024)=false:=decide_eq_false (by omega)
 rw[e1,e2]
 simp only[cond_false]
 rw[Int.mul_tdiv_cancel_left _ (by decide),IntKind.wrap_i64];omega
theorem xW(n:Int):(Qba n).w (λ_=>True):=by
 unfold Qba
 exact w_br (λ_=>trivial) (λ_=>w_cn (decide_eq_true (by rw[IntKind.wrap_u64];omega)) trivial)
theorem Qv7(w low n:Int):(Q9s w low n).w U:=by
 unfold Q9s
 exact w_br (λ_=>U_0) (λ_=>w_br (λ_=>U_0) (λ_=>w_br (λ_=>U_0) (λ_=>w_cn (decide_eq_true (by rw[IntKind.wrap_u64];omega)) (Q0d (xW n) λ_ _=>Qit _ _))))
theorem Zl5{w:Int}(hw:U w)(low n v:Int):(Q8w w low n v).w U:=by
 have h0:decide (0<=IntKind.wrap IntKind.u64 low)=true:=decide_eq_true (by rw[IntKind.wrap_u64];omega)
 unfold Q8w
 exact w_br (λ_=>hw) (λ_=>w_br (λ_=>hw) (λ_=>w_br (λ_=>hw) (λ_=>Q0d (xW n) λ_ _=>w_cn h0 (w_cn h0 (U_or _ _)))))
theorem Qvs{x:Int}(hx:U x)(n:Int):(Q72 x n).w U:=by
 have h0: ∀y,decide (0<=IntKind.wrap IntKind.u64 y)=true:=λy=>decide_eq_true (by rw[IntKind.wrap_u64];omega)
 unfold Q72
 exact w_br (λ_=>U_0) (λ_=>w_br (λ_=>hx) (λ_=>w_cn (h0 _) (w_cn (h0 _) (Q0r _))))
section
variable {P:Nat} {m:List Int} (h:Q1 P m)
include h
theorem Q8n:Q08 m:=by
 have:=h.len
 have:=h.p2
 show m.length<=35184372088832
 omega
theorem Ze8{a:Int}(ha:U a){size:Int}(hs:size=1\/size=4):(Q37 m a size).w (λb=>b=true->a+size<=128*P):=by
 have hp:=Z2n h
 have h2:=h.p2
 obtain⟨a1,a2⟩:=ha
 have e:decide (IntKind.wrap IntKind.u32 size≠0)=true:=by rcases hs with rfl|rfl<;>decide
 have l: ∀x,x=Q0u m->decide (IntKind.wrap IntKind.u64 (IntKind.wrap IntKind.u64 a+IntKind.wrap IntKind.u64 size)<=IntKind.wrap IntKind.u64 (IntKind.wrap IntKind.u64 x*128))=true->a+size<=128*P:=λx hx hd=>by
   rw[hx,hp]at hd
   have:=of_decide_eq_true hd
   simp only[IntKind.wrap_u64]at this
   omega
 unfold Q37
 refine w_br (λ_=>w_br (λ_=>λh=>by cases h) (λ_=> ?_)) (λ_=> ?_)<;>
 exact w_cn e (w_br (λ_=>λh=>by cases h) (λ_=>w_lv λx hx=>l x hx))
theorem idxP{a:Int}(ha:U a)(hl:a<128*P):(Nat.beq 1 1&&Nat.blt 0 1&&decide (0<=IntKind.wrap IntKind.u32 (Int.tdiv a 4)/\IntKind.wrap IntKind.u32 (Int.tdiv a 4)<(m.length:Int)))=true:=by
 obtain⟨a1,a2⟩:=ha
 have e:IntKind.wrap IntKind.u32 (Int.tdiv a 4)=a/4:=by rw[IntKind.wrap_u32,Int.tdiv_eq_ediv_of_nonneg a1];omega
 have:=h.len
 rw[e];simp [Nat.blt];omega
theorem Qqw{a:Int}(ha:U a){size:Int}(hs:size=1\/size=4):(Q6b m a size).w (λr=>U r.1/\(r.2=true->a<128*P)):=by
 unfold Q6b
 refine Q0d (Ze8 h ha hs) λx hx=>w_br (λ_=>⟨U_0,λh=>by cases h⟩) (λhb=> ?_)
 have hl:=hx (by simpa using hb)
 have hl:a<128*P:=by omega
 exact w_cn (idxP h ha hl) (w_br (λ_=>Q0d (Qv7 _ _ _) λy hy=>⟨hy,λ_=>hl⟩) (λ_=>⟨Ql4 h.u _,λ_=>hl⟩))
theorem Qyz{a:Int}(ha:U a){size:Int}(hs:size=1\/size=4){v:Int}(hv:U v):(Q8f m a size v).w (λr=>Q1 P r.1):=by
 have st: ∀i v,U v->Q1 P (m.set i v):=λi v hv=>⟨by simp [h.len],h.p1,h.p2,Qyv h.u hv i⟩
 have hcl:Q03 m=m:=rfl
 unfold Q8f
 refine w_an (Q8n h) (w_lv λx0 hx0=> ?_)
 rw[hcl]at hx0;subst hx0
 refine Q0d (Ze8 h ha hs) λx hx=>w_br (λ_=>h) (λhb=> ?_)
 have hl:=hx (by simpa using hb)
 have hl:a<128*P:=by omega
 exact w_br (λ_=>w_cn (idxP h ha hl) (Q0d (Zl5 (Ql4 h.u _) _ _ _) λy hy=>w_cn (idxP h ha hl) (st _ _ hy))) (λ_=>w_cn (idxP h ha hl) (st _ _ hv))
end
theorem Zfz{r:Int}{used:Bool}(h:Q92 r used=true):0<=r/\r<16:=by
 simp only[Q92,Qe8,Tree.m]at h
 cases used
 . have h:(r==0)=true:=h
   have:=eq_of_beq h;omega
 . cases h1:decide (r>=0)<;>rw[h1]at h
   . cases h
   . have h1:=of_decide_eq_true h1
     have h:=of_decide_eq_true h
     omega
theorem zu{i:Q0k}(h:Qf3 i=true):Qf6 i:=by
 have no:false=true->Qf6 i:=λh=>by cases h
 refine(Tree.post (Qin i) (W:=λb=>b=true->Qf6 i) ?_) h
 unfold Qin
 refine w_lv λx0 h0=>w_br (λ_=>w_lv λx1 h1=>w_br (λb1=>w_lv λx2 h2=>w_br (λb2=>w_lv λx3 h3=>w_br (λb3=>w_br (λb4=>λb5=> ?_) (λ_=>no)) (λ_=>no)) (λ_=>no)) (λ_=>no)) (λ_=>no)
 have b4:=of_decide_eq_true b4
 have b5:=of_decide_eq_true b5
 refine⟨Zfz (h1.symm.trans b1),Zfz (h2.symm.trans b2),Zfz (h3.symm.trans b3),λe=> ?_⟩
 rw[e]at h0
 have h0:x0=({a:=true,b:=false,c:=false,low:=0,D6:=7},true):=h0
 subst h0
 simp at b4 b5;omega
theorem Z1c(w:Int):(Q7a w).w (λr=>r.2=true->Qf6 r.1):=by
 have no: ∀{p:Prop},false=true->p:=λh=>by cases h
 have l: ∀i,(Tree.lv (Qf3 i) λx=> .br (!x) (.lf ((⟨0,0,0,0,0⟩:Q0k),false)) (.lf (i,true))).w (λr=>r.2=true->Qf6 r.1):=λi=>w_lv λx hx=>w_br (λ_=>no) (λhb=>λ_=>zu (hx.symm.trans (by simpa using hb)))
 unfold Q7a
 exact Q0d (Qv7 _ _ _) λx0 _=>Q0d (Qv7 _ _ _) λx1 _=>Q0d (Qv7 _ _ _) λx2 _=>w_lv λx3 _=>w_br (λ_=>no) (λ_=>Q0d (Qv7 _ _ _) λx4 h4=>w_br (λ_=>l _) (λ_=>w_br (λ_=>Q0d (Qvs h4 _) λx6 _=>l _) (λ_=>l _)))
section
variable {P:Nat} {m:List Int} (h:Q1 P m)
include h
theorem qR{f:Int}(hf:U f):Qa9 m f=decide (f<P):=by
 have:=Z2n h
 obtain⟨h1,h2⟩:=hf
 have h3:=h.p2
 simp only[Qa9,Qh0,Tree.m,letv,this]
 congr 1
 rw[IntKind.wrap_u64,IntKind.wrap_u64,Int.emod_eq_of_lt h1 (by omega),Int.emod_eq_of_lt (by omega) (by omega)]
theorem xas{root va:Int}(hv:U va)(access:Int):(Qa7 m root va access).w (λt=>U t.Addr/\U t.F4):=by
 have bad:U (0:Int)/\U (0:Int):=⟨U_0,U_0⟩
 have fr: ∀x,(Q84 x).w U:=λx=>by
   unfold Q84
   exact Q0d (Qv7 _ _ _) λy hy=>hy
 unfold Qa7
 exact w_lv λx0 _=>w_br (λ_=>bad) (λ_=>w_br (λ_=>bad) (λ_=>w_lv λx1 _=>w_br (λ_=>bad) (λ_=>Q0d (Qqw h (Q0r _) (.inr rfl)) λx2 _=>w_br (λ_=>bad) (λ_=>w_lv λx3 _=>w_br (λ_=>bad) (λ_=>Q0d (fr _) λx4 _=>w_lv λx5 _=>w_br (λ_=>bad) (λ_=>Q0d (fr _) λx6 _=>⟨Q0r _,Q0r _⟩))))))
theorem xR{a:Int}(ha:U a)(access:Int):(Q8i m a access).w (Q1 P):=by
 have hcl:Q03 m=m:=rfl
 unfold Q8i
 exact Q0d (Qqw h ha (.inr rfl)) λx0 _=>w_br (λ_=>w_an (Q8n h) (w_lv λx1 h1=>by rw[h1,hcl];exact h)) (λ_=>w_br (λ_=>Q0d (Qyz h ha (.inr rfl) (U_or _ _)) λx hx=>hx) (λ_=>Q0d (Qyz h ha (.inr rfl) (U_or _ _)) λx hx=>hx))
theorem Qky{c:Q04}{va:Int}(hv:U va){size:Int}(hs:size=1\/size=4)(access:Int):(Q6f c m va size access).w (λr=>U r.1/\Q1 P r.2.1):=by
 have hcl:Q03 m=m:=rfl
 have e:decide (IntKind.wrap IntKind.u32 size≠0)=true:=by rcases hs with rfl|rfl<;>decide
 have cl: ∀(K:List Int->Int×List Int×Int),(∀x,x=m->U (K x).1/\Q1 P (K x).2.1)->(Tree.an (Q08 m) (.lv (Q03 m) λx=> .lf (K x))).w (λr=>U r.1/\Q1 P r.2.1):=λK hK=>w_an (Q8n h) (w_lv λx hx=>hK x (hx.trans hcl))
 have z: ∀(k:Nat) (x:List Int),x=m->U (0:Int)/\Q1 P x:=λ_ x hx=>⟨U_0,hx▸h⟩
 have v: ∀x,x=m->U va/\Q1 P x:=λx hx=>⟨hv,hx▸h⟩
 have main: ∀(x0:Int×Bool),(Tree.cn (decide (IntKind.wrap IntKind.u32 size≠0)) (.br (Int.tmod va (IntKind.wrap IntKind.u32 size) !=0) (.an (Q08 m) (.lv (Q03 m) λx3=> .lf ((0:Int),x3,(3:Int)))) (.lv (Qa0 c) λx4=> .br (!x4) (.br (iand IntKind.u32 c.B5.a0 4 !=0) (.an (Qhk m c.B5.a6 va access) (.lv (Qhh m c.B5.a6 va access) λx5=> .br (x5.F1 !=0) (.an (Q08 m) (.lv (Q03 m) λx6=> .lf (0,x6,x5.F1))) (.an (Qfw m x5.F4 access) (.lv (Qbr m x5.F4 access) λx7=> .lf (x5.Addr,x7,0))))) (.an (Q33 m va size) (.lv (Q4s m va size) λx8=> .br (!x8.2) (.an (Q08 m) (.lv (Q03 m) λx9=> .lf (0,x9,x0.1))) (.an (Q08 m) (.lv (Q03 m) λx10=> .lf (va,x10,0)))))) (.an (Q33 m va size) (.lv (Q4s m va size) λx11=> .br (!x11.2) (.an (Q08 m) (.lv (Q03 m) λx12=> .lf (0,x12,x0.1))) (.an (Q08 m) (.lv (Q03 m) λx13=> .lf (va,x13,0)))))))).w (λr=>U r.1/\Q1 P r.2.1):=λx0=>
   w_cn e (w_br (λ_=>cl _ (z 0)) (λ_=>w_lv λx4 _=>w_br (λ_=>w_br (λ_=>Q0d (xas h hv access) λx5 hx=>w_br (λ_=>cl _ (z 0)) (λ_=>Q0d (xR h hx.2 access) λx7 h7=>⟨hx.1,h7⟩)) (λ_=>Q0d (Qqw h hv hs) λx8 _=>w_br (λ_=>cl _ (z 0)) (λ_=>cl _ v))) (λ_=>Q0d (Qqw h hv hs) λx8 _=>w_br (λ_=>cl _ (z 0)) (λ_=>cl _ v))))
 unfold Q6f
 exact w_lv λx0 _=>w_br (λ_=>cl _ (z 0)) (λ_=>w_br (λ_=>w_br (λ_=>cl _ (z 0)) (λ_=>main x0)) (λ_=>main x0))
theorem Z9e{c:Q04}(hc:Q2b c):(Qb9 c m).w (λr=>U r.1/\Q1 P r.2.1):=by
 unfold Qb9
 exact Q0d (Qky h hc.pc (.inr rfl) 1) λx0 h0=>w_br (λ_=>⟨U_0,h0.2⟩) (λ_=>Q0d (Qqw h0.2 h0.1 (.inr rfl)) λx1 h1=>⟨h1.1,h0.2⟩)
end
theorem qat{s a b:Int}:U (Q8q s a b):=by
 refine Tree.post (Qov s a b) (W:=U) ?_
 unfold Qov
 exact w_br (λ_=>Q0r _) (λ_=>Q0r _)
section
variable {c:Q04} (h:Q2b c)
include h
theorem Qoj(k:Int){b:Int}(hb:U b):Q2b (Q4f c k b):=by
 refine(Tree.post (Qkz c k b) (W:=Q2b) ?_)
 unfold Qkz
 refine w_lv λ_ _=>w_lv λ_ _=>⟨h.x,h.a1,?_⟩
 intro w hw
 simp only[A8.l,List.mem_cons,List.not_mem_nil,or_false]at hw
 rcases hw with rfl|rfl|rfl|rfl|rfl|rfl|rfl|rfl
 . exact Q0r _
 . exact h.a1
 . exact h.pc
 . exact Q0r _
 . exact hb
 . exact h.a5
 . exact h.a6
 . exact h.a7
theorem yu:Q2b (Qe7 c):=by
 refine(Tree.post (Qew c) (W:=Q2b) ?_)
 unfold Qew
 refine w_lv λx0 _=>w_lv λx1 h1=>⟨h.x,h.a2,?_⟩
 intro w hw
 simp only[A8.l,List.mem_cons,List.not_mem_nil,or_false]at hw
 rcases hw with rfl|rfl|rfl|rfl|rfl|rfl|rfl|rfl
 . rw[h1];exact qat
 . exact h.a1
 . exact h.a2
 . exact h.a3
 . exact h.a4
 . exact h.a5
 . exact h.a6
 . exact h.a7
theorem Qq1{r:Int}(hr:0<=r/\r<16){v:Int}(hv:U v):(Qch c r v).w Q2b:=by
 unfold Qch
 exact w_br (λ_=>w_cn (rc hr) ⟨Z7r h.x hv _,h.pc,h.csr⟩) (λ_=>h)
theorem Zjh(k:Int){v:Int}(hv:U v):(Qbj c k v).w Q2b:=by
 have ok: ∀i v,U v->Q2b {X:=c.X,Pc:=c.Pc,B5:=A8.of 0 (List.set (A8.l c.B5) i v)}:=λi v hv=>⟨h.x,h.pc,Qte h.csr hv i⟩
 unfold Qbj
 repeat'(first
   |exact h
   |exact ok _ _ (Q0r _)
   |exact ok _ _ hv
   |refine w_br (λhk=> ?_) (λ_=> ?_)
   |refine w_cn (by rw[eq_of_beq (by assumption:(k==_)=true)];decide) ?_)
end
theorem Ze6{a b:Int}(ha:U a)(hb:U b):(Qad a b).w (λr=>U r.1/\U r.2):=by
 have u1:U 4294967295:=⟨by omega,by omega⟩
 unfold Qad
 refine w_br (λ_=>⟨u1,ha⟩) (λh=> ?_)
 have h: ¬b=0:=by simpa using h
 obtain⟨b1,b2⟩:=hb
 have hc:decide (IntKind.wrap IntKind.i32 b≠0)=true:=decide_eq_true (by rw[IntKind.wrap_i32];omega)
 exact w_br (λ_=>w_br (λ_=>⟨ha,U_0⟩) (λ_=>w_cn hc (w_cn hc ⟨Q0r _,Q0r _⟩))) (λ_=>w_cn hc (w_cn hc ⟨Q0r _,Q0r _⟩))
theorem zat(b:Bool):U (Qn2 b):=by cases b<;>exact⟨by decide,by decide⟩
theorem Z6s(op:Int){a b:Int}(ha:U a)(hb:U b):(Qop op a b).w (λr=>U r.1):=by
 unfold Qop
 repeat'(first
   |refine w_br (λ_=> ?_) (λ_=> ?_)
   |exact Q0d (Ze6 ha hb) λx hx=>hx.1
   |exact Q0d (Ze6 ha hb) λx hx=>hx.2
   |exact w_lv λx hx=>(by rw[hx];exact zat _)
   |refine w_lf ?_)
 all_goals(first
   |exact Q0r _
   |exact Qsf ha _
   |exact U_0)
theorem Z7s(op:Int):Qex op=1\/Qex op=4:=by
 simp only[Qex,Qr2,Tree.m]
 cases op==32<;>cases op==35<;>simp
section
variable {c:Q04} (h:Q2b c) {i:Q0k} (hi:Qf6 i)
include h hi
theorem Zme:(Q51 c i).w (λr=>Q2b r.1/\U r.2.Value):=by
 have k: ∀{x:Q04} {p:Int},Q2b x->U p->Q2b {X:=x.X,Pc:=p,B5:=x.B5}:=λhx hp=>⟨hx.x,hp,hx.csr⟩
 unfold Q51
 refine w_cn (rc hi.a) (w_cn (rc hi.b) ?_)
 repeat'(first
   |refine w_br (λ_=> ?_) (λ_=> ?_)
   |exact Q0d (Qq1 h hi.a (Q0r _)) λx hx=>⟨k hx (Q0r _),U_0⟩
   |exact w_lv λx _=>w_br (λ_=>⟨k h (Q0r _),U_0⟩) (λ_=>⟨k h (Q0r _),U_0⟩)
   |exact w_lv λx hx=>⟨by rw[hx];exact Qoj h _ U_0,U_0⟩
   |exact w_lv λx hx=>⟨by rw[hx];exact yu h,U_0⟩
   |exact w_cn (by have:=hi.csr (by simp_all);simp [Nat.blt];omega) (Q0d (Qq1 h hi.a (h.a _)) λx hx=>⟨k hx (Q0r _),U_0⟩)
   |exact Q0d (Zjh h _ (h.r _)) λx hx=>⟨k hx (Q0r _),U_0⟩
   |refine w_cn (rc hi.c) ?_
   |exact Q0d (Z6s _ (h.r _) (Q0r _)) λy hy=>Q0d (Qq1 h hi.a hy) λx hx=>⟨k hx (Q0r _),U_0⟩
   |exact Q0d (Z6s _ (h.r _) (h.r _)) λy hy=>Q0d (Qq1 h hi.a hy) λx hx=>⟨k hx (Q0r _),U_0⟩
   |refine w_lf ?_)
 all_goals(first
   |exact⟨k h (Q0r _),U_0⟩
   |exact⟨k h (Q0r _),h.r _⟩)
theorem Qzt{P:Nat}{m:List Int}(hm:Q1 P m):(Qdb c m i).w (λr=>Q2b r.1/\Q1 P r.2):=by
 have w:=Z7s i.Op
 unfold Qdb
 refine w_cn (rc hi.b) (w_lv λx0 h0=> ?_)
 rw[<-h0]at w
 refine Q0d (Qky hm (Q0r _) w 2) λx1 h1=>w_br (λ_=>w_lv λy hy=>⟨by rw[hy];exact Qoj h _ (Q0r _),h1.2⟩) (λ_=>w_lv λx3 h3=> ?_)
 rw[h0,<-h3]at w
 exact Q0d (Qqw h1.2 h1.1 w) λx4 h4=>w_br (λ_=>Q0d (Qvs h4.1 8) λy hy=>Q0d (Qq1 h hi.a hy) λx hx=>⟨⟨hx.x,Q0r _,hx.csr⟩,h1.2⟩) (λ_=>Q0d (Qq1 h hi.a h4.1) λx hx=>⟨⟨hx.x,Q0r _,hx.csr⟩,h1.2⟩)
theorem Qwu{P:Nat}{m:List Int}(hm:Q1 P m):(Qbf c m i).w (λr=>Q2b r.1/\Q1 P r.2):=by
 have w:=Z7s i.Op
 unfold Qbf
 refine w_cn (rc hi.b) (w_lv λx0 h0=> ?_)
 rw[<-h0]at w
 refine Q0d (Qky hm (Q0r _) w 3) λx1 h1=>w_br (λ_=>w_lv λy hy=>⟨by rw[hy];exact Qoj h _ (Q0r _),h1.2⟩) (λ_=>w_lv λx3 h3=>w_cn (rc hi.a) ?_)
 rw[h0,<-h3]at w
 exact Q0d (Qyz h1.2 h1.1 w (h.r _)) λx hx=>⟨⟨h.x,Q0r _,h.csr⟩,hx⟩
end
theorem vu{c:Q04}(h:Q2b c){P:Nat}{m:List Int}(hm:Q1 P m):(Q71 c m).w (λr=>Q2b r.1/\Q1 P r.2.1/\U r.2.2.Value):=by
 unfold Q71
 refine Q0d (Z9e hm h) λx0 h0=>w_br (λ_=>w_lv λy hy=>⟨by rw[hy];exact Qoj h _ h.pc,h0.2,U_0⟩) (λ_=>Q0d (Z1c _) λx2 h2=>w_br (λ_=>w_lv λy hy=>⟨by rw[hy];exact Qoj h _ h0.1,h0.2,U_0⟩) (λhb=> ?_))
 have hi:=h2 (by simpa using hb)
 refine w_lv λx4 _=> ?_
 repeat'(first
   |refine w_br (λ_=> ?_) (λ_=> ?_)
   |exact Q0d (Qzt h hi h0.2) λx hx=>⟨hx.1,hx.2,U_0⟩
   |exact Q0d (Qwu h hi h0.2) λx hx=>⟨hx.1,hx.2,U_0⟩
   |exact Q0d (Zme h hi) λx hx=>⟨hx.1,h0.2,hx.2⟩
   |exact w_lv λy hy=>⟨by rw[hy];exact Qoj h _ h0.1,h0.2,U_0⟩
   |refine w_lv λ_ _=> ?_)
theorem Zie{a:Int}(h:U a)(k:Nat)(hk:k<=32):0<=ishr .u32 a k/\ishr .u32 a k*2^k<=a:=by
 obtain⟨h1,h2⟩:=h
 unfold ishr
 have e:min (k:Int).toNat IntKind.u32.bits=k:=by show min (k:Int).toNat 32=k;omega
 have hp:(0:Int)<2^k:=Int.pow_pos (by decide)
 rw[e,Int.fdiv_eq_ediv_of_nonneg _ (Int.le_of_lt hp)]
 exact⟨Int.ediv_nonneg h1 (Int.le_of_lt hp),Int.ediv_mul_le a (Int.ne_of_gt hp)⟩
theorem Zj9(x:Int):0<=IntKind.u8.wrap x/\IntKind.u8.wrap x<256:=by rw[IntKind.wrap_u8];omega
theorem xat{x:Int}(h:U x):(Q1u x).w (λ_=>True):=by
 have s16:=Zie h 16 (by omega)
 have s8:=Zie h 8 (by omega)
 have s24:=Zie (Qsf h 16) 8 (by omega)
 obtain⟨h1,h2⟩:=h
 unfold Q1u
 repeat'(first
   |refine w_br (λ_=> ?_) (λ_=> ?_)
   |refine w_cn (decide_eq_true ⟨?_,Int.lt_of_lt_of_le (b:=256) ?_ (Int.le_of_eq (by kernel_rfl))⟩) ?_
   |exact trivial
   |refine w_lf ?_)
 all_goals(first
   |trivial
   |exact(Zj9 _).1
   |exact(Zj9 _).2
   |(simp only[decide_eq_true_eq,decide_eq_false_iff_not]at*;simp at s16 s8 s24;omega))
theorem and255(a:Int):iand .u32 a 255<256:=by
 unfold iand
 rw[IntKind.wrap_u32]
 have:(BitVec.ofInt IntKind.u32.bits a&&&BitVec.ofInt IntKind.u32.bits 255).toNat<=255:=by
   show(BitVec.ofInt 32 a&&&BitVec.ofInt 32 255).toNat<=255
   rw[BitVec.toNat_and]
   exact Nat.le_trans Nat.and_le_right (by decide)
 omega
theorem xaI{x:Int}(h:U x):(Q39 x).w (λ_=>True):=by
 have s24:=Zie h 24 (by omega)
 obtain⟨h1,h2⟩:=h
 have i24:ishr .u32 x 24<256:=by simp at s24;omega
 unfold Q39
 repeat'(first
   |refine w_cn (decide_eq_true ⟨?_,Int.lt_of_lt_of_le (b:=256) ?_ (Int.le_of_eq (by kernel_rfl))⟩) ?_
   |exact trivial
   |refine w_lf ?_)
 all_goals(first
   |trivial
   |exact(Q0r _).1
   |exact s24.1
   |exact i24
   |exact and255 _)
structure okS(P:Nat)(m:Q00):Prop where
 cpu:Q2b m.B2
 mem:Q1 P m.Mem
 disk:Q83 m.B0
 nic:Qii m.C0
 target:U m.A2.C9
 given:U m.A2.C5
theorem Ziq{b:Q07}(h:U b.C5):(Q9 b).w (λ_=>True):=by
 unfold Q9
 exact Q0d (xaI h) λ_ _=>trivial
theorem Zk0{m:Q00}(h:U m.A2.C5):(Q52 m).w (λ_=>True):=by
 have b: ∀x,(Q3z m.A2 x).w (λ_=>True):=λx=>by
   unfold Q3z
   exact Q0d (xat h) λ_ _=>trivial
 have d:(Q1q m).w (λ_=>True):=by
   unfold Q1q
   exact w_lv λ_ _=>w_lv λ_ _=>w_br (λ_=>w_lv λ_ _=>w_br (λ_=>w_lv λ_ _=>w_br (λ_=>w_lv λ_ _=>w_br (λ_=>Q0d (b _) λ_ _=>trivial) (λ_=>trivial)) (λ_=>trivial)) (λ_=>trivial)) (λ_=>trivial)
 unfold Q52
 repeat'(first
   |refine w_br (λ_=> ?_) (λ_=> ?_)
   |exact Q0d d λ_ _=>trivial
   |refine w_lv λ_ _=> ?_
   |exact trivial)
theorem Zjt{m:Q00}(h:U m.A2.C5):(Q6w m).w (λ_=>True):=by
 have p:(Q5b m.A2).w (λ_=>True):=by
   unfold Q5b
   exact Q0d (Ziq h) λ_ _=>trivial
 unfold Q6w
 refine w_lv λx0 _=>w_lv λx1 _=>w_lv λx2 _=>w_lv λx3 _=>Q0d p λx4 _=>w_lp (inv:=λz=>0<=z.2/\z.2<=5) (μ:=Qh9 m) ⟨by omega,by omega⟩ (Nat.lt_succ_self _) (λz hz=> ?_)
 obtain⟨z1,z2⟩:=hz
 have ew:z.2<5->IntKind.i64.wrap (z.2+1)=z.2+1:=λ_=>by rw[IntKind.wrap_i64];omega
 refine w_br (λhb=> ?_) (λ_=>trivial)
 have hb:=of_decide_eq_true hb
 have nx:(0<=IntKind.i64.wrap (z.2+1)/\IntKind.i64.wrap (z.2+1)<=5)/\(5-IntKind.i64.wrap (z.2+1)).toNat<(5-z.2).toNat:=by rw[ew hb];omega
 refine w_cn (by simp;omega) (w_br (λ_=>w_cn (decide_eq_true z1) (w_nx nx)) (λ_=>w_nx nx))
theorem Qv6{m:Q00}(h:U m.A2.C5):(Q2x m).w U:=by
 unfold Q2x
 exact Q0d (Zjt h) λ_ _=>Qit _ _
theorem Zfb{m:Q00}(h:U m.A2.C5):(Q40 m).w (λ_=>True):=by
 have i:(Q31 m).w (λ_=>True):=by
   unfold Q31
   exact w_br (λ_=>Q0d (Qv6 h) λ_ _=>trivial) (λ_=>trivial)
 unfold Q40
 exact Q0d (Zk0 h) λ_ _=>w_br (λ_=>w_br (λ_=>Q0d i λ_ _=>w_br (λ_=>trivial) (λ_=>trivial)) (λ_=>trivial)) (λ_=>trivial)
theorem zR{P:Nat}{m:Q00}(h:okS P m):(Q2t m).w (okS P):=by
 obtain⟨h1,h2,h3,h4,h5,h6⟩:=h
 unfold Q2t
 refine w_br (λ_=>⟨h1,h2,h3,h4,h5,h6⟩) (λ_=>Q0d (Qv6 (m:=⟨_,_,_,_,_,_,m.A2,_,_,_⟩) h6) λx0 _=>w_lp (inv:=λz=>0<=z/\z<=5) (μ:=Qb3 m) ⟨by omega,by omega⟩ (Nat.lt_succ_self _) (λz hz=> ?_))
 obtain⟨z1,z2⟩:=hz
 refine w_br (λhb=>w_cn (decide_eq_true z1) (w_br (λ_=>w_lv λx1 hx=>⟨by rw[hx];exact Qoj h1 _ U_0,h2,h3,h4,h5,h6⟩) (λ_=>w_nx ?_))) (λ_=>⟨h1,h2,h3,h4,h5,h6⟩)
 have hb:=of_decide_eq_true hb
 show(0<=IntKind.i64.wrap (z+1)/\IntKind.i64.wrap (z+1)<=5)/\(5-IntKind.i64.wrap (z+1)).toNat<(5-z).toNat
 have ew:IntKind.i64.wrap (z+1)=z+1:=by rw[IntKind.wrap_i64];omega
 rw[ew];omega
theorem Qee{P:Nat}{m:List Int}(h:Q1 P m):Q3k m=P:=by
 obtain⟨h1,h2,h3,_⟩:=h
 simp only[Q3k,Qnf,Tree.m]
 have e:(m.length:Int)=32*P:=by omega
 rw[e]
 have e1:(Int.tmod (32*(P:Int)) 32 !=0)=false:=by simp [Int.mul_tmod_right]
 have e2:decide ((32*(P:Int))>1024)=false:=decide_eq_false (by omega)
 rw[e1,e2]
 simp only[cond_false]
 rw[Int.mul_tdiv_cancel_left _ (by decide),IntKind.wrap_i64];omega
theorem Qld{P:Nat}{m:List Int}(h:Q1 P m){f:Int}(hf:U f):Q26 m f=decide (f<P):=by
 have:=Qee h
 obtain⟨h1,h2⟩:=hf
 have h3:=h.p2
 simp only[Q26,Qgz,Tree.m,letv,this]
 congr 1
 rw[IntKind.wrap_u64,IntKind.wrap_u64,Int.emod_eq_of_lt h1 (by omega),Int.emod_eq_of_lt (by omega) (by omega)]
theorem zW{P:Nat}{m:List Int}(h:Q1 P m):(Qda m).w (λr=>r=m):=by
 obtain⟨h1,h2,h3,_⟩:=h
 unfold Qda
 refine w_cn ?_ ?_
 . simp [Nat.blt,D.plain];omega
 . show _=_
   simp
theorem put_w{P:Nat}{m:List Int}(h:Q1 P m){addr size v:Int}(ha:U addr)(hl:addr<4*m.length)(hv:U v):(Qe3 m addr size v).w (Q1 P):=by
 obtain⟨h1,h2,h3,h4⟩:=h
 obtain⟨a1,a2⟩:=ha
 have e:IntKind.wrap IntKind.u32 (Int.tdiv addr 4)=addr/4:=by rw[IntKind.wrap_u32,Int.tdiv_eq_ediv_of_nonneg a1];omega
 have hc:(Nat.beq 1 1&&Nat.blt 0 1&&decide (0<=IntKind.wrap IntKind.u32 (Int.tdiv addr 4)/\IntKind.wrap IntKind.u32 (Int.tdiv addr 4)<(m.length:Int)))=true:=by
   rw[e];simp [Nat.blt];omega
 have h0: ∀x,decide (0<=IntKind.wrap IntKind.u32 x)=true:=λx=>decide_eq_true (Q0r x).1
 have hs: ∀i v,U v->Q1 P (m.set i v):=λi v hv=>⟨by simp [h1],h2,h3,Qyv h4 hv i⟩
 unfold Qe3
 exact w_br (λ_=>w_cn hc (hs _ _ hv)) (λ_=>w_cn hc (w_cn (h0 _) (w_cn (h0 _) (w_cn hc (hs _ _ (U_or _ _))))))
theorem yW{P:Nat}{m:List Int}(h:Q1 P m){frame:Int}(f0:0<=frame)(f1:frame<P)(s:List UInt8):(Q9d m frame s).w (Q1 P):=by
 unfold Q9d
 have h3:=h.p2
 refine w_lp (inv:=λz=>0<=z.1/\z.1<=128/\Q1 P z.2) (μ:=Qhc m frame s) ⟨by omega,by omega,h⟩ (Nat.lt_succ_self _) (λv0 hv0=> ?_)
 obtain⟨i0,i1,hm⟩:=hv0
 refine w_br (λh1=>w_br (λh2=>w_cn ?_ ?_) (λ_=>hm)) (λ_=>hm)
 . have:=of_decide_eq_true h1
   simp [Nat.blt];omega
 . have h2:=of_decide_eq_true h2
   have e:IntKind.wrap IntKind.u32 (IntKind.wrap IntKind.i64 (IntKind.wrap IntKind.i64 (frame*128)+v0.1))=frame*128+v0.1:=by
     rw[IntKind.wrap_u32,IntKind.wrap_i64,IntKind.wrap_i64];omega
   rw[e]
   obtain⟨g1,g2⟩:=Tree.pp (put_w hm (size:=1) (addr:=frame*128+v0.1) ⟨by omega,by omega⟩ (by rw[hm.len];omega) (Q0r (UInt8.toNat (s.getD v0.1.toNat 0))))
   refine w_an g1 (w_lv λx0 hx0=> ?_)
   rw[hx0]
   have ew:IntKind.i64.wrap (v0.1+1)=v0.1+1:=by rw[IntKind.wrap_i64];omega
   refine w_nx ?_
   show(0<=IntKind.i64.wrap (v0.1+1)/\IntKind.i64.wrap (v0.1+1)<=128/\Q1 P _)/\(128-IntKind.i64.wrap (v0.1+1)).toNat<(128-v0.1).toNat
   rw[ew]
   exact⟨⟨by omega,by omega,g2⟩,by omega⟩
theorem Zij{P:Nat}{m:List Int}(h:Q1 P m){d:Q0e}(hd:Q83 d)(e:Q0f):(Q6a d m e).w (λr=>Q83 r.1/\Q1 P r.2.2):=by
 have fl:Q26 m d.B3=true->(Q9d m (IntKind.i64.wrap d.B3) e.D0).w (Q1 P):=λhp=>by
   rw[Qld h hd.opFrame]at hp
   have:=of_decide_eq_true hp
   have h1:=hd.opFrame.1
   have h3:=h.p2
   have ew:IntKind.i64.wrap d.B3=d.B3:=by rw[IntKind.wrap_i64];omega
   rw[ew]
   exact yW h h1 this _
 have l0:Q83 d/\Q1 P m:=⟨hd,h⟩
 have l1: ∀st,Q83 {Blocks:=d.Blocks,B9:=d.B9,B4:=d.B4,C1:=st,D8:=0,B6:=0,B3:=0,C3:=[]}:=λst=>⟨hd.block,hd.frame,U_0,U_0⟩
 unfold Q6a
 repeat'(first
   |exact l0
   |exact⟨l1 _,h⟩
   |refine w_br (λ_=> ?_) (λ_=> ?_)
   |refine w_lv (λ_ _=> ?_))
 all_goals(
   first
     | (have hp:Q26 m d.B3=true:=by simp_all
        obtain⟨g1,g2⟩:=Tree.pp (fl hp)
        refine w_an g1 (w_lv λx hx=> ?_)
        rw[hx]
        exact w_br (λ_=>⟨l1 _,g2⟩) (λ_=>⟨l1 _,g2⟩))
     |(exfalso;simp_all;done))
section
variable {c:Q04} (h:Q2b c)
include h
theorem Z1o(k:Int){b:Int}(hb:U b):Q2b (Q2s c k b):=by
 refine(Tree.post (Qim c k b) (W:=Q2b) ?_)
 unfold Qim
 refine w_lv λ_ _=>w_lv λ_ _=>⟨h.x,h.a1,?_⟩
 intro w hw
 simp only[A8.l,List.mem_cons,List.not_mem_nil,or_false]at hw
 rcases hw with rfl|rfl|rfl|rfl|rfl|rfl|rfl|rfl
 . exact U_or _ _
 . exact h.a1
 . exact h.pc
 . exact Q0r _
 . exact hb
 . exact h.a5
 . exact h.a6
 . exact h.a7
theorem yR:Q2b (Qh6 c):=by
 refine(Tree.post (Qc1 c) (W:=Q2b) ?_)
 unfold Qc1
 refine w_lv λ_ _=>w_lv λ_ _=>⟨h.x,h.a2,?_⟩
 intro w hw
 simp only[A8.l,List.mem_cons,List.not_mem_nil,or_false]at hw
 rcases hw with rfl|rfl|rfl|rfl|rfl|rfl|rfl|rfl
 . exact U_or _ _
 . exact h.a1
 . exact h.a2
 . exact h.a3
 . exact h.a4
 . exact h.a5
 . exact h.a6
 . exact h.a7
theorem Z4x(r:Int){v:Int}(hv:U v):(Qdu c r v).w Q2b:=by
 unfold Qdu
 refine w_br (λh1=>w_br (λh2=>w_cn ?_ ⟨Z7r h.x hv _,h.pc,h.csr⟩) (λ_=>h)) (λ_=>h)
 have h1:=of_decide_eq_true h1
 have h2:=of_decide_eq_true h2
 simp [Nat.blt];omega
theorem qau(k:Int){v:Int}(hv:U v):(Qbt c k v).w Q2b:=by
 have ok: ∀i v,U v->Q2b {X:=c.X,Pc:=c.Pc,B5:=A8.of 0 (List.set (A8.l c.B5) i v)}:=λi v hv=>⟨h.x,h.pc,Qte h.csr hv i⟩
 unfold Qbt
 repeat'(first
   |exact h
   |exact ok _ _ (Q0r _)
   |exact ok _ _ hv
   |refine w_br (λhk=> ?_) (λ_=> ?_)
   |refine w_cn (by rw[eq_of_beq (by assumption:(k==_)=true)];decide) ?_)
end
section
variable {P:Nat} {m:List Int} (h:Q1 P m)
include h
theorem Z7m(a:Int){size:Int}(hs:size=1\/size=4):(Q7m m a size).w (λb=>b=true->a<128*P):=by
 have hp:=Qee h
 have h2:=h.p2
 have e:decide (IntKind.wrap IntKind.u32 size≠0)=true:=by rcases hs with rfl|rfl<;>decide
 have l: ∀x,x=Q3k m->decide (a<IntKind.wrap IntKind.u32 (IntKind.wrap IntKind.i64 (128*x)))=true->a<128*P:=λx hx hd=>by
   rw[hx,hp,IntKind.wrap_u32,IntKind.wrap_i64]at hd
   have:=of_decide_eq_true hd
   omega
 unfold Q7m
 refine w_br (λ_=>w_br (λ_=>λh=>by cases h) (λ_=> ?_)) (λ_=> ?_)<;>
 exact w_cn e (w_br (λ_=>w_lv λx hx=>l x hx) (λ_=>λh=>by cases h))
theorem idx{a:Int}(ha:U a)(hl:a<128*P):(Nat.beq 1 1&&Nat.blt 0 1&&decide (0<=IntKind.wrap IntKind.u32 (Int.tdiv a 4)/\IntKind.wrap IntKind.u32 (Int.tdiv a 4)<(m.length:Int)))=true:=by
 obtain⟨a1,a2⟩:=ha
 have e:IntKind.wrap IntKind.u32 (Int.tdiv a 4)=a/4:=by rw[IntKind.wrap_u32,Int.tdiv_eq_ediv_of_nonneg a1];omega
 have:=h.len
 rw[e];simp [Nat.blt];omega
theorem Zdp{a:Int}(ha:U a){size:Int}(hs:size=1\/size=4):(Q3t m a size).w (λr=>U r.1):=by
 obtain⟨g1,g2⟩:=Tree.pp (Z7m h a hs)
 unfold Q3t
 refine w_an g1 (w_lv λx hx=>w_br (λ_=>U_0) (λhb=> ?_))
 have hb:x=true:=by simpa using hb
 have hl:=g2 (hx.symm.trans hb)
 refine w_cn (idx h ha hl) (w_br (λ_=>w_cn (decide_eq_true (Q0r _).1) (Q0r _)) (λ_=>Ql4 h.u _))
theorem qaJ{a:Int}(ha:U a)(access:Int):(Qdr m a access).w (Q1 P):=by
 obtain⟨g1,g2⟩:=Tree.pp (Z7m h a (size:=4) (.inr rfl))
 have hs: ∀{m:List Int} i v,Q1 P m->U v->Q1 P (m.set i v):=λi v h hv=>⟨by simp [h.len],h.p1,h.p2,Qyv h.u hv i⟩
 unfold Qdr
 refine w_an g1 (w_lv λx hx=>w_br (λ_=>h) (λhb=> ?_))
 have hb:x=true:=by simpa using hb
 have hl:=g2 (hx.symm.trans hb)
 have i0:=idx h ha hl
 have h':=hs (Int.toNat (IntKind.wrap IntKind.u32 (Int.tdiv a 4))) (ior IntKind.u32 (m.getD (Int.toNat (IntKind.wrap IntKind.u32 (Int.tdiv a 4))) 0) 8) h (U_or _ _)
 have i1:=idx h' ha hl
 exact w_cn i0 (w_cn i0 (w_br (λ_=>w_cn i1 (w_cn i1 (hs _ _ h' (U_or _ _)))) (λ_=>h')))
theorem vW{root va:Int}(hr:U root)(hv:U va)(access:Int):(Q95 m root va access).w (λt=>U t.Addr/\U t.F4/\(t.F1=0->t.Addr<128*P)):=by
 have hp:=Qee h
 have h2:=h.p2
 have hlen:=h.len
 obtain⟨r1,r2⟩:=hr
 obtain⟨v1,v2⟩:=hv
 unfold Q95
 refine w_lv λx0 hx0=>w_lv λx1 hx1=>w_lv λx2 _=> ?_
 have hc:x0≠0:=by
   rw[hx0]
   simp only[Q20,Q8l,Tree.m]
   cases access==1<;>cases access==3<;>simp
 rw[hp]at hx1
 have bad:U (0:Int)/\U (0:Int)/\(x0=0->(0:Int)<128*P):=⟨U_0,U_0,λe=>absurd e hc⟩
 refine w_br (λ_=>bad) (λ_=>w_br (λ_=>bad) (λhva=>w_br (λ_=>bad) (λhro=> ?_)))
 have hva:=of_decide_eq_false hva
 have hro:=of_decide_eq_false hro
 have e1:IntKind.wrap IntKind.u32 x1=P:=by rw[hx1,IntKind.wrap_u32];omega
 rw[e1]at hro
 have e2:IntKind.wrap IntKind.u32 (IntKind.wrap IntKind.u32 (root*128)+IntKind.wrap IntKind.u32 (4*IntKind.wrap IntKind.u32 (Int.tdiv va 128)))=root*128+4*(va/128):=by
   rw[Int.tdiv_eq_ediv_of_nonneg v1,IntKind.wrap_u32,IntKind.wrap_u32,IntKind.wrap_u32,IntKind.wrap_u32];omega
 have hU:U (IntKind.wrap IntKind.u32 (IntKind.wrap IntKind.u32 (root*128)+IntKind.wrap IntKind.u32 (4*IntKind.wrap IntKind.u32 (Int.tdiv va 128)))):=Q0r _
 have ci:=idx h hU (by rw[e2];omega)
 have good: ∀w:Int,decide (iand IntKind.u32 w 255>=IntKind.wrap IntKind.u32 x1)=false->(U (IntKind.wrap IntKind.u32 (IntKind.wrap IntKind.u32 (iand IntKind.u32 w 255*128)+Int.tmod va 128))/\U (IntKind.wrap IntKind.u32 (IntKind.wrap IntKind.u32 (root*128)+IntKind.wrap IntKind.u32 (4*IntKind.wrap IntKind.u32 (Int.tdiv va 128))))/\((0:Int)=0->IntKind.wrap IntKind.u32 (IntKind.wrap IntKind.u32 (iand IntKind.u32 w 255*128)+Int.tmod va 128)<128*P)):=λw hw=>by
   have hw:=of_decide_eq_false hw
   rw[e1]at hw
   have hn:=(Qit w 255).1
   refine⟨Q0r _,Q0r _,λ_=> ?_⟩
   rw[Int.tmod_eq_emod_of_nonneg v1,IntKind.wrap_u32,IntKind.wrap_u32]
   generalize iand IntKind.u32 w 255=q at*
   omega
 refine w_cn ci ?_
 repeat'(first
   |exact bad
   |exact good _ (by assumption)
   |refine w_br (λ_=> ?_) (λ_=> ?_)
   |refine w_cn ci ?_)
theorem Z8z{c:Q04}(hc:Q2b c){va:Int}(hv:U va){size:Int}(hs:size=1\/size=4)(access:Int):(Q75 c m va size access).w (λr=>Q1 P r.2.2/\U r.1/\(r.2.1=0->r.1<128*P)):=by
 have e:decide (IntKind.wrap IntKind.u32 size≠0)=true:=by rcases hs with rfl|rfl<;>decide
 obtain⟨g1,g2⟩:=Tree.pp (Z7m h va hs)
 obtain⟨k1,k2⟩:=Tree.pp (vW h hc.a6 hv access)
 have bad: ∀k:Int,k≠0->Q1 P m/\U (0:Int)/\(k=0->(0:Int)<128*P):=λk hk=>⟨h,U_0,λe=>absurd e hk⟩
 have hca:Q20 access≠0:=by
   simp only[Q20,Q8l,Tree.m]
   cases access==1<;>cases access==3<;>simp
 unfold Q75
 refine w_lv λx0 _=>w_br (λ_=>bad 5 (by decide)) (λ_=>w_br (λh1=>w_br (λh2=> ?_) (λ_=> ?_)) (λ_=> ?_))
 . exact bad 5 (by decide)
 all_goals(
   refine w_cn e (w_br (λ_=>bad 3 (by decide)) (λ_=>w_lv λx1 _=>w_br (λ_=>w_an g1 (w_lv λx2 hx2=>w_br (λ_=>w_lv λx3 hx3=>bad x3 (by rw[hx3];exact hca)) (λhb=> ?_))) (λ_=>w_an k1 (w_lv λx4 hx4=>w_br (λhb=> ?_) (λhb=> ?_)))))
   . have hb:x2=true:=by simpa using hb
     exact⟨h,hv,λ_=>g2 (hx2.symm.trans hb)⟩
   . exact bad _ (by simpa using hb)
   . obtain⟨t1,t2,t3⟩:=k2
     rw[show(Q95 m c.B5.a6 va access).m=x4 from hx4.symm]at t1 t2 t3
     obtain⟨m1,m2⟩:=Tree.pp (qaJ h t2 access)
     refine w_an m1 (w_lv λx5 hx5=> ?_)
     exact⟨hx5▸m2,t1,λ_=>t3 (by simpa using hb)⟩)
end
theorem qv{r:Int}(h:Q7q r=true):0<=r/\r<16:=by
 simp only[Q7q,Qcz,Tree.m]at h
 cases h1:decide (r>=0)<;>rw[h1]at h
 . cases h
 . have h1:=of_decide_eq_true h1
   have h:=of_decide_eq_true h
   omega
theorem vR{i:Q0k}(hi:IntKind.wrap .i64 i.Imm=i.Imm)(h:Q6x i=true):Qf6 i:=by
 have no:false=true->Qf6 i:=λh=>by cases h
 refine(Tree.post (Qeq i) (W:=λb=>b=true->Qf6 i) ?_) h
 unfold Qeq
 refine w_lv λx0 h0=>w_br (λ_=>no) (λ_=>w_lv λx1 h1=>w_br (λ_=>no) (λb1=>w_lv λx2 h2=>w_br (λ_=>no) (λb2=>w_lv λx3 h3=>w_br (λ_=>no) (λb3=>w_lv λx4 h4=>w_br (λ_=>no) (λb4=>w_br (λ_=>no) (λb5=> ?_))))))
 have b1:x1=true:=by simpa using b1
 have b2:x2=true:=by simpa using b2
 have b3:x3=true:=by simpa using b3
 have b4:=of_decide_eq_false b4
 have b5:=of_decide_eq_false b5
 rw[hi]at b4 b5
 have ok:Qf6 i:=⟨qv (h1.symm.trans b1),qv (h2.symm.trans b2),qv (h3.symm.trans b3),λe=>by
   rw[e]at h0
   have h0:x0=8:=h0
   subst h0
   have h4:x4=(0,7):=h4
   subst h4
   simp at b4 b5;omega⟩
 repeat'(first
   |exact λ_=>ok
   |exact no
   |refine w_br (λ_=> ?_) (λ_=> ?_))
theorem Zim(w:Int):(Q65 w).w (λr=>r.2=true->Qf6 r.1):=by
 have no: ∀{p:Prop},false=true->p:=λh=>by cases h
 have e: ∀x,IntKind.wrap .i64 (IntKind.wrap .i32 x)=IntKind.wrap .i32 x:=λx=>by rw[IntKind.wrap_i64,IntKind.wrap_i32];omega
 have ok: ∀i,IntKind.wrap .i64 i.Imm=i.Imm-> ∀x,x=Q6x i->(!x)=false->true=true->Qf6 i:=λi hi x hx hb _=>vR hi (hx.symm.trans (by simpa using hb))
 unfold Q65
 refine w_lv λx0 _=> ?_
 have l: ∀i,IntKind.wrap .i64 i.Imm=i.Imm->(Tree.lv (Q6x i) λx=> .br (!x) (.lf ((⟨0,0,0,0,0⟩:Q0k),false)) (.lf (i,true))).w (λr=>r.2=true->Qf6 r.1):=λi hi=>w_lv λx hx=>w_br (λ_=>no) (λhb=>ok i hi x hx hb)
 refine w_br (λ_=>no) (λ_=>w_br (λ_=>l _ rfl) (λ_=>w_br (λ_=>l _ (e _)) (λ_=>w_br (λ_=>l _ (e _)) (λ_=>l _ (e _)))))
theorem bit_w(b:Bool):U (Qb1 b):=by cases b<;>exact⟨by decide,by decide⟩
theorem Ziz{a b:Int}(ha:U a)(hb:U b):(Q9v a b).w (λr=>U r.1/\U r.2):=by
 unfold Q9v
 refine w_br (λ_=>⟨⟨by omega,by omega⟩,ha⟩) (λh=> ?_)
 have h: ¬b=0:=by simpa using h
 obtain⟨b1,b2⟩:=hb
 have hc:decide (IntKind.wrap IntKind.i64 (IntKind.wrap IntKind.i32 b)≠0)=true:=decide_eq_true (by rw[IntKind.wrap_i64,IntKind.wrap_i32];omega)
 exact w_cn hc (w_cn hc ⟨Q0r _,Q0r _⟩)
theorem alu_w(op:Int){a b:Int}(ha:U a)(hb:U b):(Qkk op a b).w (λr=>U r.1):=by
 unfold Qkk
 refine w_lv λx0 _=> ?_
 repeat'(first
   |exact Q0r _
   |exact Qsf ha _
   |exact U_0
   |refine w_br (λ_=> ?_) (λ_=> ?_)
   |exact Q0d (Ziz ha hb) λx hx=>hx.1
   |exact Q0d (Ziz ha hb) λx hx=>hx.2
   |exact w_lv λx hx=>(by rw[hx];exact bit_w _))
theorem xv{x:Int}(hx:U x):(Q6t x 8).w U:=by
 unfold Q6t
 have h0:decide (0<=IntKind.wrap IntKind.u64 8)=true:=by decide
 refine w_br (λh=>absurd h (by decide)) λ_=>w_br (λh=>absurd h (by decide)) λ_=>w_cn h0 (w_cn (by decide) (w_br (λ_=>w_cn h0 (U_or _ _)) (λ_=>Qit _ _)))
section
variable {c:Q04} (h:Q2b c) {i:Q0k} (hi:Qf6 i)
include h hi
theorem qS:(Q7n c i).w (λr=>Q2b r.1/\U r.2.Value):=by
 unfold Q7n
 refine w_br (λ_=>w_lv λx hx=>⟨hx▸Z1o h _ U_0,U_0⟩) (λ_=>w_br (λ_=>w_lv λx hx=>⟨hx▸yR h,U_0⟩) (λ_=>w_br (λe=>w_cn ?_ (Q0d (Z4x h _ (h.a _)) λx hx=>⟨hx.pcs (Q0r _),U_0⟩)) (λ_=>w_br (λ_=>w_cn (rc hi.a) (Q0d (qau h _ (h.r _)) λx hx=>⟨hx.pcs (Q0r _),U_0⟩)) (λ_=> ?_))))
 . have:=hi.csr (by simpa using e)
   simp [Nat.blt];omega
 . have k:=h.pcs (Q0r (c.Pc+4))
   repeat'(first
     |exact⟨k,U_0⟩
     |exact⟨k,h.r _⟩
     |refine w_br (λ_=> ?_) (λ_=> ?_)
     |refine w_cn (rc hi.a) ?_)
theorem zaJ:(Qhl c i).w Q2b:=by
 unfold Qhl
 exact w_br (λ_=>Q0d (Z4x h _ (Q0r _)) λx hx=>hx.pcs (Q0r _)) (λ_=>w_br (λ_=>w_cn (rc hi.b) (Q0d (Z4x h _ (Q0r _)) λx hx=>hx.pcs (Q0r _))) (λ_=>w_cn (rc hi.a) (w_cn (rc hi.b) (w_lv λx _=>w_br (λ_=>h.pcs (Q0r _)) (λ_=>h.pcs (Q0r _))))))
theorem Zkn{P:Nat}{m:List Int}(hm:Q1 P m):(Q9f c m i).w (λr=>Q2b r.1/\Q1 P r.2):=by
  unfold Q9f
  refine w_cn (rc hi.b) ?_
  have e1:(1:Int)=1\/(1:Int)=4:= .inl rfl
  have e4:(4:Int)=1\/(4:Int)=4:= .inr rfl
  repeat'(first
    |refine w_br (λ_=> ?_) (λ_=> ?_)
    | (refine Q0d (Z8z hm h (Q0r _) e4 _) λx hx=> ?_
       obtain⟨m1,m2,m3⟩:=hx
       refine w_br (λ_=>w_lv λy hy=>⟨hy▸Z1o h _ (Q0r _),m1⟩) (λhb=> ?_)
       have m3:=m3 (by simpa using hb)
       have m4:x.1<4*x.2.2.length:=by rw[m1.len];omega
       clear hb)
    | (refine Q0d (Z8z hm h (Q0r _) e1 _) λx hx=> ?_
       obtain⟨m1,m2,m3⟩:=hx
       refine w_br (λ_=>w_lv λy hy=>⟨hy▸Z1o h _ (Q0r _),m1⟩) (λhb=> ?_)
       have m3:=m3 (by simpa using hb)
       have m4:x.1<4*x.2.2.length:=by rw[m1.len];omega
       clear hb)
    |exact w_cn (rc hi.a) (Q0d (put_w (by assumption) (by assumption) (by assumption) (h.r _)) λy hy=>⟨h.pcs (Q0r _),hy⟩)
    |(refine Q0d (Zdp (by assumption) (by assumption) e4) λy hy=> ?_)
    |(refine Q0d (Zdp (by assumption) (by assumption) e1) λy hy=> ?_)
    |exact Q0d (xv (by assumption)) λz hz=>Q0d (Z4x h _ hz) λu hu=>⟨hu.pcs (Q0r _),by assumption⟩
    |exact Q0d (Z4x h _ (by assumption)) λu hu=>⟨hu.pcs (Q0r _),by assumption⟩)
end
theorem do_w{c:Q04}(h:Q2b c){P:Nat}{m:List Int}(hm:Q1 P m):(Qn c m).w (λr=>Q2b r.1/\U r.2.1.Value/\Q1 P r.2.2):=by
 unfold Qn
 refine Q0d (Z8z hm h h.pc (.inr rfl) 1) λx0 hx=> ?_
 obtain⟨m1,m2,m3⟩:=hx
 refine w_br (λ_=>w_lv λy hy=>⟨hy▸Z1o h _ h.pc,U_0,m1⟩) (λhb=> ?_)
 refine Q0d (Zdp m1 m2 (.inr rfl)) λx2 h2=>Zct (Zim _) λx3 h3=>w_br (λ_=>w_lv λy hy=>⟨hy▸Z1o h _ h2,U_0,m1⟩) (λb3=> ?_)
 have hi:=h3 (by simpa using b3)
 refine w_lv λx5 _=> ?_
 repeat'(first
   |refine w_br (λ_=> ?_) (λ_=> ?_)
   |exact w_lv λy hy=>⟨hy▸Z1o h _ h2,U_0,m1⟩
   |exact Q0d (qS h hi) λy hy=>⟨hy.1,hy.2,m1⟩
   |exact Q0d (zaJ h hi) λy hy=>⟨hy,U_0,m1⟩
   |exact Q0d (Zkn h hi m1) λy hy=>⟨hy.1,U_0,hy.2⟩
   |exact Q0d (Z4x h _ (Q0r _)) λy hy=>⟨hy.pcs (Q0r _),U_0,m1⟩
   |refine w_cn (rc hi.c) ?_
   |refine w_cn (rc hi.b) ?_
   |exact Q0d (alu_w _ (h.r _) (h.r _)) λy hy=>Q0d (Z4x h _ hy) λz hz=>⟨hz.pcs (Q0r _),U_0,m1⟩
   |exact Q0d (alu_w _ (h.r _) (Q0r _)) λy hy=>Q0d (Z4x h _ hy) λz hz=>⟨hz.pcs (Q0r _),U_0,m1⟩)
theorem and1{q:Int}(h:U q):iand .u32 q 1=q%2:=by
 obtain⟨h1,h2⟩:=h
 unfold iand
 rw[IntKind.wrap_u32]
 have e1:(BitVec.ofInt 32 q).toNat=q.toNat:=by rw[BitVec.toNat_ofInt];omega
 have e2:(BitVec.ofInt 32 1).toNat=1:=by decide
 have:(BitVec.ofInt IntKind.u32.bits q&&&BitVec.ofInt IntKind.u32.bits 1).toNat=q.toNat%2:=by
   show(BitVec.ofInt 32 q&&&BitVec.ofInt 32 1).toNat=_
   rw[BitVec.toNat_and,e1,e2,Nat.and_one_is_mod]
 rw[this];omega
theorem Zbm(b:Bool)(n:Int):(Qi9 b n).w (λ_=>True):=by
 unfold Qi9
 exact w_br (λ_=>w_cn (decide_eq_true (by rw[IntKind.wrap_u64];omega)) trivial) (λ_=>trivial)
theorem zau(m:Q00):(Qf5 m).w (λ_=>True):=by
 unfold Qf5
 exact w_lv λ_ _=>Q0d (Zbm _ _) λ_ _=>w_lv λ_ _=>Q0d (Zbm _ _) λ_ _=>w_lv λ_ _=>Q0d (Zbm _ _) λ_ _=>w_lv λ_ _=>Q0d (Zbm _ _) λ_ _=>w_lv λ_ _=>Q0d (Zbm _ _) λ_ _=>trivial
theorem Zdg(m:Q00):(Q8h m).w U:=by
 unfold Q8h
 exact Q0d (zau m) λ_ _=>Qit _ _
theorem zv(m:Q00):(Qdj m).w (λ_=>True):=by
 unfold Qdj
 exact w_br (λ_=>Q0d (Zdg m) λ_ _=>trivial) (λ_=>trivial)
theorem Zg8(m:Q00):(Q9b m).w (λ_=>True):=by
 unfold Q9b
 exact w_lv λ_ _=>w_br (λ_=>trivial) (λ_=>w_br (λ_=>trivial) (λ_=>Q0d (zv m) λ_ _=>w_br (λ_=>trivial) (λ_=>trivial)))
theorem Qm0{m:Q00}(h:Q2b m.B2):(Q4h m).w Q2b:=by
 unfold Q4h
 refine Q0d (Zdg m) λx0 hx=>w_br (λ_=>h) (λ_=>w_br (λ_=>h) (λhb=> ?_))
 have hb:x0≠0:=by simpa using hb
 have sh: ∀z:Int,0<=z->z<=31->ishr .u32 x0 (IntKind.wrap .u64 z)=x0/2^z.toNat:=λz h1 h2=>by
   unfold ishr
   have e:min (IntKind.wrap .u64 z).toNat IntKind.u32.bits=z.toNat:=by
     show min (IntKind.wrap .u64 z).toNat 32=z.toNat
     rw[IntKind.wrap_u64];omega
   rw[e,Int.fdiv_eq_ediv_of_nonneg _ (Int.le_of_lt (Int.pow_pos (by decide)))]
 refine w_lp (inv:=λz=>0<=z/\z<=31/\x0/2^z.toNat≠0) (μ:=Qd6 m) ⟨by omega,by omega,by simpa using hb⟩ (Nat.lt_succ_self _) (λz hz=> ?_)
 obtain⟨z1,z2,z3⟩:=hz
 refine w_cn (decide_eq_true (by rw[IntKind.wrap_u64];omega)) (w_br (λe=>w_nx ?_) (λ_=>w_lv λy hy=>hy▸Z1o h _ U_0))
 have e:=eq_of_beq e
 have hq:=Qsf hx (IntKind.wrap .u64 z)
 rw[and1 hq,sh z z1 z2]at e
 rw[sh z z1 z2]at hq
 have hlt:x0/2^z.toNat/2≠0:=by omega
 have z4:z<=30:=by
   rcases Int.lt_or_le z 31 with h|h
   . omega
   . have:z=31:=by omega
     subst this
     have:=hx.2
     have:=hx.1
     simp at z3 e hlt
     omega
 show(0<=IntKind.i64.wrap (z+1)/\IntKind.i64.wrap (z+1)<=31/\x0/2^(IntKind.i64.wrap (z+1)).toNat≠0)/\(32-IntKind.i64.wrap (z+1)).toNat<(32-z).toNat
 have ew:IntKind.i64.wrap (z+1)=z+1:=by rw[IntKind.wrap_i64];omega
 rw[ew]
 refine⟨⟨by omega,by omega,?_⟩,by omega⟩
 have et:(z+1).toNat=z.toNat+1:=by omega
 rw[et,Int.pow_succ,<-Int.ediv_ediv_of_nonneg (Int.le_of_lt (Int.pow_pos (by decide)))]
 exact hlt
theorem Z85{P:Nat}{m:Q00}(h:Q2b m.B2)(hm:Q1 P m.Mem):(Qeo m).w (λ_=>True):=by
 unfold Qeo
 refine Q0d (Qm0 h) λx0 hx=>w_br (λ_=>trivial) (λ_=>Q0d (Zdp hm hx.pc (.inr rfl)) λx1 _=>w_lv λx2 _=> ?_)
 exact w_br (λ_=>w_br (λ_=>w_br (λ_=>trivial) (λ_=>trivial)) (λ_=>trivial)) (λ_=>trivial)
theorem Qxb{P:Nat}{m:Q00}(h:Q2b m.B2)(hm:Q1 P m.Mem):(Q7 m).w (λ_=>True):=by
 unfold Q7
 exact Q0d (Zg8 m) λ_ _=>w_br (λ_=>trivial) (λ_=>Q0d (Z85 h hm) λ_ _=>trivial)
theorem Qhg(l:List Int):(bytesOf l).length=l.length:=by simp [bytesOf]
theorem Qoz(l:List UInt8):(Q9j l).length=l.length:=by simp [Q9j]
theorem low_w(x:Int):(Qgq x 4).w (λr=>r.length=4):=by
 unfold Qgq
 refine w_lp (inv:=λz=>0<=z.1/\z.1<=4/\(z.2.length:Int)=z.1) (μ:=Qea x 4) ⟨by omega,by omega,rfl⟩ (Nat.lt_succ_self _) (λz hz=> ?_)
 obtain⟨z1,z2,z3⟩:=hz
 refine w_br (λh=>w_cn (decide_eq_true (by rw[IntKind.wrap_u64];omega)) (w_cn (decide_eq_true (by omega)) (w_nx ?_))) (λh=> ?_)
 . have h:=of_decide_eq_true h
   show(0<=IntKind.i64.wrap (z.1+1)/\IntKind.i64.wrap (z.1+1)<=4/\((z.2++[_]).length:Int)=IntKind.i64.wrap (z.1+1))/\(4-IntKind.i64.wrap (z.1+1)).toNat<(4-z.1).toNat
   have ew:IntKind.i64.wrap (z.1+1)=z.1+1:=by rw[IntKind.wrap_i64];omega
   rw[ew]
   refine⟨⟨by omega,by omega,by simp;omega⟩,by omega⟩
 . have h:=of_decide_eq_false h
   show(bytesOf z.2).length=4
   rw[Qhg];omega
theorem qX{P:Nat}{m:List Int}(hm:Q1 P m)(frame:Int):(Q99 m frame).w (λr=>0<=frame->frame<P->r.1.length=128):=by
 have hp:=Qee hm
 have hl:=hm.len
 have h2:=hm.p2
 unfold Q99
 refine w_br (λh=>λh0 _=>by have:=of_decide_eq_true h;omega) (λh=>w_lv λx0 hx=>w_br (λh1=>λ_ h2=>by have:=of_decide_eq_true h1;rw[hx,hp]at this;omega) (λh1=> ?_))
 have h:=of_decide_eq_false h
 have h1:=of_decide_eq_false h1
 rw[hx,hp]at h1
 refine w_lp (inv:=λz=>0<=z.1/\z.1<=32/\(z.2.length:Int)=4*z.1) (μ:=Qi1 m frame) ⟨by omega,by omega,rfl⟩ (Nat.lt_succ_self _) (λz hz=> ?_)
 obtain⟨z1,z2,z3⟩:=hz
 refine w_br (λhb=> ?_) (λhb=> ?_)
 . have hb:=of_decide_eq_true hb
   have e:IntKind.wrap IntKind.i64 (IntKind.wrap IntKind.i64 (frame*32)+z.1)=frame*32+z.1:=by rw[IntKind.wrap_i64,IntKind.wrap_i64];omega
   refine w_cn (by rw[e];simp [Nat.blt];omega) (w_an (show(4:Int)<=1000000000000 by decide) (Zct (low_w _) λx1 h4=>w_cn (decide_eq_true (by rw[Qoz,h4];omega)) (w_nx ?_)))
   show(0<=IntKind.i64.wrap (z.1+1)/\IntKind.i64.wrap (z.1+1)<=32/\((z.2++Q9j x1).length:Int)=4*IntKind.i64.wrap (z.1+1))/\(32-IntKind.i64.wrap (z.1+1)).toNat<(32-z.1).toNat
   have ew:IntKind.i64.wrap (z.1+1)=z.1+1:=by rw[IntKind.wrap_i64];omega
   rw[ew,List.length_append,Qoz,h4]
   exact⟨⟨by omega,by omega,by omega⟩,by omega⟩
 . have hb:=of_decide_eq_false hb
   intro _ _
   show(bytesOf z.2).length=128
   rw[Qhg];omega
theorem Zcp{P:Nat}{m:List Int}(hm:Q1 P m){d:Q0e}(hd:Q83 d)(port:Int){v:Int}(hv:U v)(at0:Int):(Q8c d m port v at0).w (λr=>Q83 r.1/\r.2.length<=1):=by
 have k: ∀st,Q83 {Blocks:=d.Blocks,B9:=d.B9,B4:=d.B4,C1:=st,D8:=d.D8,B6:=d.B6,B3:=d.B3,C3:=d.C3}:=λst=>⟨hd.block,hd.frame,hd.opBlock,hd.opFrame⟩
 have k2: ∀c o,Q83 {Blocks:=d.Blocks,B9:=d.B9,B4:=d.B4,C1:=1,D8:=c,B6:=d.B9,B3:=d.B4,C3:=o}:=λc o=>⟨hd.block,hd.frame,hd.block,hd.frame⟩
 have k3:Q83 {Blocks:=d.Blocks,B9:=v,B4:=d.B4,C1:=d.C1,D8:=d.D8,B6:=d.B6,B3:=d.B3,C3:=d.C3}:=⟨hv,hd.frame,hd.opBlock,hd.opFrame⟩
 have k4:Q83 {Blocks:=d.Blocks,B9:=d.B9,B4:=v,C1:=d.C1,D8:=d.D8,B6:=d.B6,B3:=d.B3,C3:=d.C3}:=⟨hd.block,hv,hd.opBlock,hd.opFrame⟩
 unfold Q8c
 repeat'(first
   |refine w_br (λ_=> ?_) (λ_=> ?_)
   |exact Q0d (qX hm _) λ_ _=>w_lv λ_ _=>⟨k2 _ _,Nat.le_refl _⟩
   |refine w_lv (λ_ _=> ?_)
   |refine w_lf ?_)
 all_goals(first
   |exact⟨hd,Nat.zero_le _⟩
   |exact⟨k _,Nat.zero_le _⟩
   |exact⟨k2 _ _,Nat.le_refl _⟩
   |exact⟨k3,Nat.zero_le _⟩
   |exact⟨k4,Nat.zero_le _⟩)
theorem Zj4{P:Nat}{m:List Int}(hm:Q1 P m){n:Q0q}(hn:Qii n)(port:Int){v:Int}(hv:U v)(at0:Int):(Q9w n m port v at0).w (λr=>Qii r.1/\r.2.length<=1):=by
 have k1:Qii {B4:=v,F0:=n.F0,C7:=n.C7,C2:=n.C2,B8:=n.B8,F3:=n.F3}:=⟨hv,hn.len,hn.buffer,hn.got⟩
 have k2:Qii {B4:=n.B4,F0:=v,C7:=n.C7,C2:=n.C2,B8:=n.B8,F3:=n.F3}:=⟨hn.frame,hv,hn.buffer,hn.got⟩
 have k3:Qii {B4:=n.B4,F0:=n.F0,C7:=n.C7,C2:=n.C2,B8:=false,F3:=0}:=⟨hn.frame,hn.len,hn.buffer,U_0⟩
 have k4: ∀p r,Qii {B4:=n.B4,F0:=n.F0,C7:=p,C2:=n.B4,B8:=r,F3:=n.F3}:=λp r=>⟨hn.frame,hn.len,hn.frame,hn.got⟩
 have send: ∀K:List UInt8×Bool->Tree (Q0q×List Q02),Q26 m n.B4=true->(∀x:List UInt8×Bool,x.1.length=128->(K x).w (λr=>Qii r.1/\r.2.length<=1))->(Tree.an (Qgk m (IntKind.wrap .i64 n.B4)) (.lv (Qi0 m (IntKind.wrap .i64 n.B4)) K)).w (λr=>Qii r.1/\r.2.length<=1):=λK hp hK=>by
   rw[Qld hm hn.frame]at hp
   have hp:=of_decide_eq_true hp
   obtain⟨f1,f2⟩:=hn.frame
   have ew:IntKind.i64.wrap n.B4=n.B4:=by rw[IntKind.wrap_i64];omega
   exact Q0d (qX hm _) λx hx=>hK x (hx (by rw[ew];exact f1) (by rw[ew];exact hp))
 unfold Q9w
 repeat'(first
   |refine w_br (λ_=> ?_) (λ_=> ?_)
   |refine send _ (by simp_all) (λx hx=>w_cn (by simp_all;exact hn.len.1) ?_)
   |refine w_lv (λ_ _=> ?_)
   |refine w_lf ?_)
 all_goals(first
   |exact⟨hn,Nat.zero_le _⟩
   |exact⟨hn,Nat.le_refl _⟩
   |exact⟨k1,Nat.zero_le _⟩
   |exact⟨k2,Nat.zero_le _⟩
   |exact⟨k3,Nat.zero_le _⟩
   |exact⟨k4 _ _,Nat.zero_le _⟩)
def okB(b:Q07):Prop:=U b.C9/\U b.C5
theorem xX{P:Nat}{m:List Int}(hm:Q1 P m){b:Q07}(hb:okB b)(port:Int){v:Int}(hv:U v):(Q4u b m port v).w (λr=>okB r.1/\Q1 P r.2):=by
 have hv0:decide (0<=v)=true:=decide_eq_true hv.1
 have h2:=hm.p2
 have rest:(Tree.br (port==11) (.br (decide (v<32)) (.cn (decide (0<=v)) (.lf (({C9:=b.C9,C5:=Qg7 .u32 b.C5 (ishl .u32 1 v)}:Q07),m))) (.lf (b,m))) (.lf (b,m))).w (λr=>okB r.1/\Q1 P r.2):=
   w_br (λ_=>w_br (λ_=>w_cn hv0 ⟨⟨hb.1,Q0r _⟩,hm⟩) (λ_=>⟨hb,hm⟩)) (λ_=>⟨hb,hm⟩)
 unfold Q4u
 refine w_br (λ_=>w_lv λx0 hx=>w_br (λhp=>w_cn hv0 (w_br (λ_=>w_cn hv0 ?_) (λ_=>rest))) (λ_=>rest)) (λ_=>rest)
 have hp:Q26 m v=true:=hx.symm.trans hp
 rw[Qld hm hv]at hp
 have hp:=of_decide_eq_true hp
 obtain⟨v1,v2⟩:=hv
 refine w_lp (inv:=λz=>0<=z.1/\z.1<=32/\Q1 P z.2) (μ:=Qhx b m port v) ⟨by omega,by omega,hm⟩ (Nat.lt_succ_self _) (λz hz=> ?_)
 obtain⟨z1,z2,z3⟩:=hz
 have hl:=z3.len
 refine w_br (λh=> ?_) (λ_=>⟨⟨hb.1,Q0r _⟩,z3⟩)
 have h:=of_decide_eq_true h
 have e:IntKind.wrap IntKind.i64 (IntKind.wrap IntKind.i64 (IntKind.wrap IntKind.i64 v*32)+z.1)=v*32+z.1:=by rw[IntKind.wrap_i64,IntKind.wrap_i64,IntKind.wrap_i64];omega
 refine w_cn (by rw[e];simp [Nat.blt];omega) (w_nx ?_)
 show(0<=IntKind.i64.wrap (z.1+1)/\IntKind.i64.wrap (z.1+1)<=32/\Q1 P (List.set _ _ _))/\(32-IntKind.i64.wrap (z.1+1)).toNat<(32-z.1).toNat
 have ew:IntKind.i64.wrap (z.1+1)=z.1+1:=by rw[IntKind.wrap_i64];omega
 rw[ew]
 exact⟨⟨by omega,by omega,⟨by simp [hl],z3.p1,z3.p2,Qyv z3.u U_0 _⟩⟩,by omega⟩
structure okM(P:Nat)(m:Q00):Prop where
 cpu:Q2b m.B2
 mem:Q1 P m.Mem
 disk:Q83 m.B0
 nic:Qii m.C0
 target:okB m.A2
 cnt:0<=m.A1
theorem Z26(c:Q0b)(port:Int):U (Q56 c port).2:=by
 refine Tree.post (Q3f c port) (W:=λr=>U r.2) ?_
 have u1:U 4294967295:=⟨by omega,by omega⟩
 unfold Q3f
 refine w_br (λ_=>w_br (λ_=>u1) (λh=>w_br (λ_=>w_cn ?_ (w_cn ?_ (Q0r _))) (λ_=>w_br (λ_=>Q0r _) (λ_=>U_0)))) (λh1=>w_br (λh=>(by rw[h1]at h;cases h)) (λ_=>w_br (λ_=>Q0r _) (λ_=>U_0)))
 . have h: ¬(c.D3.length:Int)=0:=by simpa using h
   exact decide_eq_true ⟨by omega,by omega,by omega⟩
 . have h: ¬(c.D3.length:Int)=0:=by simpa using h
   simp [Nat.blt];omega
theorem yv{n:Q0q}(h:Qii n)(port:Int):U (Qgr n port):=by
 refine Tree.post (Qf9 n port) (W:=U) ?_
 have u1:U 1:=⟨by omega,by omega⟩
 unfold Qf9
 exact w_br (λ_=>h.frame) (λ_=>w_br (λ_=>h.got) (λ_=>w_br (λ_=>w_br (λ_=>w_br (λ_=>Q0r _) (λ_=>u1)) (λ_=>w_br (λ_=>Q0r _) (λ_=>U_0))) (λ_=>U_0)))
theorem Zia{d:Q0e}(h:Q83 d)(port:Int):U (Qic d port):=by
 refine Tree.post (Qg6 d port) (W:=U) ?_
 unfold Qg6
 exact w_br (λ_=>h.block) (λ_=>w_br (λ_=>h.frame) (λ_=>w_br (λ_=>Q0r _) (λ_=>U_0)))
theorem Ze3(t:Q0g):U (Qei t):=by
 refine Tree.post (Qeb t) (W:=U) ?_
 unfold Qeb
 exact w_br (λ_=>⟨by omega,by omega⟩) (λ_=>U_0)
theorem Z0y{b:Q07}(h:U b.C9)(port:Int):U (Q55 b port):=by
 refine Tree.post (Q5x b port) (W:=U) ?_
 unfold Q5x
 exact w_br (λ_=>h) (λ_=>w_br (λ_=>w_lv λ_ _=>Q0r _) (λ_=>U_0))
structure okR(P:Nat)(r:Q01):Prop where
 m:okM P r.A0
 clock:U r.B1
structure okL(P:Nat)(r x:Q01):Prop where
 ok:okR P x
 log:x.C6=r.C6
 queue:x.A9=r.A9
theorem w0(x:Int):0<=IntKind.u64.wrap x:=by rw[IntKind.wrap_u64];omega
section
variable {P:Nat} {r:Q01} (h:okR P r)
include h
theorem in_w(port:Int){clock:Int}(hc:U clock):(Qie r port clock).w (λx=>U x.1/\okL P r x.2):=by
 have k:okL P r r:=⟨h,rfl,rfl⟩
 obtain⟨⟨h1,h2,h3,h4,h5,h7⟩,h6⟩:=h
 unfold Qie
 exact w_br (λ_=>w_lv λx hx=>⟨hx▸Z26 _ _,⟨⟨⟨h1,h2,h3,h4,h5,h7⟩,h6⟩,rfl,rfl⟩⟩) (λ_=>w_br (λ_=>⟨hc,k⟩) (λ_=>w_br (λ_=>w_lv λx hx=>⟨hx▸Ze3 _,k⟩) (λ_=>w_br (λ_=>w_lv λx hx=>⟨hx▸Zia h3 _,k⟩) (λ_=>w_br (λ_=>w_lv λx hx=>⟨hx▸yv h4 _,k⟩) (λ_=>w_lv λx hx=>⟨hx▸Z0y h5.1 _,k⟩)))))
theorem out_w(port:Int){v:Int}(hv:U v):(Qbq r port v).w (λx=>x.1.length<=1/\okL P r x.2):=by
 have k:okL P r r:=⟨h,rfl,rfl⟩
 obtain⟨⟨h1,h2,h3,h4,h5,h7⟩,h6⟩:=h
 unfold Qbq
 exact w_br (λ_=>⟨Nat.le_refl _,k⟩) (λ_=>w_br (λ_=>⟨Nat.zero_le _,k⟩) (λ_=>w_br (λ_=>w_lv λ_ _=>⟨Nat.zero_le _,⟨⟨⟨h1,h2,h3,h4,h5,h7⟩,h6⟩,rfl,rfl⟩⟩) (λ_=>w_br (λ_=>Q0d (Zcp h2 h3 _ hv _) λx hx=>⟨hx.2,⟨⟨⟨h1,h2,hx.1,h4,h5,h7⟩,h6⟩,rfl,rfl⟩⟩) (λ_=>w_br (λ_=>Q0d (Zj4 h2 h4 _ hv _) λx hx=>⟨hx.2,⟨⟨⟨h1,h2,h3,hx.1,h5,h7⟩,h6⟩,rfl,rfl⟩⟩) (λ_=>Q0d (xX h2 h5 _ hv) λx hx=>⟨Nat.zero_le _,⟨⟨⟨h1,hx.2,h3,h4,hx.1,h7⟩,h6⟩,rfl,rfl⟩⟩)))))
theorem Qrm{clock:Int}(hc:U clock):(Q60 r clock).w (λx=>x.1.length<=1/\okL P r x.2):=by
 obtain⟨⟨h1,h2,h3,h4,h5,h7⟩,h6⟩:=h
 unfold Q60
 refine Q0d (Qm0 h1) λx0 c0=>Q0d (do_w c0 h2) λx1 hx=> ?_
 obtain⟨c1,v1,m1⟩:=hx
 refine w_br (λ_=>Zct (in_w (r:=⟨⟨_,_,_,_,_,_,_,_,_,_⟩,_,_,_⟩) ⟨⟨c1,m1,h3,h4,h5,h7⟩,h6⟩ _ hc) λx2 hx=> ?_) (λ_=>w_br (λ_=>Q0d (out_w (r:=⟨⟨_,_,_,_,_,_,_,_,_,_⟩,_,_,_⟩) ⟨⟨c1,m1,h3,h4,h5,h7⟩,h6⟩ _ v1) λx4 hx=> ?_) (λ_=> ?_))
 . obtain⟨u,⟨⟨⟨k1,k2,k3,k4,k5,k7⟩,k6⟩,e1,e2⟩⟩:=hx
   exact Q0d (Z4x k1 _ u) λx3 h3=>⟨Nat.zero_le _,⟨⟨⟨h3,k2,k3,k4,k5,w0 _⟩,k6⟩,e1,e2⟩⟩
 . obtain⟨u,⟨⟨⟨k1,k2,k3,k4,k5,k7⟩,k6⟩,e1,e2⟩⟩:=hx
   exact⟨u,⟨⟨⟨k1,k2,k3,k4,k5,w0 _⟩,k6⟩,e1,e2⟩⟩
 . repeat'(first
     |exact⟨Nat.zero_le _,⟨⟨⟨c1,m1,h3,h4,h5,w0 _⟩,h6⟩,rfl,rfl⟩⟩
     |refine w_br (λ_=> ?_) (λ_=> ?_))
end
theorem zX(c:Q0b)(b:Int):(Qb6 c b).w (λ_=>True):=by
 unfold Qb6
 refine w_br (λ_=>trivial) (λh=>w_cn (decide_eq_true ?_) trivial)
 have h:=of_decide_eq_false h
 simp [maxLen];omega
theorem Zj7{P:Nat}{m:List Int}(hm:Q1 P m){n:Q0q}(hn:Qii n)(frame:List UInt8):(Q69 n m frame).w (λr=>Qii r.1/\Q1 P r.2.2):=by
 unfold Q69
 refine w_br (λ_=>⟨hn,hm⟩) (λ_=>w_br (λ_=>⟨hn,hm⟩) (λ_=>w_br (λ_=>⟨hn,hm⟩) (λ_=>w_lv λx0 hx=>w_br (λ_=>⟨hn,hm⟩) (λhb=> ?_))))
 have hp:Q26 m n.C2=true:=hx.symm.trans (by simpa using hb)
 rw[Qld hm hn.buffer]at hp
 have hp:=of_decide_eq_true hp
 obtain⟨b1,b2⟩:=hn.buffer
 have ew:IntKind.i64.wrap n.C2=n.C2:=by rw[IntKind.wrap_i64];omega
 exact Q0d (yW hm (frame:=IntKind.i64.wrap n.C2) (by rw[ew];exact b1) (by rw[ew];exact hp) frame) λx hx=>⟨⟨hn.frame,hn.len,U_0,Q0r _⟩,hx⟩
section
variable {P:Nat} {r:Q01} (h:okR P r)
include h
theorem xau{e:Q0f}(he:U e.N):(Q8g r e).w (λx=>okL P r x.2):=by
 have k:okL P r r:=⟨h,rfl,rfl⟩
 obtain⟨⟨h1,h2,h3,h4,h5,h7⟩,h6⟩:=h
 unfold Q8g
 repeat'(first
   |exact k
   |exact⟨⟨⟨h1,h2,h3,h4,⟨he,h5.2⟩,h7⟩,h6⟩,rfl,rfl⟩
   |exact w_lv λ_ _=>⟨⟨⟨h1,h2,h3,h4,h5,h7⟩,h6⟩,rfl,rfl⟩
   |exact Q0d (zX _ _) λ_ _=>⟨⟨⟨h1,h2,h3,h4,h5,h7⟩,h6⟩,rfl,rfl⟩
   |exact Q0d (Zij h2 h3 _) λx hx=>⟨⟨⟨h1,hx.2,hx.1,h4,h5,h7⟩,h6⟩,rfl,rfl⟩
   |exact Q0d (Zj7 h2 h4 _) λx hx=>⟨⟨⟨h1,hx.2,h3,hx.1,h5,h7⟩,h6⟩,rfl,rfl⟩
   |refine w_br (λ_=> ?_) (λ_=> ?_))
theorem vv{e:Q0f}(he:U e.N)(hl:r.C6.length<=1000000):(Qa r e).w (λx=>okR P x/\x.C6.length<=r.C6.length+1/\x.A9=r.A9):=by
 have acc:(Q6y r e).w (λx=>okL P r x.2):=by
   unfold Q6y
   exact Q0d (xau h he) λx hx=>hx
 unfold Qa
 refine Q0d acc λx hx=> ?_
 obtain⟨⟨k1,k2⟩,e1,e2⟩:=hx
 refine w_br (λ_=>w_cn (decide_eq_true (by rw[e1];omega)) ⟨⟨k1,k2⟩,by simp [e1],e2⟩) (λ_=>⟨⟨k1,k2⟩,by rw[e1];omega,e2⟩)
theorem own_w(hl:r.C6.length<=1000000)(hq:r.A9.length<=1000000):(Qdk r).w (λx=>okR P x/\x.C6=r.C6/\x.A9=r.A9):=by
 have ow:(Qbn r.A0).w (λm=>okM P m):=by
   obtain⟨⟨h1,h2,h3,h4,h5,h7⟩,h6⟩:=h
   unfold Qbn
   exact Q0d (zW h2) λx hx=>⟨h1,by rw[hx];exact h2,h3,h4,h5,h7⟩
 unfold Qdk
 refine Q0d ow λx hx=>w_cn (decide_eq_true (by simp;omega)) (w_cn (decide_eq_true (by simp;omega)) ⟨⟨hx,h.clock⟩,rfl,rfl⟩)
theorem xS(e:Q0f)(hl:r.C6.length<=1000000)(hq:r.A9.length<=16)(hu: ∀q∈r.A9,U q.N)(he:U e.N):(Q8a r e).w (λx=>okR P x.1/\x.1.C6=r.C6/\x.1.A9.length<=16/\ ∀q∈x.1.A9,U q.N):=by
 unfold Q8a
 refine Q0d (own_w h hl (by omega)) λx hx=> ?_
 obtain⟨k1,k2,k3⟩:=hx
 have g:okR P x/\x.C6=r.C6/\x.A9.length<=16/\ ∀q∈x.A9,U q.N:=⟨k1,k2,by rw[k3];exact hq,by rw[k3];exact hu⟩
 refine w_lv λx1 _=>w_br (λ_=>g) (λ_=>w_br (λ_=>g) (λ_=>w_br (λ_=>g) (λhb=>w_cn (decide_eq_true (by rw[k3];omega)) ?_)))
 have hb:=of_decide_eq_false hb
 refine⟨⟨k1.m,k1.clock⟩,k2,?_,?_⟩
 . show(x.A9++[e]).length<=16
   rw[List.length_append];simp at hb⊢;omega
 . intro q hq
   have hq:q∈x.A9++[e]:=hq
   rw[List.mem_append]at hq
   rcases hq with hq|hq
   . exact hu q (k3▸hq)
   . rw[List.mem_singleton.1 hq];exact he
end
theorem Zgk(n:Int):(Q9t n).w (λe=>U e.N):=by
 have u1:U 1:=⟨by omega,by omega⟩
 have ev40: ∀x y,Q4z x (IntKind.wrap .i64 (1+Int.tmod y 40)):=λx y=>by
   show IntKind.wrap .i64 (1+Int.tmod y 40)<=1000000000000
   have h1:=Int.tmod_lt_of_pos y (b:=40) (by decide)
   have h2:=Int.lt_tmod_of_pos y (b:=40) (by decide)
   rw[IntKind.wrap_i64];omega
 unfold Q9t
 refine w_lv λx0 _=> ?_
 repeat'(first
   |exact U_0
   |exact u1
   |exact Q0r _
   |exact w_an (show(128:Int)<=1000000000000 by decide) (w_lv λ_ _=>u1)
   |exact w_an (ev40 _ _) (w_lv λ_ _=>U_0)
   |refine w_br (λ_=> ?_) (λ_=> ?_))
end Go.Proofs.YtjaifpiopmhmlaaGreat

/-
  A part of the proof.
-/
import Derived.Test.YtjaifpiopmhmlaaGreatBareIgnoresYe
import Derived.Test.YtjaifpiopmhmlaaGreatBareIgnoresZa
import Derived.Test.YtjaifpiopmhmlaaGreatBareIgnoresZb
import Derived.Test.YtjaifpiopmhmlaaGreatBareIgnoresZg
set_option maxRecDepth 100000
set_option linter.all false
namespace Go.Proofs.YtjaifpiopmhmlaaGreat
open Go Go.GD
def U(x:Int):Prop:=0<=x/\x<4294967296
theorem Q0s(x:Int):U (IntKind.u32.wrap x):=by rw[IntKind.wrap_u32];unfold U;omega
theorem Zfk(x y:Int):U (iand .u32 x y):=Q0s _
theorem U_or(x y:Int):U (ior .u32 x y):=Q0s _
theorem U_0:U 0:=⟨by omega,by omega⟩
theorem Z2w{m:List Int}(h: ∀w∈m,U w){v:Int}(hv:U v)(i:Nat): ∀w∈m.set i v,U w:=by
 intro w hw
 rcases List.mem_or_eq_of_mem_set hw with h1|h1
 . exact h w h1
 . rw[h1];exact hv
structure Q1(P:Nat)(m:List Int):Prop where
 len:m.length=32*P
 p1:0<=P
 p2:P<=32
 u: ∀w∈m,U w
structure Q8i(d:Q0f):Prop where
 block:U d.B9
 frame:U d.B4
 opBlock:U d.B7
 opFrame:U d.B3
structure Qig(n:Q0q):Prop where
 frame:U n.B4
 len:U n.F0
 buffer:U n.C1
 got:U n.F2
theorem Qk6{l:List Int}(h: ∀w∈l,U w)(i:Nat):U (l.getD i 0):=by
 by_cases hi:i<l.length
 . have:l.getD i 0=l[i]:=by simp [List.getD,hi]
   rw[this];exact h _ (List.getElem_mem hi)
 . have:l.getD i 0=0:=by simp [List.getD,List.getElem?_eq_none (by omega:l.length<=i)]
   rw[this];exact U_0
structure Q2b(c:Q04):Prop where
 x: ∀w∈A16.l c.X,U w
 pc:U c.Pc
 csr: ∀w∈A8.l c.B6,U w
theorem Ze8{X:A16 Int}(h: ∀w∈A16.l X,U w){v:Int}(hv:U v)(i:Nat): ∀w∈A16.l (A16.of 0 (List.set (A16.l X) i v)),U w:=by
 have hs:=Z2w h hv i
 intro w hw
 simp only[A16.l,A16.of,List.mem_cons,List.not_mem_nil,or_false]at hw
 repeat(first|(rcases hw with rfl|hw; · exact Qk6 hs _)|(subst hw;exact Qk6 hs _))
theorem Zaw{X:A8 Int}(h: ∀w∈A8.l X,U w){v:Int}(hv:U v)(i:Nat): ∀w∈A8.l (A8.of 0 (List.set (A8.l X) i v)),U w:=by
 have hs:=Z2w h hv i
 intro w hw
 simp only[A8.l,A8.of,List.mem_cons,List.not_mem_nil,or_false]at hw
 repeat(first|(rcases hw with rfl|hw; · exact Qk6 hs _)|(subst hw;exact Qk6 hs _))
section
variable {c:Q04} (h:Q2b c)
include h
theorem Q2b.a(i:Nat):U ((A8.l c.B6).getD i 0):=Qk6 h.csr i
theorem Q2b.r(i:Nat):U ((A16.l c.X).getD i 0):=Qk6 h.x i
theorem Q2b.a0:U c.B6.a0:=h.a 0
theorem Q2b.a1:U c.B6.a1:=h.a 1
theorem Q2b.a2:U c.B6.a2:=h.a 2
theorem Q2b.a3:U c.B6.a3:=h.a 3
theorem Q2b.a4:U c.B6.a4:=h.a 4
theorem Q2b.a5:U c.B6.a5:=h.a 5
theorem Q2b.a6:U c.B6.a6:=h.a 6
theorem Q2b.a7:U c.B6.a7:=h.a 7
theorem Q2b.pcs{p:Int}(hp:U p):Q2b {X:=c.X,Pc:=p,B6:=c.B6}:=⟨h.x,hp,h.csr⟩
end
section
variable {α β:Type} {W:β->Prop} {t:Tree α} {Q:α->Prop} {k:α->Tree β}
theorem Q0e(hq:t.w Q)(g: ∀x,Q x->(k x).w W):(Tree.an t.p (Tree.lv t.m k)).w W:=⟨(Tree.pp hq).1,λy hy=>g y (by rw[hy];exact(Tree.pp hq).2)⟩
theorem Z9p(hq:t.w Q)(g: ∀x,Q x->(k x).w W):(Tree.lv t.m k).w W:=λy hy=>g y (by rw[hy];exact t.post hq)
end
theorem rc{r:Int}(h:0<=r/\r<16):(Nat.blt 0 1&&decide (0<=r/\r<((16:Nat):Int)))=true:=by simp [Nat.blt];omega
theorem Qup{a:Int}(h:U a)(b:Int):U (ishr .u32 a b):=by
 unfold ishr U
 obtain⟨h1,h2⟩:=h
 have hp:(0:Int)<2^(min b.toNat IntKind.u32.bits):=Int.pow_pos (by decide)
 have:=Int.fdiv_nonneg h1 (Int.le_of_lt hp)
 refine⟨this,?_⟩
 rw[Int.fdiv_eq_ediv_of_nonneg _ (Int.le_of_lt hp)]
 have h3:=Int.ediv_le_self (2^(min b.toNat IntKind.u32.bits)) h1
 omega
structure Qem(i:Q0i):Prop where
 a:0<=i.A/\i.A<16
 b:0<=i.B/\i.B<16
 c:0<=i.C/\i.C<16
 csr:i.Op=58->0<=i.Imm/\i.Imm<8
theorem Qyn{P:Nat}{m:List Int}(h:Q1 P m):Q0v m=P:=by
 obtain⟨h1,h2,h3,_⟩:=h
 simp only[Q0v,Q85,Tree.m]
 have e:(m.length:Int)=32*P:=by omega
 rw[e]
 have e1:(Int.tmod (32*(P:Int)) 32 !=0)=false:=by simp [Int.mul_tmod_right]
 have e2:decide ((32*(P:Int))>1024)=false:=decide_eq_false (by omega)
 rw[e1,e2]
 simp only[cond_false]
 rw[Int.mul_tdiv_cancel_left _ (by decide),IntKind.wrap_i64];omega
theorem qY(n:Int):(Qb0 n).w (λ_=>True):=by
 unfold Qb0
 exact w_br (λ_=>trivial) (λ_=>w_cn (decide_eq_true (by rw[IntKind.wrap_u64];omega)) trivial)
theorem Qta(w low n:Int):(Q8o w low n).w U:=by
 unfold Q8o
 exact w_br (λ_=>U_0) (λ_=>w_br (λ_=>U_0) (λ_=>w_br (λ_=>U_0) (λ_=>w_cn (decide_eq_true (by rw[IntKind.wrap_u64];omega)) (Q0e (qY n) λ_ _=>Zfk _ _))))
theorem Zkf{w:Int}(hw:U w)(low n v:Int):(Q9f w low n v).w U:=by
 have h0:decide (0<=IntKind.wrap IntKind.u64 low)=true:=decide_eq_true (by rw[IntKind.wrap_u64];omega)
 unfold Q9f
 exact w_br (λ_=>hw) (λ_=>w_br (λ_=>hw) (λ_=>w_br (λ_=>hw) (λ_=>Q0e (qY n) λ_ _=>w_cn h0 (w_cn h0 (U_or _ _)))))
theorem Qvb{x:Int}(hx:U x)(n:Int):(Q6r x n).w U:=by
 have h0: ∀y,decide (0<=IntKind.wrap IntKind.u64 y)=true:=λy=>decide_eq_true (by rw[IntKind.wrap_u64];omega)
 unfold Q6r
 exact w_br (λ_=>U_0) (λ_=>w_br (λ_=>hx) (λ_=>w_cn (h0 _) (w_cn (h0 _) (Q0s _))))
section
variable {P:Nat} {m:List Int} (h:Q1 P m)
include h
theorem Q8e:Q06 m:=by
 have:=h.len
 have:=h.p2
 show m.length<=35184372088832
 omega
theorem Zc5{a:Int}(ha:U a){size:Int}(hs:size=1\/size=4):(Q32 m a size).w (λb=>b=true->a+size<=128*P):=by
 have hp:=Qyn h
 have h2:=h.p2
 obtain⟨a1,a2⟩:=ha
 have e:decide (IntKind.wrap IntKind.u32 size≠0)=true:=by rcases hs with rfl|rfl<;>decide
 have l: ∀x,x=Q0v m->decide (IntKind.wrap IntKind.u64 (IntKind.wrap IntKind.u64 a+IntKind.wrap IntKind.u64 size)<=IntKind.wrap IntKind.u64 (IntKind.wrap IntKind.u64 x*128))=true->a+size<=128*P:=λx hx hd=>by
   rw[hx,hp]at hd
   have:=of_decide_eq_true hd
   simp only[IntKind.wrap_u64]at this
   omega
 unfold Q32
 refine w_br (λ_=>w_br (λ_=>λh=>by cases h) (λ_=> ?_)) (λ_=> ?_)<;>
 exact w_cn e (w_br (λ_=>λh=>by cases h) (λ_=>w_lv λx hx=>l x hx))
theorem idxP{a:Int}(ha:U a)(hl:a<128*P):(Nat.beq 1 1&&Nat.blt 0 1&&decide (0<=IntKind.wrap IntKind.u32 (Int.tdiv a 4)/\IntKind.wrap IntKind.u32 (Int.tdiv a 4)<(m.length:Int)))=true:=by
 obtain⟨a1,a2⟩:=ha
 have e:IntKind.wrap IntKind.u32 (Int.tdiv a 4)=a/4:=by rw[IntKind.wrap_u32,Int.tdiv_eq_ediv_of_nonneg a1];omega
 have:=h.len
 rw[e];simp [Nat.blt];omega
theorem Qqu{a:Int}(ha:U a){size:Int}(hs:size=1\/size=4):(Q6 m a size).w (λr=>U r.1/\(r.2=true->a<128*P)):=by
 unfold Q6
 refine Q0e (Zc5 h ha hs) λx hx=>w_br (λ_=>⟨U_0,λh=>by cases h⟩) (λhb=> ?_)
 have hl:=hx (by simpa using hb)
 have hl:a<128*P:=by omega
 exact w_cn (idxP h ha hl) (w_br (λ_=>Q0e (Qta _ _ _) λy hy=>⟨hy,λ_=>hl⟩) (λ_=>⟨Qk6 h.u _,λ_=>hl⟩))
theorem Qy7{a:Int}(ha:U a){size:Int}(hs:size=1\/size=4){v:Int}(hv:U v):(Q89 m a size v).w (λr=>Q1 P r.1):=by
 have st: ∀i v,U v->Q1 P (m.set i v):=λi v hv=>⟨by simp [h.len],h.p1,h.p2,Z2w h.u hv i⟩
 have hcl:Q03 m=m:=rfl
 unfold Q89
 refine w_an (Q8e h) (w_lv λx0 hx0=> ?_)
 rw[hcl]at hx0;subst hx0
 refine Q0e (Zc5 h ha hs) λx hx=>w_br (λ_=>h) (λhb=> ?_)
 have hl:=hx (by simpa using hb)
 have hl:a<128*P:=by omega
 exact w_br (λ_=>w_cn (idxP h ha hl) (Q0e (Zkf (Qk6 h.u _) _ _ _) λy hy=>w_cn (idxP h ha hl) (st _ _ hy))) (λ_=>w_cn (idxP h ha hl) (st _ _ hv))
end
theorem Zfn{r:Int}{used:Bool}(h:Q8t r used=true):0<=r/\r<16:=by
 simp only[Q8t,Qdy,Tree.m]at h
 cases used
 . have h:(r==0)=true:=h
   have:=eq_of_beq h;omega
 . cases h1:decide (r>=0)<;>rw[h1]at h
   . cases h
   . have h1:=of_decide_eq_true h1
     have h:=of_decide_eq_true h
     omega
theorem xv{i:Q0i}(h:Qe4 i=true):Qem i:=by
 have no:false=true->Qem i:=λh=>by cases h
 refine(Tree.post (Qh0 i) (W:=λb=>b=true->Qem i) ?_) h
 unfold Qh0
 refine w_lv λx0 h0=>w_br (λ_=>w_lv λx1 h1=>w_br (λb1=>w_lv λx2 h2=>w_br (λb2=>w_lv λx3 h3=>w_br (λb3=>w_br (λb4=>λb5=> ?_) (λ_=>no)) (λ_=>no)) (λ_=>no)) (λ_=>no)) (λ_=>no)
 have b4:=of_decide_eq_true b4
 have b5:=of_decide_eq_true b5
 refine⟨Zfn (h1.symm.trans b1),Zfn (h2.symm.trans b2),Zfn (h3.symm.trans b3),λe=> ?_⟩
 rw[e]at h0
 have h0:x0=({a:=true,b:=false,c:=false,low:=0,D6:=7},true):=h0
 subst h0
 simp at b4 b5;omega
theorem Qz0(w:Int):(Q74 w).w (λr=>r.2=true->Qem r.1):=by
 have no: ∀{p:Prop},false=true->p:=λh=>by cases h
 have l: ∀i,(Tree.lv (Qe4 i) λx=> .br (!x) (.lf ((⟨0,0,0,0,0⟩:Q0i),false)) (.lf (i,true))).w (λr=>r.2=true->Qem r.1):=λi=>w_lv λx hx=>w_br (λ_=>no) (λhb=>λ_=>xv (hx.symm.trans (by simpa using hb)))
 unfold Q74
 exact Q0e (Qta _ _ _) λx0 _=>Q0e (Qta _ _ _) λx1 _=>Q0e (Qta _ _ _) λx2 _=>w_lv λx3 _=>w_br (λ_=>no) (λ_=>Q0e (Qta _ _ _) λx4 h4=>w_br (λ_=>l _) (λ_=>w_br (λ_=>Q0e (Qvb h4 _) λx6 _=>l _) (λ_=>l _)))
section
variable {P:Nat} {m:List Int} (h:Q1 P m)
include h
theorem zS{f:Int}(hf:U f):Q9y m f=decide (f<P):=by
 have:=Qyn h
 obtain⟨h1,h2⟩:=hf
 have h3:=h.p2
 simp only[Q9y,Qh4,Tree.m,letv,this]
 congr 1
 rw[IntKind.wrap_u64,IntKind.wrap_u64,Int.emod_eq_of_lt h1 (by omega),Int.emod_eq_of_lt (by omega) (by omega)]
theorem xav{root va:Int}(hv:U va)(access:Int):(Q9t m root va access).w (λt=>U t.Addr/\U t.F3):=by
 have bad:U (0:Int)/\U (0:Int):=⟨U_0,U_0⟩
 have fr: ∀x,(Q7w x).w U:=λx=>by
   unfold Q7w
   exact Q0e (Qta _ _ _) λy hy=>hy
 unfold Q9t
 exact w_lv λx0 _=>w_br (λ_=>bad) (λ_=>w_br (λ_=>bad) (λ_=>w_lv λx1 _=>w_br (λ_=>bad) (λ_=>Q0e (Qqu h (Q0s _) (.inr rfl)) λx2 _=>w_br (λ_=>bad) (λ_=>w_lv λx3 _=>w_br (λ_=>bad) (λ_=>Q0e (fr _) λx4 _=>w_lv λx5 _=>w_br (λ_=>bad) (λ_=>Q0e (fr _) λx6 _=>⟨Q0s _,Q0s _⟩))))))
theorem yS{a:Int}(ha:U a)(access:Int):(Q81 m a access).w (Q1 P):=by
 have hcl:Q03 m=m:=rfl
 unfold Q81
 exact Q0e (Qqu h ha (.inr rfl)) λx0 _=>w_br (λ_=>w_an (Q8e h) (w_lv λx1 h1=>by rw[h1,hcl];exact h)) (λ_=>w_br (λ_=>Q0e (Qy7 h ha (.inr rfl) (U_or _ _)) λx hx=>hx) (λ_=>Q0e (Qy7 h ha (.inr rfl) (U_or _ _)) λx hx=>hx))
theorem Qkg{c:Q04}{va:Int}(hv:U va){size:Int}(hs:size=1\/size=4)(access:Int):(Q5y c m va size access).w (λr=>U r.1/\Q1 P r.2.1):=by
 have hcl:Q03 m=m:=rfl
 have e:decide (IntKind.wrap IntKind.u32 size≠0)=true:=by rcases hs with rfl|rfl<;>decide
 have cl: ∀(K:List Int->Int×List Int×Int),(∀x,x=m->U (K x).1/\Q1 P (K x).2.1)->(Tree.an (Q06 m) (.lv (Q03 m) λx=> .lf (K x))).w (λr=>U r.1/\Q1 P r.2.1):=λK hK=>w_an (Q8e h) (w_lv λx hx=>hK x (hx.trans hcl))
 have z: ∀(k:Nat) (x:List Int),x=m->U (0:Int)/\Q1 P x:=λ_ x hx=>⟨U_0,hx▸h⟩
 have v: ∀x,x=m->U va/\Q1 P x:=λx hx=>⟨hv,hx▸h⟩
 have main: ∀(x0:Int×Bool),(Tree.cn (decide (IntKind.wrap IntKind.u32 size≠0)) (.br (Int.tmod va (IntKind.wrap IntKind.u32 size) !=0) (.an (Q06 m) (.lv (Q03 m) λx3=> .lf ((0:Int),x3,(3:Int)))) (.lv (Q9m c) λx4=> .br (!x4) (.br (iand IntKind.u32 c.B6.a0 4 !=0) (.an (Qgp m c.B6.a6 va access) (.lv (Qi m c.B6.a6 va access) λx5=> .br (x5.F1 !=0) (.an (Q06 m) (.lv (Q03 m) λx6=> .lf (0,x6,x5.F1))) (.an (Qf1 m x5.F3 access) (.lv (Qbg m x5.F3 access) λx7=> .lf (x5.Addr,x7,0))))) (.an (Q30 m va size) (.lv (Q4i m va size) λx8=> .br (!x8.2) (.an (Q06 m) (.lv (Q03 m) λx9=> .lf (0,x9,x0.1))) (.an (Q06 m) (.lv (Q03 m) λx10=> .lf (va,x10,0)))))) (.an (Q30 m va size) (.lv (Q4i m va size) λx11=> .br (!x11.2) (.an (Q06 m) (.lv (Q03 m) λx12=> .lf (0,x12,x0.1))) (.an (Q06 m) (.lv (Q03 m) λx13=> .lf (va,x13,0)))))))).w (λr=>U r.1/\Q1 P r.2.1):=λx0=>
   w_cn e (w_br (λ_=>cl _ (z 0)) (λ_=>w_lv λx4 _=>w_br (λ_=>w_br (λ_=>Q0e (xav h hv access) λx5 hx=>w_br (λ_=>cl _ (z 0)) (λ_=>Q0e (yS h hx.2 access) λx7 h7=>⟨hx.1,h7⟩)) (λ_=>Q0e (Qqu h hv hs) λx8 _=>w_br (λ_=>cl _ (z 0)) (λ_=>cl _ v))) (λ_=>Q0e (Qqu h hv hs) λx8 _=>w_br (λ_=>cl _ (z 0)) (λ_=>cl _ v))))
 unfold Q5y
 exact w_lv λx0 _=>w_br (λ_=>cl _ (z 0)) (λ_=>w_br (λ_=>w_br (λ_=>cl _ (z 0)) (λ_=>main x0)) (λ_=>main x0))
theorem Z6o{c:Q04}(hc:Q2b c):(Qb5 c m).w (λr=>U r.1/\Q1 P r.2.1):=by
 unfold Qb5
 exact Q0e (Qkg h hc.pc (.inr rfl) 1) λx0 h0=>w_br (λ_=>⟨U_0,h0.2⟩) (λ_=>Q0e (Qqu h0.2 h0.1 (.inr rfl)) λx1 h1=>⟨h1.1,h0.2⟩)
end
theorem qaw{s a b:Int}:U (Q8j s a b):=by
 refine Tree.post (Qob s a b) (W:=U) ?_
 unfold Qob
 exact w_br (λ_=>Q0s _) (λ_=>Q0s _)
section
variable {c:Q04} (h:Q2b c)
include h
theorem Qm9(k:Int){b:Int}(hb:U b):Q2b (Q48 c k b):=by
 refine(Tree.post (Qk3 c k b) (W:=Q2b) ?_)
 unfold Qk3
 refine w_lv λ_ _=>w_lv λ_ _=>⟨h.x,h.a1,?_⟩
 intro w hw
 simp only[A8.l,List.mem_cons,List.not_mem_nil,or_false]at hw
 rcases hw with rfl|rfl|rfl|rfl|rfl|rfl|rfl|rfl
 . exact Q0s _
 . exact h.a1
 . exact h.pc
 . exact Q0s _
 . exact hb
 . exact h.a5
 . exact h.a6
 . exact h.a7
theorem zv:Q2b (Qd8 c):=by
 refine(Tree.post (Qe3 c) (W:=Q2b) ?_)
 unfold Qe3
 refine w_lv λx0 _=>w_lv λx1 h1=>⟨h.x,h.a2,?_⟩
 intro w hw
 simp only[A8.l,List.mem_cons,List.not_mem_nil,or_false]at hw
 rcases hw with rfl|rfl|rfl|rfl|rfl|rfl|rfl|rfl
 . rw[h1];exact qaw
 . exact h.a1
 . exact h.a2
 . exact h.a3
 . exact h.a4
 . exact h.a5
 . exact h.a6
 . exact h.a7
theorem Qpc{r:Int}(hr:0<=r/\r<16){v:Int}(hv:U v):(Qc0 c r v).w Q2b:=by
 unfold Qc0
 exact w_br (λ_=>w_cn (rc hr) ⟨Ze8 h.x hv _,h.pc,h.csr⟩) (λ_=>h)
theorem Zj(k:Int){v:Int}(hv:U v):(Qaz c k v).w Q2b:=by
 have ok: ∀i v,U v->Q2b {X:=c.X,Pc:=c.Pc,B6:=A8.of 0 (List.set (A8.l c.B6) i v)}:=λi v hv=>⟨h.x,h.pc,Zaw h.csr hv i⟩
 unfold Qaz
 repeat'(first
   |exact h
   |exact ok _ _ (Q0s _)
   |exact ok _ _ hv
   |refine w_br (λhk=> ?_) (λ_=> ?_)
   |refine w_cn (by rw[eq_of_beq (by assumption:(k==_)=true)];decide) ?_)
end
theorem Za6{a b:Int}(ha:U a)(hb:U b):(Q9x a b).w (λr=>U r.1/\U r.2):=by
 have u1:U 4294967295:=⟨by omega,by omega⟩
 unfold Q9x
 refine w_br (λ_=>⟨u1,ha⟩) (λh=> ?_)
 have h: ¬b=0:=by simpa using h
 obtain⟨b1,b2⟩:=hb
 have hc:decide (IntKind.wrap IntKind.i32 b≠0)=true:=decide_eq_true (by rw[IntKind.wrap_i32];omega)
 exact w_br (λ_=>w_br (λ_=>⟨ha,U_0⟩) (λ_=>w_cn hc (w_cn hc ⟨Q0s _,Q0s _⟩))) (λ_=>w_cn hc (w_cn hc ⟨Q0s _,Q0s _⟩))
theorem zaw(b:Bool):U (Qmk b):=by cases b<;>exact⟨by decide,by decide⟩
theorem Z5m(op:Int){a b:Int}(ha:U a)(hb:U b):(Qmz op a b).w (λr=>U r.1):=by
 unfold Qmz
 repeat'(first
   |refine w_br (λ_=> ?_) (λ_=> ?_)
   |exact Q0e (Za6 ha hb) λx hx=>hx.1
   |exact Q0e (Za6 ha hb) λx hx=>hx.2
   |exact w_lv λx hx=>(by rw[hx];exact zaw _)
   |refine w_lf ?_)
 all_goals(first
   |exact Q0s _
   |exact Qup ha _
   |exact U_0)
theorem Z8d(op:Int):Qeq op=1\/Qeq op=4:=by
 simp only[Qeq,Qqg,Tree.m]
 cases op==32<;>cases op==35<;>simp
section
variable {c:Q04} (h:Q2b c) {i:Q0i} (hi:Qem i)
include h hi
theorem Zjl:(Q4v c i).w (λr=>Q2b r.1/\U r.2.Value):=by
 have k: ∀{x:Q04} {p:Int},Q2b x->U p->Q2b {X:=x.X,Pc:=p,B6:=x.B6}:=λhx hp=>⟨hx.x,hp,hx.csr⟩
 unfold Q4v
 refine w_cn (rc hi.a) (w_cn (rc hi.b) ?_)
 repeat'(first
   |refine w_br (λ_=> ?_) (λ_=> ?_)
   |exact Q0e (Qpc h hi.a (Q0s _)) λx hx=>⟨k hx (Q0s _),U_0⟩
   |exact w_lv λx _=>w_br (λ_=>⟨k h (Q0s _),U_0⟩) (λ_=>⟨k h (Q0s _),U_0⟩)
   |exact w_lv λx hx=>⟨by rw[hx];exact Qm9 h _ U_0,U_0⟩
   |exact w_lv λx hx=>⟨by rw[hx];exact zv h,U_0⟩
   |exact w_cn (by have:=hi.csr (by simp_all);simp [Nat.blt];omega) (Q0e (Qpc h hi.a (h.a _)) λx hx=>⟨k hx (Q0s _),U_0⟩)
   |exact Q0e (Zj h _ (h.r _)) λx hx=>⟨k hx (Q0s _),U_0⟩
   |refine w_cn (rc hi.c) ?_
   |exact Q0e (Z5m _ (h.r _) (Q0s _)) λy hy=>Q0e (Qpc h hi.a hy) λx hx=>⟨k hx (Q0s _),U_0⟩
   |exact Q0e (Z5m _ (h.r _) (h.r _)) λy hy=>Q0e (Qpc h hi.a hy) λx hx=>⟨k hx (Q0s _),U_0⟩
   |refine w_lf ?_)
 all_goals(first
   |exact⟨k h (Q0s _),U_0⟩
   |exact⟨k h (Q0s _),h.r _⟩)
theorem Qzm{P:Nat}{m:List Int}(hm:Q1 P m):(Qd4 c m i).w (λr=>Q2b r.1/\Q1 P r.2):=by
 have w:=Z8d i.Op
 unfold Qd4
 refine w_cn (rc hi.b) (w_lv λx0 h0=> ?_)
 rw[<-h0]at w
 refine Q0e (Qkg hm (Q0s _) w 2) λx1 h1=>w_br (λ_=>w_lv λy hy=>⟨by rw[hy];exact Qm9 h _ (Q0s _),h1.2⟩) (λ_=>w_lv λx3 h3=> ?_)
 rw[h0,<-h3]at w
 exact Q0e (Qqu h1.2 h1.1 w) λx4 h4=>w_br (λ_=>Q0e (Qvb h4.1 8) λy hy=>Q0e (Qpc h hi.a hy) λx hx=>⟨⟨hx.x,Q0s _,hx.csr⟩,h1.2⟩) (λ_=>Q0e (Qpc h hi.a h4.1) λx hx=>⟨⟨hx.x,Q0s _,hx.csr⟩,h1.2⟩)
theorem Qwq{P:Nat}{m:List Int}(hm:Q1 P m):(Qat c m i).w (λr=>Q2b r.1/\Q1 P r.2):=by
 have w:=Z8d i.Op
 unfold Qat
 refine w_cn (rc hi.b) (w_lv λx0 h0=> ?_)
 rw[<-h0]at w
 refine Q0e (Qkg hm (Q0s _) w 3) λx1 h1=>w_br (λ_=>w_lv λy hy=>⟨by rw[hy];exact Qm9 h _ (Q0s _),h1.2⟩) (λ_=>w_lv λx3 h3=>w_cn (rc hi.a) ?_)
 rw[h0,<-h3]at w
 exact Q0e (Qy7 h1.2 h1.1 w (h.r _)) λx hx=>⟨⟨h.x,Q0s _,h.csr⟩,hx⟩
end
theorem yv{c:Q04}(h:Q2b c){P:Nat}{m:List Int}(hm:Q1 P m):(Q6l c m).w (λr=>Q2b r.1/\Q1 P r.2.1/\U r.2.2.Value):=by
 unfold Q6l
 refine Q0e (Z6o hm h) λx0 h0=>w_br (λ_=>w_lv λy hy=>⟨by rw[hy];exact Qm9 h _ h.pc,h0.2,U_0⟩) (λ_=>Q0e (Qz0 _) λx2 h2=>w_br (λ_=>w_lv λy hy=>⟨by rw[hy];exact Qm9 h _ h0.1,h0.2,U_0⟩) (λhb=> ?_))
 have hi:=h2 (by simpa using hb)
 refine w_lv λx4 _=> ?_
 repeat'(first
   |refine w_br (λ_=> ?_) (λ_=> ?_)
   |exact Q0e (Qzm h hi h0.2) λx hx=>⟨hx.1,hx.2,U_0⟩
   |exact Q0e (Qwq h hi h0.2) λx hx=>⟨hx.1,hx.2,U_0⟩
   |exact Q0e (Zjl h hi) λx hx=>⟨hx.1,h0.2,hx.2⟩
   |exact w_lv λy hy=>⟨by rw[hy];exact Qm9 h _ h0.1,h0.2,U_0⟩
   |refine w_lv λ_ _=> ?_)
theorem Zhz{a:Int}(h:U a)(k:Nat)(hk:k<=32):0<=ishr .u32 a k/\ishr .u32 a k*2^k<=a:=by
 obtain⟨h1,h2⟩:=h
 unfold ishr
 have e:min (k:Int).toNat IntKind.u32.bits=k:=by show min (k:Int).toNat 32=k;omega
 have hp:(0:Int)<2^k:=Int.pow_pos (by decide)
 rw[e,Int.fdiv_eq_ediv_of_nonneg _ (Int.le_of_lt hp)]
 exact⟨Int.ediv_nonneg h1 (Int.le_of_lt hp),Int.ediv_mul_le a (Int.ne_of_gt hp)⟩
theorem Zho(x:Int):0<=IntKind.u8.wrap x/\IntKind.u8.wrap x<256:=by rw[IntKind.wrap_u8];omega
theorem xaw{x:Int}(h:U x):(Q1n x).w (λ_=>True):=by
 have s16:=Zhz h 16 (by omega)
 have s8:=Zhz h 8 (by omega)
 have s24:=Zhz (Qup h 16) 8 (by omega)
 obtain⟨h1,h2⟩:=h
 unfold Q1n
 repeat'(first
   |refine w_br (λ_=> ?_) (λ_=> ?_)
   |refine w_cn (decide_eq_true ⟨?_,Int.lt_of_lt_of_le (b:=256) ?_ (Int.le_of_eq (by kernel_rfl))⟩) ?_
   |exact trivial
   |refine w_lf ?_)
 all_goals(first
   |trivial
   |exact(Zho _).1
   |exact(Zho _).2
   |(simp only[decide_eq_true_eq,decide_eq_false_iff_not]at*;simp at s16 s8 s24;omega))
theorem and255(a:Int):iand .u32 a 255<256:=by
 unfold iand
 rw[IntKind.wrap_u32]
 have:(BitVec.ofInt IntKind.u32.bits a&&&BitVec.ofInt IntKind.u32.bits 255).toNat<=255:=by
   show(BitVec.ofInt 32 a&&&BitVec.ofInt 32 255).toNat<=255
   rw[BitVec.toNat_and]
   exact Nat.le_trans Nat.and_le_right (by decide)
 omega
theorem zaM{x:Int}(h:U x):(Q31 x).w (λ_=>True):=by
 have s24:=Zhz h 24 (by omega)
 obtain⟨h1,h2⟩:=h
 have i24:ishr .u32 x 24<256:=by simp at s24;omega
 unfold Q31
 repeat'(first
   |refine w_cn (decide_eq_true ⟨?_,Int.lt_of_lt_of_le (b:=256) ?_ (Int.le_of_eq (by kernel_rfl))⟩) ?_
   |exact trivial
   |refine w_lf ?_)
 all_goals(first
   |trivial
   |exact(Q0s _).1
   |exact s24.1
   |exact i24
   |exact and255 _)
structure okS(P:Nat)(m:Q00):Prop where
 cpu:Q2b m.B2
 mem:Q1 P m.Mem
 disk:Q8i m.B1
 nic:Qig m.C5
 target:U m.A2.D0
 given:U m.A2.C3
theorem Zi0{b:Q07}(h:U b.C3):(Q9h b).w (λ_=>True):=by
 unfold Q9h
 exact Q0e (zaM h) λ_ _=>trivial
theorem Zhg{m:Q00}(h:U m.A2.C3):(Q4x m).w (λ_=>True):=by
 have b: ∀x,(Q3u m.A2 x).w (λ_=>True):=λx=>by
   unfold Q3u
   exact Q0e (xaw h) λ_ _=>trivial
 have d:(Q1k m).w (λ_=>True):=by
   unfold Q1k
   exact w_lv λ_ _=>w_lv λ_ _=>w_br (λ_=>w_lv λ_ _=>w_br (λ_=>w_lv λ_ _=>w_br (λ_=>w_lv λ_ _=>w_br (λ_=>Q0e (b _) λ_ _=>trivial) (λ_=>trivial)) (λ_=>trivial)) (λ_=>trivial)) (λ_=>trivial)
 unfold Q4x
 repeat'(first
   |refine w_br (λ_=> ?_) (λ_=> ?_)
   |exact Q0e d λ_ _=>trivial
   |refine w_lv λ_ _=> ?_
   |exact trivial)
theorem Zhy{m:Q00}(h:U m.A2.C3):(Q6o m).w (λ_=>True):=by
 have p:(Q53 m.A2).w (λ_=>True):=by
   unfold Q53
   exact Q0e (Zi0 h) λ_ _=>trivial
 unfold Q6o
 refine w_lv λx0 _=>w_lv λx1 _=>w_lv λx2 _=>w_lv λx3 _=>Q0e p λx4 _=>w_lp (inv:=λz=>0<=z.2/\z.2<=5) (μ:=Qgu m) ⟨by omega,by omega⟩ (Nat.lt_succ_self _) (λz hz=> ?_)
 obtain⟨z1,z2⟩:=hz
 have ew:z.2<5->IntKind.i64.wrap (z.2+1)=z.2+1:=λ_=>by rw[IntKind.wrap_i64];omega
 refine w_br (λhb=> ?_) (λ_=>trivial)
 have hb:=of_decide_eq_true hb
 have nx:(0<=IntKind.i64.wrap (z.2+1)/\IntKind.i64.wrap (z.2+1)<=5)/\(5-IntKind.i64.wrap (z.2+1)).toNat<(5-z.2).toNat:=by rw[ew hb];omega
 refine w_cn (by simp;omega) (w_br (λ_=>w_cn (decide_eq_true z1) (w_nx nx)) (λ_=>w_nx nx))
theorem Qvh{m:Q00}(h:U m.A2.C3):(Q2r m).w U:=by
 unfold Q2r
 exact Q0e (Zhy h) λ_ _=>Zfk _ _
theorem Zfd{m:Q00}(h:U m.A2.C3):(Q3t m).w (λ_=>True):=by
 have i:(Q2v m).w (λ_=>True):=by
   unfold Q2v
   exact w_br (λ_=>Q0e (Qvh h) λ_ _=>trivial) (λ_=>trivial)
 unfold Q3t
 exact Q0e (Zhg h) λ_ _=>w_br (λ_=>w_br (λ_=>Q0e i λ_ _=>w_br (λ_=>trivial) (λ_=>trivial)) (λ_=>trivial)) (λ_=>trivial)
theorem vS{P:Nat}{m:Q00}(h:okS P m):(Q2n m).w (okS P):=by
 obtain⟨h1,h2,h3,h4,h5,h6⟩:=h
 unfold Q2n
 refine w_br (λ_=>⟨h1,h2,h3,h4,h5,h6⟩) (λ_=>Q0e (Qvh (m:=⟨_,_,_,_,_,_,m.A2,_,_,_⟩) h6) λx0 _=>w_lp (inv:=λz=>0<=z/\z<=5) (μ:=Qar m) ⟨by omega,by omega⟩ (Nat.lt_succ_self _) (λz hz=> ?_))
 obtain⟨z1,z2⟩:=hz
 refine w_br (λhb=>w_cn (decide_eq_true z1) (w_br (λ_=>w_lv λx1 hx=>⟨by rw[hx];exact Qm9 h1 _ U_0,h2,h3,h4,h5,h6⟩) (λ_=>w_nx ?_))) (λ_=>⟨h1,h2,h3,h4,h5,h6⟩)
 have hb:=of_decide_eq_true hb
 show(0<=IntKind.i64.wrap (z+1)/\IntKind.i64.wrap (z+1)<=5)/\(5-IntKind.i64.wrap (z+1)).toNat<(5-z).toNat
 have ew:IntKind.i64.wrap (z+1)=z+1:=by rw[IntKind.wrap_i64];omega
 rw[ew];omega
theorem Qdt{P:Nat}{m:List Int}(h:Q1 P m):Q3p m=P:=by
 obtain⟨h1,h2,h3,_⟩:=h
 simp only[Q3p,Qn0,Tree.m]
 have e:(m.length:Int)=32*P:=by omega
 rw[e]
 have e1:(Int.tmod (32*(P:Int)) 32 !=0)=false:=by simp [Int.mul_tmod_right]
 have e2:decide ((32*(P:Int))>1024)=false:=decide_eq_false (by omega)
 rw[e1,e2]
 simp only[cond_false]
 rw[Int.mul_tdiv_cancel_left _ (by decide),IntKind.wrap_i64];omega
theorem Qlc{P:Nat}{m:List Int}(h:Q1 P m){f:Int}(hf:U f):Q1z m f=decide (f<P):=by
 have:=Qdt h
 obtain⟨h1,h2⟩:=hf
 have h3:=h.p2
 simp only[Q1z,Qho,Tree.m,letv,this]
 congr 1
 rw[IntKind.wrap_u64,IntKind.wrap_u64,Int.emod_eq_of_lt h1 (by omega),Int.emod_eq_of_lt (by omega) (by omega)]
theorem xY{P:Nat}{m:List Int}(h:Q1 P m):(Qdg m).w (λr=>r=m):=by
 obtain⟨h1,h2,h3,_⟩:=h
 unfold Qdg
 refine w_cn ?_ ?_
 . simp [Nat.blt,D.plain];omega
 . show _=_
   simp
theorem put_w{P:Nat}{m:List Int}(h:Q1 P m){addr size v:Int}(ha:U addr)(hl:addr<4*m.length)(hv:U v):(Qcx m addr size v).w (Q1 P):=by
 obtain⟨h1,h2,h3,h4⟩:=h
 obtain⟨a1,a2⟩:=ha
 have e:IntKind.wrap IntKind.u32 (Int.tdiv addr 4)=addr/4:=by rw[IntKind.wrap_u32,Int.tdiv_eq_ediv_of_nonneg a1];omega
 have hc:(Nat.beq 1 1&&Nat.blt 0 1&&decide (0<=IntKind.wrap IntKind.u32 (Int.tdiv addr 4)/\IntKind.wrap IntKind.u32 (Int.tdiv addr 4)<(m.length:Int)))=true:=by
   rw[e];simp [Nat.blt];omega
 have h0: ∀x,decide (0<=IntKind.wrap IntKind.u32 x)=true:=λx=>decide_eq_true (Q0s x).1
 have hs: ∀i v,U v->Q1 P (m.set i v):=λi v hv=>⟨by simp [h1],h2,h3,Z2w h4 hv i⟩
 unfold Qcx
 exact w_br (λ_=>w_cn hc (hs _ _ hv)) (λ_=>w_cn hc (w_cn (h0 _) (w_cn (h0 _) (w_cn hc (hs _ _ (U_or _ _))))))
theorem zY{P:Nat}{m:List Int}(h:Q1 P m){frame:Int}(f0:0<=frame)(f1:frame<P)(s:List UInt8):(Q8r m frame s).w (Q1 P):=by
 unfold Q8r
 have h3:=h.p2
 refine w_lp (inv:=λz=>0<=z.1/\z.1<=128/\Q1 P z.2) (μ:=Qic m frame s) ⟨by omega,by omega,h⟩ (Nat.lt_succ_self _) (λv0 hv0=> ?_)
 obtain⟨i0,i1,hm⟩:=hv0
 refine w_br (λh1=>w_br (λh2=>w_cn ?_ ?_) (λ_=>hm)) (λ_=>hm)
 . have:=of_decide_eq_true h1
   simp [Nat.blt];omega
 . have h2:=of_decide_eq_true h2
   have e:IntKind.wrap IntKind.u32 (IntKind.wrap IntKind.i64 (IntKind.wrap IntKind.i64 (frame*128)+v0.1))=frame*128+v0.1:=by
     rw[IntKind.wrap_u32,IntKind.wrap_i64,IntKind.wrap_i64];omega
   rw[e]
   obtain⟨g1,g2⟩:=Tree.pp (put_w hm (size:=1) (addr:=frame*128+v0.1) ⟨by omega,by omega⟩ (by rw[hm.len];omega) (Q0s (UInt8.toNat (s.getD v0.1.toNat 0))))
   refine w_an g1 (w_lv λx0 hx0=> ?_)
   rw[hx0]
   have ew:IntKind.i64.wrap (v0.1+1)=v0.1+1:=by rw[IntKind.wrap_i64];omega
   refine w_nx ?_
   show(0<=IntKind.i64.wrap (v0.1+1)/\IntKind.i64.wrap (v0.1+1)<=128/\Q1 P _)/\(128-IntKind.i64.wrap (v0.1+1)).toNat<(128-v0.1).toNat
   rw[ew]
   exact⟨⟨by omega,by omega,g2⟩,by omega⟩
theorem Zhh{P:Nat}{m:List Int}(h:Q1 P m){d:Q0f}(hd:Q8i d)(e:Q0d):(Q6a d m e).w (λr=>Q8i r.1/\Q1 P r.2.2):=by
 have fl:Q1z m d.B3=true->(Q8r m (IntKind.i64.wrap d.B3) e.C8).w (Q1 P):=λhp=>by
   rw[Qlc h hd.opFrame]at hp
   have:=of_decide_eq_true hp
   have h1:=hd.opFrame.1
   have h3:=h.p2
   have ew:IntKind.i64.wrap d.B3=d.B3:=by rw[IntKind.wrap_i64];omega
   rw[ew]
   exact zY h h1 this _
 have l0:Q8i d/\Q1 P m:=⟨hd,h⟩
 have l1: ∀st,Q8i {Blocks:=d.Blocks,B9:=d.B9,B4:=d.B4,C2:=st,D8:=0,B7:=0,B3:=0,C4:=[]}:=λst=>⟨hd.block,hd.frame,U_0,U_0⟩
 unfold Q6a
 repeat'(first
   |exact l0
   |exact⟨l1 _,h⟩
   |refine w_br (λ_=> ?_) (λ_=> ?_)
   |refine w_lv (λ_ _=> ?_))
 all_goals(
   first
     | (have hp:Q1z m d.B3=true:=by simp_all
        obtain⟨g1,g2⟩:=Tree.pp (fl hp)
        refine w_an g1 (w_lv λx hx=> ?_)
        rw[hx]
        exact w_br (λ_=>⟨l1 _,g2⟩) (λ_=>⟨l1 _,g2⟩))
     |(exfalso;simp_all;done))
section
variable {c:Q04} (h:Q2b c)
include h
theorem Qzd(k:Int){b:Int}(hb:U b):Q2b (Q2m c k b):=by
 refine(Tree.post (Qhp c k b) (W:=Q2b) ?_)
 unfold Qhp
 refine w_lv λ_ _=>w_lv λ_ _=>⟨h.x,h.a1,?_⟩
 intro w hw
 simp only[A8.l,List.mem_cons,List.not_mem_nil,or_false]at hw
 rcases hw with rfl|rfl|rfl|rfl|rfl|rfl|rfl|rfl
 . exact U_or _ _
 . exact h.a1
 . exact h.pc
 . exact Q0s _
 . exact hb
 . exact h.a5
 . exact h.a6
 . exact h.a7
theorem qT:Q2b (Qi3 c):=by
 refine(Tree.post (Qc4 c) (W:=Q2b) ?_)
 unfold Qc4
 refine w_lv λ_ _=>w_lv λ_ _=>⟨h.x,h.a2,?_⟩
 intro w hw
 simp only[A8.l,List.mem_cons,List.not_mem_nil,or_false]at hw
 rcases hw with rfl|rfl|rfl|rfl|rfl|rfl|rfl|rfl
 . exact U_or _ _
 . exact h.a1
 . exact h.a2
 . exact h.a3
 . exact h.a4
 . exact h.a5
 . exact h.a6
 . exact h.a7
theorem Z3j(r:Int){v:Int}(hv:U v):(Qcu c r v).w Q2b:=by
 unfold Qcu
 refine w_br (λh1=>w_br (λh2=>w_cn ?_ ⟨Ze8 h.x hv _,h.pc,h.csr⟩) (λ_=>h)) (λ_=>h)
 have h1:=of_decide_eq_true h1
 have h2:=of_decide_eq_true h2
 simp [Nat.blt];omega
theorem qax(k:Int){v:Int}(hv:U v):(Qbd c k v).w Q2b:=by
 have ok: ∀i v,U v->Q2b {X:=c.X,Pc:=c.Pc,B6:=A8.of 0 (List.set (A8.l c.B6) i v)}:=λi v hv=>⟨h.x,h.pc,Zaw h.csr hv i⟩
 unfold Qbd
 repeat'(first
   |exact h
   |exact ok _ _ (Q0s _)
   |exact ok _ _ hv
   |refine w_br (λhk=> ?_) (λ_=> ?_)
   |refine w_cn (by rw[eq_of_beq (by assumption:(k==_)=true)];decide) ?_)
end
section
variable {P:Nat} {m:List Int} (h:Q1 P m)
include h
theorem Z7r(a:Int){size:Int}(hs:size=1\/size=4):(Q7e m a size).w (λb=>b=true->a<128*P):=by
 have hp:=Qdt h
 have h2:=h.p2
 have e:decide (IntKind.wrap IntKind.u32 size≠0)=true:=by rcases hs with rfl|rfl<;>decide
 have l: ∀x,x=Q3p m->decide (a<IntKind.wrap IntKind.u32 (IntKind.wrap IntKind.i64 (128*x)))=true->a<128*P:=λx hx hd=>by
   rw[hx,hp,IntKind.wrap_u32,IntKind.wrap_i64]at hd
   have:=of_decide_eq_true hd
   omega
 unfold Q7e
 refine w_br (λ_=>w_br (λ_=>λh=>by cases h) (λ_=> ?_)) (λ_=> ?_)<;>
 exact w_cn e (w_br (λ_=>w_lv λx hx=>l x hx) (λ_=>λh=>by cases h))
theorem idx{a:Int}(ha:U a)(hl:a<128*P):(Nat.beq 1 1&&Nat.blt 0 1&&decide (0<=IntKind.wrap IntKind.u32 (Int.tdiv a 4)/\IntKind.wrap IntKind.u32 (Int.tdiv a 4)<(m.length:Int)))=true:=by
 obtain⟨a1,a2⟩:=ha
 have e:IntKind.wrap IntKind.u32 (Int.tdiv a 4)=a/4:=by rw[IntKind.wrap_u32,Int.tdiv_eq_ediv_of_nonneg a1];omega
 have:=h.len
 rw[e];simp [Nat.blt];omega
theorem Zb5{a:Int}(ha:U a){size:Int}(hs:size=1\/size=4):(Q3n m a size).w (λr=>U r.1):=by
 obtain⟨g1,g2⟩:=Tree.pp (Z7r h a hs)
 unfold Q3n
 refine w_an g1 (w_lv λx hx=>w_br (λ_=>U_0) (λhb=> ?_))
 have hb:x=true:=by simpa using hb
 have hl:=g2 (hx.symm.trans hb)
 refine w_cn (idx h ha hl) (w_br (λ_=>w_cn (decide_eq_true (Q0s _).1) (Q0s _)) (λ_=>Qk6 h.u _))
theorem xaM{a:Int}(ha:U a)(access:Int):(Qdi m a access).w (Q1 P):=by
 obtain⟨g1,g2⟩:=Tree.pp (Z7r h a (size:=4) (.inr rfl))
 have hs: ∀{m:List Int} i v,Q1 P m->U v->Q1 P (m.set i v):=λi v h hv=>⟨by simp [h.len],h.p1,h.p2,Z2w h.u hv i⟩
 unfold Qdi
 refine w_an g1 (w_lv λx hx=>w_br (λ_=>h) (λhb=> ?_))
 have hb:x=true:=by simpa using hb
 have hl:=g2 (hx.symm.trans hb)
 have i0:=idx h ha hl
 have h':=hs (Int.toNat (IntKind.wrap IntKind.u32 (Int.tdiv a 4))) (ior IntKind.u32 (m.getD (Int.toNat (IntKind.wrap IntKind.u32 (Int.tdiv a 4))) 0) 8) h (U_or _ _)
 have i1:=idx h' ha hl
 exact w_cn i0 (w_cn i0 (w_br (λ_=>w_cn i1 (w_cn i1 (hs _ _ h' (U_or _ _)))) (λ_=>h')))
theorem yY{root va:Int}(hr:U root)(hv:U va)(access:Int):(Q9a m root va access).w (λt=>U t.Addr/\U t.F3/\(t.F1=0->t.Addr<128*P)):=by
 have hp:=Qdt h
 have h2:=h.p2
 have hlen:=h.len
 obtain⟨r1,r2⟩:=hr
 obtain⟨v1,v2⟩:=hv
 unfold Q9a
 refine w_lv λx0 hx0=>w_lv λx1 hx1=>w_lv λx2 _=> ?_
 have hc:x0≠0:=by
   rw[hx0]
   simp only[Q1u,Q86,Tree.m]
   cases access==1<;>cases access==3<;>simp
 rw[hp]at hx1
 have bad:U (0:Int)/\U (0:Int)/\(x0=0->(0:Int)<128*P):=⟨U_0,U_0,λe=>absurd e hc⟩
 refine w_br (λ_=>bad) (λ_=>w_br (λ_=>bad) (λhva=>w_br (λ_=>bad) (λhro=> ?_)))
 have hva:=of_decide_eq_false hva
 have hro:=of_decide_eq_false hro
 have e1:IntKind.wrap IntKind.u32 x1=P:=by rw[hx1,IntKind.wrap_u32];omega
 rw[e1]at hro
 have e2:IntKind.wrap IntKind.u32 (IntKind.wrap IntKind.u32 (root*128)+IntKind.wrap IntKind.u32 (4*IntKind.wrap IntKind.u32 (Int.tdiv va 128)))=root*128+4*(va/128):=by
   rw[Int.tdiv_eq_ediv_of_nonneg v1,IntKind.wrap_u32,IntKind.wrap_u32,IntKind.wrap_u32,IntKind.wrap_u32];omega
 have hU:U (IntKind.wrap IntKind.u32 (IntKind.wrap IntKind.u32 (root*128)+IntKind.wrap IntKind.u32 (4*IntKind.wrap IntKind.u32 (Int.tdiv va 128)))):=Q0s _
 have ci:=idx h hU (by rw[e2];omega)
 have good: ∀w:Int,decide (iand IntKind.u32 w 255>=IntKind.wrap IntKind.u32 x1)=false->(U (IntKind.wrap IntKind.u32 (IntKind.wrap IntKind.u32 (iand IntKind.u32 w 255*128)+Int.tmod va 128))/\U (IntKind.wrap IntKind.u32 (IntKind.wrap IntKind.u32 (root*128)+IntKind.wrap IntKind.u32 (4*IntKind.wrap IntKind.u32 (Int.tdiv va 128))))/\((0:Int)=0->IntKind.wrap IntKind.u32 (IntKind.wrap IntKind.u32 (iand IntKind.u32 w 255*128)+Int.tmod va 128)<128*P)):=λw hw=>by
   have hw:=of_decide_eq_false hw
   rw[e1]at hw
   have hn:=(Zfk w 255).1
   refine⟨Q0s _,Q0s _,λ_=> ?_⟩
   rw[Int.tmod_eq_emod_of_nonneg v1,IntKind.wrap_u32,IntKind.wrap_u32]
   generalize iand IntKind.u32 w 255=q at*
   omega
 refine w_cn ci ?_
 repeat'(first
   |exact bad
   |exact good _ (by assumption)
   |refine w_br (λ_=> ?_) (λ_=> ?_)
   |refine w_cn ci ?_)
theorem Z8h{c:Q04}(hc:Q2b c){va:Int}(hv:U va){size:Int}(hs:size=1\/size=4)(access:Int):(Q72 c m va size access).w (λr=>Q1 P r.2.2/\U r.1/\(r.2.1=0->r.1<128*P)):=by
 have e:decide (IntKind.wrap IntKind.u32 size≠0)=true:=by rcases hs with rfl|rfl<;>decide
 obtain⟨g1,g2⟩:=Tree.pp (Z7r h va hs)
 obtain⟨k1,k2⟩:=Tree.pp (yY h hc.a6 hv access)
 have bad: ∀k:Int,k≠0->Q1 P m/\U (0:Int)/\(k=0->(0:Int)<128*P):=λk hk=>⟨h,U_0,λe=>absurd e hk⟩
 have hca:Q1u access≠0:=by
   simp only[Q1u,Q86,Tree.m]
   cases access==1<;>cases access==3<;>simp
 unfold Q72
 refine w_lv λx0 _=>w_br (λ_=>bad 5 (by decide)) (λ_=>w_br (λh1=>w_br (λh2=> ?_) (λ_=> ?_)) (λ_=> ?_))
 . exact bad 5 (by decide)
 all_goals(
   refine w_cn e (w_br (λ_=>bad 3 (by decide)) (λ_=>w_lv λx1 _=>w_br (λ_=>w_an g1 (w_lv λx2 hx2=>w_br (λ_=>w_lv λx3 hx3=>bad x3 (by rw[hx3];exact hca)) (λhb=> ?_))) (λ_=>w_an k1 (w_lv λx4 hx4=>w_br (λhb=> ?_) (λhb=> ?_)))))
   . have hb:x2=true:=by simpa using hb
     exact⟨h,hv,λ_=>g2 (hx2.symm.trans hb)⟩
   . exact bad _ (by simpa using hb)
   . obtain⟨t1,t2,t3⟩:=k2
     rw[show(Q9a m c.B6.a6 va access).m=x4 from hx4.symm]at t1 t2 t3
     obtain⟨m1,m2⟩:=Tree.pp (xaM h t2 access)
     refine w_an m1 (w_lv λx5 hx5=> ?_)
     exact⟨hx5▸m2,t1,λ_=>t3 (by simpa using hb)⟩)
end
theorem vv{r:Int}(h:Q7c r=true):0<=r/\r<16:=by
 simp only[Q7c,Qc7,Tree.m]at h
 cases h1:decide (r>=0)<;>rw[h1]at h
 . cases h
 . have h1:=of_decide_eq_true h1
   have h:=of_decide_eq_true h
   omega
theorem xT{i:Q0i}(hi:IntKind.wrap .i64 i.Imm=i.Imm)(h:Q6n i=true):Qem i:=by
 have no:false=true->Qem i:=λh=>by cases h
 refine(Tree.post (Qek i) (W:=λb=>b=true->Qem i) ?_) h
 unfold Qek
 refine w_lv λx0 h0=>w_br (λ_=>no) (λ_=>w_lv λx1 h1=>w_br (λ_=>no) (λb1=>w_lv λx2 h2=>w_br (λ_=>no) (λb2=>w_lv λx3 h3=>w_br (λ_=>no) (λb3=>w_lv λx4 h4=>w_br (λ_=>no) (λb4=>w_br (λ_=>no) (λb5=> ?_))))))
 have b1:x1=true:=by simpa using b1
 have b2:x2=true:=by simpa using b2
 have b3:x3=true:=by simpa using b3
 have b4:=of_decide_eq_false b4
 have b5:=of_decide_eq_false b5
 rw[hi]at b4 b5
 have ok:Qem i:=⟨vv (h1.symm.trans b1),vv (h2.symm.trans b2),vv (h3.symm.trans b3),λe=>by
   rw[e]at h0
   have h0:x0=8:=h0
   subst h0
   have h4:x4=(0,7):=h4
   subst h4
   simp at b4 b5;omega⟩
 repeat'(first
   |exact λ_=>ok
   |exact no
   |refine w_br (λ_=> ?_) (λ_=> ?_))
theorem Zhp(w:Int):(Q64 w).w (λr=>r.2=true->Qem r.1):=by
 have no: ∀{p:Prop},false=true->p:=λh=>by cases h
 have e: ∀x,IntKind.wrap .i64 (IntKind.wrap .i32 x)=IntKind.wrap .i32 x:=λx=>by rw[IntKind.wrap_i64,IntKind.wrap_i32];omega
 have ok: ∀i,IntKind.wrap .i64 i.Imm=i.Imm-> ∀x,x=Q6n i->(!x)=false->true=true->Qem i:=λi hi x hx hb _=>xT hi (hx.symm.trans (by simpa using hb))
 unfold Q64
 refine w_lv λx0 _=> ?_
 have l: ∀i,IntKind.wrap .i64 i.Imm=i.Imm->(Tree.lv (Q6n i) λx=> .br (!x) (.lf ((⟨0,0,0,0,0⟩:Q0i),false)) (.lf (i,true))).w (λr=>r.2=true->Qem r.1):=λi hi=>w_lv λx hx=>w_br (λ_=>no) (λhb=>ok i hi x hx hb)
 refine w_br (λ_=>no) (λ_=>w_br (λ_=>l _ rfl) (λ_=>w_br (λ_=>l _ (e _)) (λ_=>w_br (λ_=>l _ (e _)) (λ_=>l _ (e _)))))
theorem bit_w(b:Bool):U (Qan b):=by cases b<;>exact⟨by decide,by decide⟩
theorem Zj4{a b:Int}(ha:U a)(hb:U b):(Q9o a b).w (λr=>U r.1/\U r.2):=by
 unfold Q9o
 refine w_br (λ_=>⟨⟨by omega,by omega⟩,ha⟩) (λh=> ?_)
 have h: ¬b=0:=by simpa using h
 obtain⟨b1,b2⟩:=hb
 have hc:decide (IntKind.wrap IntKind.i64 (IntKind.wrap IntKind.i32 b)≠0)=true:=decide_eq_true (by rw[IntKind.wrap_i64,IntKind.wrap_i32];omega)
 exact w_cn hc (w_cn hc ⟨Q0s _,Q0s _⟩)
theorem alu_w(op:Int){a b:Int}(ha:U a)(hb:U b):(Qkj op a b).w (λr=>U r.1):=by
 unfold Qkj
 refine w_lv λx0 _=> ?_
 repeat'(first
   |exact Q0s _
   |exact Qup ha _
   |exact U_0
   |refine w_br (λ_=> ?_) (λ_=> ?_)
   |exact Q0e (Zj4 ha hb) λx hx=>hx.1
   |exact Q0e (Zj4 ha hb) λx hx=>hx.2
   |exact w_lv λx hx=>(by rw[hx];exact bit_w _))
theorem qw{x:Int}(hx:U x):(Q6v x 8).w U:=by
 unfold Q6v
 have h0:decide (0<=IntKind.wrap IntKind.u64 8)=true:=by decide
 refine w_br (λh=>absurd h (by decide)) λ_=>w_br (λh=>absurd h (by decide)) λ_=>w_cn h0 (w_cn (by decide) (w_br (λ_=>w_cn h0 (U_or _ _)) (λ_=>Zfk _ _)))
section
variable {c:Q04} (h:Q2b c) {i:Q0i} (hi:Qem i)
include h hi
theorem zT:(Q7h c i).w (λr=>Q2b r.1/\U r.2.Value):=by
 unfold Q7h
 refine w_br (λ_=>w_lv λx hx=>⟨hx▸Qzd h _ U_0,U_0⟩) (λ_=>w_br (λ_=>w_lv λx hx=>⟨hx▸qT h,U_0⟩) (λ_=>w_br (λe=>w_cn ?_ (Q0e (Z3j h _ (h.a _)) λx hx=>⟨hx.pcs (Q0s _),U_0⟩)) (λ_=>w_br (λ_=>w_cn (rc hi.a) (Q0e (qax h _ (h.r _)) λx hx=>⟨hx.pcs (Q0s _),U_0⟩)) (λ_=> ?_))))
 . have:=hi.csr (by simpa using e)
   simp [Nat.blt];omega
 . have k:=h.pcs (Q0s (c.Pc+4))
   repeat'(first
     |exact⟨k,U_0⟩
     |exact⟨k,h.r _⟩
     |refine w_br (λ_=> ?_) (λ_=> ?_)
     |refine w_cn (rc hi.a) ?_)
theorem qaN:(Qh5 c i).w Q2b:=by
 unfold Qh5
 exact w_br (λ_=>Q0e (Z3j h _ (Q0s _)) λx hx=>hx.pcs (Q0s _)) (λ_=>w_br (λ_=>w_cn (rc hi.b) (Q0e (Z3j h _ (Q0s _)) λx hx=>hx.pcs (Q0s _))) (λ_=>w_cn (rc hi.a) (w_cn (rc hi.b) (w_lv λx _=>w_br (λ_=>h.pcs (Q0s _)) (λ_=>h.pcs (Q0s _))))))
theorem Zjf{P:Nat}{m:List Int}(hm:Q1 P m):(Q8q c m i).w (λr=>Q2b r.1/\Q1 P r.2):=by
  unfold Q8q
  refine w_cn (rc hi.b) ?_
  have e1:(1:Int)=1\/(1:Int)=4:= .inl rfl
  have e4:(4:Int)=1\/(4:Int)=4:= .inr rfl
  repeat'(first
    |refine w_br (λ_=> ?_) (λ_=> ?_)
    | (refine Q0e (Z8h hm h (Q0s _) e4 _) λx hx=> ?_
       obtain⟨m1,m2,m3⟩:=hx
       refine w_br (λ_=>w_lv λy hy=>⟨hy▸Qzd h _ (Q0s _),m1⟩) (λhb=> ?_)
       have m3:=m3 (by simpa using hb)
       have m4:x.1<4*x.2.2.length:=by rw[m1.len];omega
       clear hb)
    | (refine Q0e (Z8h hm h (Q0s _) e1 _) λx hx=> ?_
       obtain⟨m1,m2,m3⟩:=hx
       refine w_br (λ_=>w_lv λy hy=>⟨hy▸Qzd h _ (Q0s _),m1⟩) (λhb=> ?_)
       have m3:=m3 (by simpa using hb)
       have m4:x.1<4*x.2.2.length:=by rw[m1.len];omega
       clear hb)
    |exact w_cn (rc hi.a) (Q0e (put_w (by assumption) (by assumption) (by assumption) (h.r _)) λy hy=>⟨h.pcs (Q0s _),hy⟩)
    |(refine Q0e (Zb5 (by assumption) (by assumption) e4) λy hy=> ?_)
    |(refine Q0e (Zb5 (by assumption) (by assumption) e1) λy hy=> ?_)
    |exact Q0e (qw (by assumption)) λz hz=>Q0e (Z3j h _ hz) λu hu=>⟨hu.pcs (Q0s _),by assumption⟩
    |exact Q0e (Z3j h _ (by assumption)) λu hu=>⟨hu.pcs (Q0s _),by assumption⟩)
end
theorem do_w{c:Q04}(h:Q2b c){P:Nat}{m:List Int}(hm:Q1 P m):(Qmc c m).w (λr=>Q2b r.1/\U r.2.1.Value/\Q1 P r.2.2):=by
 unfold Qmc
 refine Q0e (Z8h hm h h.pc (.inr rfl) 1) λx0 hx=> ?_
 obtain⟨m1,m2,m3⟩:=hx
 refine w_br (λ_=>w_lv λy hy=>⟨hy▸Qzd h _ h.pc,U_0,m1⟩) (λhb=> ?_)
 refine Q0e (Zb5 m1 m2 (.inr rfl)) λx2 h2=>Z9p (Zhp _) λx3 h3=>w_br (λ_=>w_lv λy hy=>⟨hy▸Qzd h _ h2,U_0,m1⟩) (λb3=> ?_)
 have hi:=h3 (by simpa using b3)
 refine w_lv λx5 _=> ?_
 repeat'(first
   |refine w_br (λ_=> ?_) (λ_=> ?_)
   |exact w_lv λy hy=>⟨hy▸Qzd h _ h2,U_0,m1⟩
   |exact Q0e (zT h hi) λy hy=>⟨hy.1,hy.2,m1⟩
   |exact Q0e (qaN h hi) λy hy=>⟨hy,U_0,m1⟩
   |exact Q0e (Zjf h hi m1) λy hy=>⟨hy.1,U_0,hy.2⟩
   |exact Q0e (Z3j h _ (Q0s _)) λy hy=>⟨hy.pcs (Q0s _),U_0,m1⟩
   |refine w_cn (rc hi.c) ?_
   |refine w_cn (rc hi.b) ?_
   |exact Q0e (alu_w _ (h.r _) (h.r _)) λy hy=>Q0e (Z3j h _ hy) λz hz=>⟨hz.pcs (Q0s _),U_0,m1⟩
   |exact Q0e (alu_w _ (h.r _) (Q0s _)) λy hy=>Q0e (Z3j h _ hy) λz hz=>⟨hz.pcs (Q0s _),U_0,m1⟩)
theorem and1{q:Int}(h:U q):iand .u32 q 1=q%2:=by
 obtain⟨h1,h2⟩:=h
 unfold iand
 rw[IntKind.wrap_u32]
 have e1:(BitVec.ofInt 32 q).toNat=q.toNat:=by rw[BitVec.toNat_ofInt];omega
 have e2:(BitVec.ofInt 32 1).toNat=1:=by decide
 have:(BitVec.ofInt IntKind.u32.bits q&&&BitVec.ofInt IntKind.u32.bits 1).toNat=q.toNat%2:=by
   show(BitVec.ofInt 32 q&&&BitVec.ofInt 32 1).toNat=_
   rw[BitVec.toNat_and,e1,e2,Nat.and_one_is_mod]
 rw[this];omega
theorem Zar(b:Bool)(n:Int):(Qi7 b n).w (λ_=>True):=by
 unfold Qi7
 exact w_br (λ_=>w_cn (decide_eq_true (by rw[IntKind.wrap_u64];omega)) trivial) (λ_=>trivial)
theorem zax(m:Q00):(Qep m).w (λ_=>True):=by
 unfold Qep
 exact w_lv λ_ _=>Q0e (Zar _ _) λ_ _=>w_lv λ_ _=>Q0e (Zar _ _) λ_ _=>w_lv λ_ _=>Q0e (Zar _ _) λ_ _=>w_lv λ_ _=>Q0e (Zar _ _) λ_ _=>w_lv λ_ _=>Q0e (Zar _ _) λ_ _=>trivial
theorem Zan(m:Q00):(Q87 m).w U:=by
 unfold Q87
 exact Q0e (zax m) λ_ _=>Zfk _ _
theorem vY(m:Q00):(Qd7 m).w (λ_=>True):=by
 unfold Qd7
 exact w_br (λ_=>Q0e (Zan m) λ_ _=>trivial) (λ_=>trivial)
theorem Zeo(m:Q00):(Q73 m).w (λ_=>True):=by
 unfold Q73
 exact w_lv λ_ _=>w_br (λ_=>trivial) (λ_=>w_br (λ_=>trivial) (λ_=>Q0e (vY m) λ_ _=>w_br (λ_=>trivial) (λ_=>trivial)))
theorem Qkx{m:Q00}(h:Q2b m.B2):(Q4c m).w Q2b:=by
 unfold Q4c
 refine Q0e (Zan m) λx0 hx=>w_br (λ_=>h) (λ_=>w_br (λ_=>h) (λhb=> ?_))
 have hb:x0≠0:=by simpa using hb
 have sh: ∀z:Int,0<=z->z<=31->ishr .u32 x0 (IntKind.wrap .u64 z)=x0/2^z.toNat:=λz h1 h2=>by
   unfold ishr
   have e:min (IntKind.wrap .u64 z).toNat IntKind.u32.bits=z.toNat:=by
     show min (IntKind.wrap .u64 z).toNat 32=z.toNat
     rw[IntKind.wrap_u64];omega
   rw[e,Int.fdiv_eq_ediv_of_nonneg _ (Int.le_of_lt (Int.pow_pos (by decide)))]
 refine w_lp (inv:=λz=>0<=z/\z<=31/\x0/2^z.toNat≠0) (μ:=Qcp m) ⟨by omega,by omega,by simpa using hb⟩ (Nat.lt_succ_self _) (λz hz=> ?_)
 obtain⟨z1,z2,z3⟩:=hz
 refine w_cn (decide_eq_true (by rw[IntKind.wrap_u64];omega)) (w_br (λe=>w_nx ?_) (λ_=>w_lv λy hy=>hy▸Qzd h _ U_0))
 have e:=eq_of_beq e
 have hq:=Qup hx (IntKind.wrap .u64 z)
 rw[and1 hq,sh z z1 z2]at e
 rw[sh z z1 z2]at hq
 have hlt:x0/2^z.toNat/2≠0:=by omega
 have z4:z<=30:=by
   rcases Int.lt_or_le z 31 with h|h
   . omega
   . have:z=31:=by omega
     subst this
     have:=hx.2
     have:=hx.1
     simp at z3 e hlt
     omega
 show(0<=IntKind.i64.wrap (z+1)/\IntKind.i64.wrap (z+1)<=31/\x0/2^(IntKind.i64.wrap (z+1)).toNat≠0)/\(32-IntKind.i64.wrap (z+1)).toNat<(32-z).toNat
 have ew:IntKind.i64.wrap (z+1)=z+1:=by rw[IntKind.wrap_i64];omega
 rw[ew]
 refine⟨⟨by omega,by omega,?_⟩,by omega⟩
 have et:(z+1).toNat=z.toNat+1:=by omega
 rw[et,Int.pow_succ,<-Int.ediv_ediv_of_nonneg (Int.le_of_lt (Int.pow_pos (by decide)))]
 exact hlt
theorem xw{P:Nat}{m:Q00}(h:Q2b m.B2)(hm:Q1 P m.Mem):(Qe0 m).w (λ_=>True):=by
 unfold Qe0
 refine Q0e (Qkx h) λx0 hx=>w_br (λ_=>trivial) (λ_=>Q0e (Zb5 hm hx.pc (.inr rfl)) λx1 _=>w_lv λx2 _=> ?_)
 exact w_br (λ_=>w_br (λ_=>w_br (λ_=>trivial) (λ_=>trivial)) (λ_=>trivial)) (λ_=>trivial)
theorem Qwl{P:Nat}{m:Q00}(h:Q2b m.B2)(hm:Q1 P m.Mem):(Q6x m).w (λ_=>True):=by
 unfold Q6x
 exact Q0e (Zeo m) λ_ _=>w_br (λ_=>trivial) (λ_=>Q0e (xw h hm) λ_ _=>trivial)
theorem Qhi(l:List Int):(bytesOf l).length=l.length:=by simp [bytesOf]
theorem Qo3(l:List UInt8):(Q91 l).length=l.length:=by simp [Q91]
theorem low_w(x:Int):(Qga x 4).w (λr=>r.length=4):=by
 unfold Qga
 refine w_lp (inv:=λz=>0<=z.1/\z.1<=4/\(z.2.length:Int)=z.1) (μ:=Qdw x 4) ⟨by omega,by omega,rfl⟩ (Nat.lt_succ_self _) (λz hz=> ?_)
 obtain⟨z1,z2,z3⟩:=hz
 refine w_br (λh=>w_cn (decide_eq_true (by rw[IntKind.wrap_u64];omega)) (w_cn (decide_eq_true (by omega)) (w_nx ?_))) (λh=> ?_)
 . have h:=of_decide_eq_true h
   show(0<=IntKind.i64.wrap (z.1+1)/\IntKind.i64.wrap (z.1+1)<=4/\((z.2++[_]).length:Int)=IntKind.i64.wrap (z.1+1))/\(4-IntKind.i64.wrap (z.1+1)).toNat<(4-z.1).toNat
   have ew:IntKind.i64.wrap (z.1+1)=z.1+1:=by rw[IntKind.wrap_i64];omega
   rw[ew]
   refine⟨⟨by omega,by omega,by simp;omega⟩,by omega⟩
 . have h:=of_decide_eq_false h
   show(bytesOf z.2).length=4
   rw[Qhi];omega
theorem qZ{P:Nat}{m:List Int}(hm:Q1 P m)(frame:Int):(Q8u m frame).w (λr=>0<=frame->frame<P->r.1.length=128):=by
 have hp:=Qdt hm
 have hl:=hm.len
 have h2:=hm.p2
 unfold Q8u
 refine w_br (λh=>λh0 _=>by have:=of_decide_eq_true h;omega) (λh=>w_lv λx0 hx=>w_br (λh1=>λ_ h2=>by have:=of_decide_eq_true h1;rw[hx,hp]at this;omega) (λh1=> ?_))
 have h:=of_decide_eq_false h
 have h1:=of_decide_eq_false h1
 rw[hx,hp]at h1
 refine w_lp (inv:=λz=>0<=z.1/\z.1<=32/\(z.2.length:Int)=4*z.1) (μ:=Qhu m frame) ⟨by omega,by omega,rfl⟩ (Nat.lt_succ_self _) (λz hz=> ?_)
 obtain⟨z1,z2,z3⟩:=hz
 refine w_br (λhb=> ?_) (λhb=> ?_)
 . have hb:=of_decide_eq_true hb
   have e:IntKind.wrap IntKind.i64 (IntKind.wrap IntKind.i64 (frame*32)+z.1)=frame*32+z.1:=by rw[IntKind.wrap_i64,IntKind.wrap_i64];omega
   refine w_cn (by rw[e];simp [Nat.blt];omega) (w_an (show(4:Int)<=1000000000000 by decide) (Z9p (low_w _) λx1 h4=>w_cn (decide_eq_true (by rw[Qo3,h4];omega)) (w_nx ?_)))
   show(0<=IntKind.i64.wrap (z.1+1)/\IntKind.i64.wrap (z.1+1)<=32/\((z.2++Q91 x1).length:Int)=4*IntKind.i64.wrap (z.1+1))/\(32-IntKind.i64.wrap (z.1+1)).toNat<(32-z.1).toNat
   have ew:IntKind.i64.wrap (z.1+1)=z.1+1:=by rw[IntKind.wrap_i64];omega
   rw[ew,List.length_append,Qo3,h4]
   exact⟨⟨by omega,by omega,by omega⟩,by omega⟩
 . have hb:=of_decide_eq_false hb
   intro _ _
   show(bytesOf z.2).length=128
   rw[Qhi];omega
theorem Zcf{P:Nat}{m:List Int}(hm:Q1 P m){d:Q0f}(hd:Q8i d)(port:Int){v:Int}(hv:U v)(at0:Int):(Q84 d m port v at0).w (λr=>Q8i r.1/\r.2.length<=1):=by
 have k: ∀st,Q8i {Blocks:=d.Blocks,B9:=d.B9,B4:=d.B4,C2:=st,D8:=d.D8,B7:=d.B7,B3:=d.B3,C4:=d.C4}:=λst=>⟨hd.block,hd.frame,hd.opBlock,hd.opFrame⟩
 have k2: ∀c o,Q8i {Blocks:=d.Blocks,B9:=d.B9,B4:=d.B4,C2:=1,D8:=c,B7:=d.B9,B3:=d.B4,C4:=o}:=λc o=>⟨hd.block,hd.frame,hd.block,hd.frame⟩
 have k3:Q8i {Blocks:=d.Blocks,B9:=v,B4:=d.B4,C2:=d.C2,D8:=d.D8,B7:=d.B7,B3:=d.B3,C4:=d.C4}:=⟨hv,hd.frame,hd.opBlock,hd.opFrame⟩
 have k4:Q8i {Blocks:=d.Blocks,B9:=d.B9,B4:=v,C2:=d.C2,D8:=d.D8,B7:=d.B7,B3:=d.B3,C4:=d.C4}:=⟨hd.block,hv,hd.opBlock,hd.opFrame⟩
 unfold Q84
 repeat'(first
   |refine w_br (λ_=> ?_) (λ_=> ?_)
   |exact Q0e (qZ hm _) λ_ _=>w_lv λ_ _=>⟨k2 _ _,Nat.le_refl _⟩
   |refine w_lv (λ_ _=> ?_)
   |refine w_lf ?_)
 all_goals(first
   |exact⟨hd,Nat.zero_le _⟩
   |exact⟨k _,Nat.zero_le _⟩
   |exact⟨k2 _ _,Nat.le_refl _⟩
   |exact⟨k3,Nat.zero_le _⟩
   |exact⟨k4,Nat.zero_le _⟩)
theorem Zhu{P:Nat}{m:List Int}(hm:Q1 P m){n:Q0q}(hn:Qig n)(port:Int){v:Int}(hv:U v)(at0:Int):(Q9v n m port v at0).w (λr=>Qig r.1/\r.2.length<=1):=by
 have k1:Qig {B4:=v,F0:=n.F0,C7:=n.C7,C1:=n.C1,B8:=n.B8,F2:=n.F2}:=⟨hv,hn.len,hn.buffer,hn.got⟩
 have k2:Qig {B4:=n.B4,F0:=v,C7:=n.C7,C1:=n.C1,B8:=n.B8,F2:=n.F2}:=⟨hn.frame,hv,hn.buffer,hn.got⟩
 have k3:Qig {B4:=n.B4,F0:=n.F0,C7:=n.C7,C1:=n.C1,B8:=false,F2:=0}:=⟨hn.frame,hn.len,hn.buffer,U_0⟩
 have k4: ∀p r,Qig {B4:=n.B4,F0:=n.F0,C7:=p,C1:=n.B4,B8:=r,F2:=n.F2}:=λp r=>⟨hn.frame,hn.len,hn.frame,hn.got⟩
 have send: ∀K:List UInt8×Bool->Tree (Q0q×List Q02),Q1z m n.B4=true->(∀x:List UInt8×Bool,x.1.length=128->(K x).w (λr=>Qig r.1/\r.2.length<=1))->(Tree.an (Qfn m (IntKind.wrap .i64 n.B4)) (.lv (Qhv m (IntKind.wrap .i64 n.B4)) K)).w (λr=>Qig r.1/\r.2.length<=1):=λK hp hK=>by
   rw[Qlc hm hn.frame]at hp
   have hp:=of_decide_eq_true hp
   obtain⟨f1,f2⟩:=hn.frame
   have ew:IntKind.i64.wrap n.B4=n.B4:=by rw[IntKind.wrap_i64];omega
   exact Q0e (qZ hm _) λx hx=>hK x (hx (by rw[ew];exact f1) (by rw[ew];exact hp))
 unfold Q9v
 repeat'(first
   |refine w_br (λ_=> ?_) (λ_=> ?_)
   |refine send _ (by simp_all) (λx hx=>w_cn (by simp_all;exact hn.len.1) ?_)
   |refine w_lv (λ_ _=> ?_)
   |refine w_lf ?_)
 all_goals(first
   |exact⟨hn,Nat.zero_le _⟩
   |exact⟨hn,Nat.le_refl _⟩
   |exact⟨k1,Nat.zero_le _⟩
   |exact⟨k2,Nat.zero_le _⟩
   |exact⟨k3,Nat.zero_le _⟩
   |exact⟨k4 _ _,Nat.zero_le _⟩)
def okB(b:Q07):Prop:=U b.D0/\U b.C3
theorem xZ{P:Nat}{m:List Int}(hm:Q1 P m){b:Q07}(hb:okB b)(port:Int){v:Int}(hv:U v):(Q4k b m port v).w (λr=>okB r.1/\Q1 P r.2):=by
 have hv0:decide (0<=v)=true:=decide_eq_true hv.1
 have h2:=hm.p2
 have rest:(Tree.br (port==11) (.br (decide (v<32)) (.cn (decide (0<=v)) (.lf (({D0:=b.D0,C3:=Qft .u32 b.C3 (ishl .u32 1 v)}:Q07),m))) (.lf (b,m))) (.lf (b,m))).w (λr=>okB r.1/\Q1 P r.2):=
   w_br (λ_=>w_br (λ_=>w_cn hv0 ⟨⟨hb.1,Q0s _⟩,hm⟩) (λ_=>⟨hb,hm⟩)) (λ_=>⟨hb,hm⟩)
 unfold Q4k
 refine w_br (λ_=>w_lv λx0 hx=>w_br (λhp=>w_cn hv0 (w_br (λ_=>w_cn hv0 ?_) (λ_=>rest))) (λ_=>rest)) (λ_=>rest)
 have hp:Q1z m v=true:=hx.symm.trans hp
 rw[Qlc hm hv]at hp
 have hp:=of_decide_eq_true hp
 obtain⟨v1,v2⟩:=hv
 refine w_lp (inv:=λz=>0<=z.1/\z.1<=32/\Q1 P z.2) (μ:=Qhk b m port v) ⟨by omega,by omega,hm⟩ (Nat.lt_succ_self _) (λz hz=> ?_)
 obtain⟨z1,z2,z3⟩:=hz
 have hl:=z3.len
 refine w_br (λh=> ?_) (λ_=>⟨⟨hb.1,Q0s _⟩,z3⟩)
 have h:=of_decide_eq_true h
 have e:IntKind.wrap IntKind.i64 (IntKind.wrap IntKind.i64 (IntKind.wrap IntKind.i64 v*32)+z.1)=v*32+z.1:=by rw[IntKind.wrap_i64,IntKind.wrap_i64,IntKind.wrap_i64];omega
 refine w_cn (by rw[e];simp [Nat.blt];omega) (w_nx ?_)
 show(0<=IntKind.i64.wrap (z.1+1)/\IntKind.i64.wrap (z.1+1)<=32/\Q1 P (List.set _ _ _))/\(32-IntKind.i64.wrap (z.1+1)).toNat<(32-z.1).toNat
 have ew:IntKind.i64.wrap (z.1+1)=z.1+1:=by rw[IntKind.wrap_i64];omega
 rw[ew]
 exact⟨⟨by omega,by omega,⟨by simp [hl],z3.p1,z3.p2,Z2w z3.u U_0 _⟩⟩,by omega⟩
structure okM(P:Nat)(m:Q00):Prop where
 cpu:Q2b m.B2
 mem:Q1 P m.Mem
 disk:Q8i m.B1
 nic:Qig m.C5
 target:okB m.A2
 cnt:0<=m.A1
theorem Qyt(c:Q0b)(port:Int):U (Q4y c port).2:=by
 refine Tree.post (Q38 c port) (W:=λr=>U r.2) ?_
 have u1:U 4294967295:=⟨by omega,by omega⟩
 unfold Q38
 refine w_br (λ_=>w_br (λ_=>u1) (λh=>w_br (λ_=>w_cn ?_ (w_cn ?_ (Q0s _))) (λ_=>w_br (λ_=>Q0s _) (λ_=>U_0)))) (λh1=>w_br (λh=>(by rw[h1]at h;cases h)) (λ_=>w_br (λ_=>Q0s _) (λ_=>U_0)))
 . have h: ¬(c.D3.length:Int)=0:=by simpa using h
   exact decide_eq_true ⟨by omega,by omega,by omega⟩
 . have h: ¬(c.D3.length:Int)=0:=by simpa using h
   simp [Nat.blt];omega
theorem zw{n:Q0q}(h:Qig n)(port:Int):U (Qge n port):=by
 refine Tree.post (Qey n port) (W:=U) ?_
 have u1:U 1:=⟨by omega,by omega⟩
 unfold Qey
 exact w_br (λ_=>h.frame) (λ_=>w_br (λ_=>h.got) (λ_=>w_br (λ_=>w_br (λ_=>w_br (λ_=>Q0s _) (λ_=>u1)) (λ_=>w_br (λ_=>Q0s _) (λ_=>U_0))) (λ_=>U_0)))
theorem Zhi{d:Q0f}(h:Q8i d)(port:Int):U (Qgm d port):=by
 refine Tree.post (Qfv d port) (W:=U) ?_
 unfold Qfv
 exact w_br (λ_=>h.block) (λ_=>w_br (λ_=>h.frame) (λ_=>w_br (λ_=>Q0s _) (λ_=>U_0)))
theorem Zad(t:Q0g):U (Qe5 t):=by
 refine Tree.post (Qdv t) (W:=U) ?_
 unfold Qdv
 exact w_br (λ_=>⟨by omega,by omega⟩) (λ_=>U_0)
theorem Qzx{b:Q07}(h:U b.D0)(port:Int):U (Q5 b port):=by
 refine Tree.post (Q5p b port) (W:=U) ?_
 unfold Q5p
 exact w_br (λ_=>h) (λ_=>w_br (λ_=>w_lv λ_ _=>Q0s _) (λ_=>U_0))
structure okR(P:Nat)(r:Q01):Prop where
 m:okM P r.A0
 clock:U r.A9
structure okL(P:Nat)(r x:Q01):Prop where
 ok:okR P x
 log:x.C0=r.C0
 queue:x.A6=r.A6
theorem w0(x:Int):0<=IntKind.u64.wrap x:=by rw[IntKind.wrap_u64];omega
section
variable {P:Nat} {r:Q01} (h:okR P r)
include h
theorem in_w(port:Int){clock:Int}(hc:U clock):(Qhm r port clock).w (λx=>U x.1/\okL P r x.2):=by
 have k:okL P r r:=⟨h,rfl,rfl⟩
 obtain⟨⟨h1,h2,h3,h4,h5,h7⟩,h6⟩:=h
 unfold Qhm
 exact w_br (λ_=>w_lv λx hx=>⟨hx▸Qyt _ _,⟨⟨⟨h1,h2,h3,h4,h5,h7⟩,h6⟩,rfl,rfl⟩⟩) (λ_=>w_br (λ_=>⟨hc,k⟩) (λ_=>w_br (λ_=>w_lv λx hx=>⟨hx▸Zad _,k⟩) (λ_=>w_br (λ_=>w_lv λx hx=>⟨hx▸Zhi h3 _,k⟩) (λ_=>w_br (λ_=>w_lv λx hx=>⟨hx▸zw h4 _,k⟩) (λ_=>w_lv λx hx=>⟨hx▸Qzx h5.1 _,k⟩)))))
theorem out_w(port:Int){v:Int}(hv:U v):(Qba r port v).w (λx=>x.1.length<=1/\okL P r x.2):=by
 have k:okL P r r:=⟨h,rfl,rfl⟩
 obtain⟨⟨h1,h2,h3,h4,h5,h7⟩,h6⟩:=h
 unfold Qba
 exact w_br (λ_=>⟨Nat.le_refl _,k⟩) (λ_=>w_br (λ_=>⟨Nat.zero_le _,k⟩) (λ_=>w_br (λ_=>w_lv λ_ _=>⟨Nat.zero_le _,⟨⟨⟨h1,h2,h3,h4,h5,h7⟩,h6⟩,rfl,rfl⟩⟩) (λ_=>w_br (λ_=>Q0e (Zcf h2 h3 _ hv _) λx hx=>⟨hx.2,⟨⟨⟨h1,h2,hx.1,h4,h5,h7⟩,h6⟩,rfl,rfl⟩⟩) (λ_=>w_br (λ_=>Q0e (Zhu h2 h4 _ hv _) λx hx=>⟨hx.2,⟨⟨⟨h1,h2,h3,hx.1,h5,h7⟩,h6⟩,rfl,rfl⟩⟩) (λ_=>Q0e (xZ h2 h5 _ hv) λx hx=>⟨Nat.zero_le _,⟨⟨⟨h1,hx.2,h3,h4,hx.1,h7⟩,h6⟩,rfl,rfl⟩⟩)))))
theorem Qrp{clock:Int}(hc:U clock):(Q5q r clock).w (λx=>x.1.length<=1/\okL P r x.2):=by
 obtain⟨⟨h1,h2,h3,h4,h5,h7⟩,h6⟩:=h
 unfold Q5q
 refine Q0e (Qkx h1) λx0 c0=>Q0e (do_w c0 h2) λx1 hx=> ?_
 obtain⟨c1,v1,m1⟩:=hx
 refine w_br (λ_=>Z9p (in_w (r:=⟨⟨_,_,_,_,_,_,_,_,_,_⟩,_,_,_⟩) ⟨⟨c1,m1,h3,h4,h5,h7⟩,h6⟩ _ hc) λx2 hx=> ?_) (λ_=>w_br (λ_=>Q0e (out_w (r:=⟨⟨_,_,_,_,_,_,_,_,_,_⟩,_,_,_⟩) ⟨⟨c1,m1,h3,h4,h5,h7⟩,h6⟩ _ v1) λx4 hx=> ?_) (λ_=> ?_))
 . obtain⟨u,⟨⟨⟨k1,k2,k3,k4,k5,k7⟩,k6⟩,e1,e2⟩⟩:=hx
   exact Q0e (Z3j k1 _ u) λx3 h3=>⟨Nat.zero_le _,⟨⟨⟨h3,k2,k3,k4,k5,w0 _⟩,k6⟩,e1,e2⟩⟩
 . obtain⟨u,⟨⟨⟨k1,k2,k3,k4,k5,k7⟩,k6⟩,e1,e2⟩⟩:=hx
   exact⟨u,⟨⟨⟨k1,k2,k3,k4,k5,w0 _⟩,k6⟩,e1,e2⟩⟩
 . repeat'(first
     |exact⟨Nat.zero_le _,⟨⟨⟨c1,m1,h3,h4,h5,w0 _⟩,h6⟩,rfl,rfl⟩⟩
     |refine w_br (λ_=> ?_) (λ_=> ?_))
end
theorem zZ(c:Q0b)(b:Int):(Qax c b).w (λ_=>True):=by
 unfold Qax
 refine w_br (λ_=>trivial) (λh=>w_cn (decide_eq_true ?_) trivial)
 have h:=of_decide_eq_false h
 simp [maxLen];omega
theorem Zil{P:Nat}{m:List Int}(hm:Q1 P m){n:Q0q}(hn:Qig n)(frame:List UInt8):(Q68 n m frame).w (λr=>Qig r.1/\Q1 P r.2.2):=by
 unfold Q68
 refine w_br (λ_=>⟨hn,hm⟩) (λ_=>w_br (λ_=>⟨hn,hm⟩) (λ_=>w_br (λ_=>⟨hn,hm⟩) (λ_=>w_lv λx0 hx=>w_br (λ_=>⟨hn,hm⟩) (λhb=> ?_))))
 have hp:Q1z m n.C1=true:=hx.symm.trans (by simpa using hb)
 rw[Qlc hm hn.buffer]at hp
 have hp:=of_decide_eq_true hp
 obtain⟨b1,b2⟩:=hn.buffer
 have ew:IntKind.i64.wrap n.C1=n.C1:=by rw[IntKind.wrap_i64];omega
 exact Q0e (zY hm (frame:=IntKind.i64.wrap n.C1) (by rw[ew];exact b1) (by rw[ew];exact hp) frame) λx hx=>⟨⟨hn.frame,hn.len,U_0,Q0s _⟩,hx⟩
section
variable {P:Nat} {r:Q01} (h:okR P r)
include h
theorem xax{e:Q0d}(he:U e.N):(Q8b r e).w (λx=>okL P r x.2):=by
 have k:okL P r r:=⟨h,rfl,rfl⟩
 obtain⟨⟨h1,h2,h3,h4,h5,h7⟩,h6⟩:=h
 unfold Q8b
 repeat'(first
   |exact k
   |exact⟨⟨⟨h1,h2,h3,h4,⟨he,h5.2⟩,h7⟩,h6⟩,rfl,rfl⟩
   |exact w_lv λ_ _=>⟨⟨⟨h1,h2,h3,h4,h5,h7⟩,h6⟩,rfl,rfl⟩
   |exact Q0e (zZ _ _) λ_ _=>⟨⟨⟨h1,h2,h3,h4,h5,h7⟩,h6⟩,rfl,rfl⟩
   |exact Q0e (Zhh h2 h3 _) λx hx=>⟨⟨⟨h1,hx.2,hx.1,h4,h5,h7⟩,h6⟩,rfl,rfl⟩
   |exact Q0e (Zil h2 h4 _) λx hx=>⟨⟨⟨h1,hx.2,h3,hx.1,h5,h7⟩,h6⟩,rfl,rfl⟩
   |refine w_br (λ_=> ?_) (λ_=> ?_))
theorem yw{e:Q0d}(he:U e.N)(hl:r.C0.length<=1000000):(Qa1 r e).w (λx=>okR P x/\x.C0.length<=r.C0.length+1/\x.A6=r.A6):=by
 have acc:(Q6p r e).w (λx=>okL P r x.2):=by
   unfold Q6p
   exact Q0e (xax h he) λx hx=>hx
 unfold Qa1
 refine Q0e acc λx hx=> ?_
 obtain⟨⟨k1,k2⟩,e1,e2⟩:=hx
 refine w_br (λ_=>w_cn (decide_eq_true (by rw[e1];omega)) ⟨⟨k1,k2⟩,by simp [e1],e2⟩) (λ_=>⟨⟨k1,k2⟩,by rw[e1];omega,e2⟩)
theorem own_w(hl:r.C0.length<=1000000)(hq:r.A6.length<=1000000):(Qd9 r).w (λx=>okR P x/\x.C0=r.C0/\x.A6=r.A6):=by
 have ow:(Qbe r.A0).w (λm=>okM P m):=by
   obtain⟨⟨h1,h2,h3,h4,h5,h7⟩,h6⟩:=h
   unfold Qbe
   exact Q0e (xY h2) λx hx=>⟨h1,by rw[hx];exact h2,h3,h4,h5,h7⟩
 unfold Qd9
 refine Q0e ow λx hx=>w_cn (decide_eq_true (by simp;omega)) (w_cn (decide_eq_true (by simp;omega)) ⟨⟨hx,h.clock⟩,rfl,rfl⟩)
theorem yT(e:Q0d)(hl:r.C0.length<=1000000)(hq:r.A6.length<=16)(hu: ∀q∈r.A6,U q.N)(he:U e.N):(Q8c r e).w (λx=>okR P x.1/\x.1.C0=r.C0/\x.1.A6.length<=16/\ ∀q∈x.1.A6,U q.N):=by
 unfold Q8c
 refine Q0e (own_w h hl (by omega)) λx hx=> ?_
 obtain⟨k1,k2,k3⟩:=hx
 have g:okR P x/\x.C0=r.C0/\x.A6.length<=16/\ ∀q∈x.A6,U q.N:=⟨k1,k2,by rw[k3];exact hq,by rw[k3];exact hu⟩
 refine w_lv λx1 _=>w_br (λ_=>g) (λ_=>w_br (λ_=>g) (λ_=>w_br (λ_=>g) (λhb=>w_cn (decide_eq_true (by rw[k3];omega)) ?_)))
 have hb:=of_decide_eq_false hb
 refine⟨⟨k1.m,k1.clock⟩,k2,?_,?_⟩
 . show(x.A6++[e]).length<=16
   rw[List.length_append];simp at hb⊢;omega
 . intro q hq
   have hq:q∈x.A6++[e]:=hq
   rw[List.mem_append]at hq
   rcases hq with hq|hq
   . exact hu q (k3▸hq)
   . rw[List.mem_singleton.1 hq];exact he
end
theorem vw(n:Int):(Q9d n).w (λe=>U e.N):=by
 have u1:U 1:=⟨by omega,by omega⟩
 have ev40: ∀x y,Q9k x (IntKind.wrap .i64 (1+Int.tmod y 40)):=λx y=>by
   show IntKind.wrap .i64 (1+Int.tmod y 40)<=1000000000000
   have h1:=Int.tmod_lt_of_pos y (b:=40) (by decide)
   have h2:=Int.lt_tmod_of_pos y (b:=40) (by decide)
   rw[IntKind.wrap_i64];omega
 unfold Q9d
 refine w_lv λx0 _=> ?_
 repeat'(first
   |exact U_0
   |exact u1
   |exact Q0s _
   |exact w_an (show(128:Int)<=1000000000000 by decide) (w_lv λ_ _=>u1)
   |exact w_an (ev40 _ _) (w_lv λ_ _=>U_0)
   |refine w_br (λ_=> ?_) (λ_=> ?_))
end Go.Proofs.YtjaifpiopmhmlaaGreat

/-
  A part of the proof.
-/
import Derived.Test.YtjaifpiopmhmlaaGreatBareWaitsYe
import Derived.Test.YtjaifpiopmhmlaaGreatBareWaitsZa
import Derived.Test.YtjaifpiopmhmlaaGreatBareWaitsZb
import Derived.Test.YtjaifpiopmhmlaaGreatBareWaitsZg
set_option maxRecDepth 100000
set_option linter.unusedVariables false
set_option linter.unusedSimpArgs false
namespace Go.Proofs.YtjaifpiopmhmlaaGreat
open Go Go.GD
def U(x:Int):Prop:=0≤x∧x<4294967296
theorem Q0k(x:Int):U (IntKind.u32.wrap x):=by rw[IntKind.wrap_u32];unfold U;omega
theorem Z66(x y:Int):U (iand .u32 x y):=Q0k _
theorem U_or(x y:Int):U (ior .u32 x y):=Q0k _
theorem U_0:U 0:=⟨by omega,by omega⟩
theorem Qvo{m:List Int}(h: ∀w∈m,U w){v:Int}(hv:U v)(i:Nat): ∀w∈m.set i v,U w:=by
 intro w hw
 rcases List.mem_or_eq_of_mem_set hw with h1|h1
 · exact h w h1
 · rw[h1];exact hv
structure Q0u(P:Nat)(m:List Int):Prop where
 len:m.length=32*P
 p1:0≤P
 p2:P≤32
 u: ∀w∈m,U w
structure Q7i(d:Q0a):Prop where
 block:U d.B5
 frame:U d.B0
 opBlock:U d.B4
 opFrame:U d.A9
structure Qf9(n:Q0n):Prop where
 frame:U n.B0
 len:U n.D9
 buffer:U n.B9
 got:U n.F0
theorem Qgz{l:List Int}(h: ∀w∈l,U w)(i:Nat):U (l.getD i 0):=by
 by_cases hi:i<l.length
 · have:l.getD i 0=l[i]:=by simp [List.getD,hi]
   rw[this];exact h _ (List.getElem_mem hi)
 · have:l.getD i 0=0:=by simp [List.getD,List.getElem?_eq_none (by omega:l.length≤i)]
   rw[this];exact U_0
structure Q2p(c:Q02):Prop where
 x: ∀w∈A16.l c.X,U w
 pc:U c.Pc
 csr: ∀w∈A8.l c.B3,U w
theorem Z4w{X:A16 Int}(h: ∀w∈A16.l X,U w){v:Int}(hv:U v)(i:Nat): ∀w∈A16.l (A16.of 0 (List.set (A16.l X) i v)),U w:=by
 have hs:=Qvo h hv i
 intro w hw
 simp only[A16.l,A16.of,List.mem_cons,List.not_mem_nil,or_false]at hw
 repeat(first|(rcases hw with rfl|hw; · exact Qgz hs _)|(subst hw;exact Qgz hs _))
theorem Z2k{X:A8 Int}(h: ∀w∈A8.l X,U w){v:Int}(hv:U v)(i:Nat): ∀w∈A8.l (A8.of 0 (List.set (A8.l X) i v)),U w:=by
 have hs:=Qvo h hv i
 intro w hw
 simp only[A8.l,A8.of,List.mem_cons,List.not_mem_nil,or_false]at hw
 repeat(first|(rcases hw with rfl|hw; · exact Qgz hs _)|(subst hw;exact Qgz hs _))
section
variable {c:Q02} (h:Q2p c)
include h
theorem Q2p.a(i:Nat):U ((A8.l c.B3).getD i 0):=Qgz h.csr i
theorem Q2p.r(i:Nat):U ((A16.l c.X).getD i 0):=Qgz h.x i
theorem Q2p.a0:U c.B3.a0:=h.a 0
theorem Q2p.a1:U c.B3.a1:=h.a 1
theorem Q2p.a2:U c.B3.a2:=h.a 2
theorem Q2p.a3:U c.B3.a3:=h.a 3
theorem Q2p.a4:U c.B3.a4:=h.a 4
theorem Q2p.a5:U c.B3.a5:=h.a 5
theorem Q2p.a6:U c.B3.a6:=h.a 6
theorem Q2p.a7:U c.B3.a7:=h.a 7
theorem Q2p.pcs{p:Int}(hp:U p):Q2p {X:=c.X,Pc:=p,B3:=c.B3}:=⟨h.x,hp,h.csr⟩
end
section
variable {α β:Type} {W:β→Prop} {t:Tree α} {Q:α→Prop} {k:α→Tree β}
theorem Q0c(hq:t.w Q)(g: ∀x,Q x→(k x).w W):(Tree.an t.p (Tree.lv t.m k)).w W:=⟨(Tree.pp hq).1,λy hy=>g y (by rw[hy];exact(Tree.pp hq).2)⟩
theorem Z8h(hq:t.w Q)(g: ∀x,Q x→(k x).w W):(Tree.lv t.m k).w W:=λy hy=>g y (by rw[hy];exact t.post hq)
end
theorem rc{r:Int}(h:0≤r∧r<16):(Nat.blt 0 1&&decide (0≤r∧r<((16:Nat):Int)))=true:=by simp [Nat.blt];omega
theorem Qo2{a:Int}(h:U a)(b:Int):U (ishr .u32 a b):=by
 unfold ishr U
 obtain⟨h1,h2⟩:=h
 have hp:(0:Int)<2^(min b.toNat IntKind.u32.bits):=Int.pow_pos (by decide)
 have:=Int.fdiv_nonneg h1 (Int.le_of_lt hp)
 refine⟨this,?_⟩
 rw[Int.fdiv_eq_ediv_of_nonneg _ (Int.le_of_lt hp)]
 have h3:=Int.ediv_le_self (2^(min b.toNat IntKind.u32.bits)) h1
 omega
structure Qcc(i:Q0f):Prop where
 a:0≤i.A∧i.A<16
 b:0≤i.B∧i.B<16
 c:0≤i.C∧i.C<16
 csr:i.Op=58→0≤i.Imm∧i.Imm<8
theorem Qsq{P:Nat}{m:List Int}(h:Q0u P m):Q0q m=P:=by
 obtain⟨h1,h2,h3,_⟩:=h
 simp only[Q0q,Q97,Tree.m]
 have e:(m.length:Int)=32*P:=by omega
 rw[e]
 have e1:(Int.tmod (32*(P:Int)) 32 !=0)=false:=by simp [Int.mul_tmod_right]
 have e2:decide ((32*(P:Int))>1024)=false:=decide_eq_false (by omega)
 rw[e1,e2]
 simp only[cond_false]
 rw[Int.mul_tdiv_cancel_left _ (by decide),IntKind.wrap_i64];omega
theorem mask_w(n:Int):(Q9g n).w (λ_=>True):=by
 unfold Q9g
 exact w_br (λ_=>trivial) (λ_=>w_cn (decide_eq_true (by rw[IntKind.wrap_u64];omega)) trivial)
theorem Qp4(w low n:Int):(Q80 w low n).w U:=by
 unfold Q80
 exact w_br (λ_=>U_0) (λ_=>w_br (λ_=>U_0) (λ_=>w_br (λ_=>U_0) (λ_=>w_cn (decide_eq_true (by rw[IntKind.wrap_u64];omega)) (Q0c (mask_w n) λ_ _=>Z66 _ _))))
theorem Zaa{w:Int}(hw:U w)(low n v:Int):(Q4x w low n v).w U:=by
 have h0:decide (0≤IntKind.wrap IntKind.u64 low)=true:=decide_eq_true (by rw[IntKind.wrap_u64];omega)
 unfold Q4x
 exact w_br (λ_=>hw) (λ_=>w_br (λ_=>hw) (λ_=>w_br (λ_=>hw) (λ_=>Q0c (mask_w n) λ_ _=>w_cn h0 (w_cn h0 (U_or _ _)))))
theorem Qoe{x:Int}(hx:U x)(n:Int):(Q3a x n).w U:=by
 have h0: ∀y,decide (0≤IntKind.wrap IntKind.u64 y)=true:=λy=>decide_eq_true (by rw[IntKind.wrap_u64];omega)
 unfold Q3a
 exact w_br (λ_=>U_0) (λ_=>w_br (λ_=>hx) (λ_=>w_cn (h0 _) (w_cn (h0 _) (Q0k _))))
section
variable {P:Nat} {m:List Int} (h:Q0u P m)
include h
theorem Q6z:Q03 m:=by
 have:=h.len
 have:=h.p2
 show m.length≤35184372088832
 omega
theorem Z1f{a:Int}(ha:U a){size:Int}(hs:size=1∨size=4):(Q2x m a size).w (λb=>b=true→a+size≤128*P):=by
 have hp:=Qsq h
 have h2:=h.p2
 obtain⟨a1,a2⟩:=ha
 have e:decide (IntKind.wrap IntKind.u32 size≠0)=true:=by rcases hs with rfl|rfl<;>decide
 have l: ∀x,x=Q0q m→decide (IntKind.wrap IntKind.u64 (IntKind.wrap IntKind.u64 a+IntKind.wrap IntKind.u64 size)≤IntKind.wrap IntKind.u64 (IntKind.wrap IntKind.u64 x*128))=true→a+size≤128*P:=λx hx hd=>by
   rw[hx,hp]at hd
   have:=of_decide_eq_true hd
   simp only[IntKind.wrap_u64]at this
   omega
 unfold Q2x
 refine w_br (λ_=>w_br (λ_=>λh=>by cases h) (λ_=> ?_)) (λ_=> ?_)<;>
 exact w_cn e (w_br (λ_=>λh=>by cases h) (λ_=>w_lv λx hx=>l x hx))
theorem idxP{a:Int}(ha:U a)(hl:a<128*P):(Nat.beq 1 1&&Nat.blt 0 1&&decide (0≤IntKind.wrap IntKind.u32 (Int.tdiv a 4)∧IntKind.wrap IntKind.u32 (Int.tdiv a 4)<(m.length:Int)))=true:=by
 obtain⟨a1,a2⟩:=ha
 have e:IntKind.wrap IntKind.u32 (Int.tdiv a 4)=a/4:=by rw[IntKind.wrap_u32,Int.tdiv_eq_ediv_of_nonneg a1];omega
 have:=h.len
 rw[e];simp [Nat.blt];omega
theorem Qlv{a:Int}(ha:U a){size:Int}(hs:size=1∨size=4):(Q3j m a size).w (λr=>U r.1∧(r.2=true→a<128*P)):=by
 unfold Q3j
 refine Q0c (Z1f h ha hs) λx hx=>w_br (λ_=>⟨U_0,λh=>by cases h⟩) (λhb=> ?_)
 have hl:=hx (by simpa using hb)
 have hl:a<128*P:=by omega
 exact w_cn (idxP h ha hl) (w_br (λ_=>Q0c (Qp4 _ _ _) λy hy=>⟨hy,λ_=>hl⟩) (λ_=>⟨Qgz h.u _,λ_=>hl⟩))
theorem Qrn{a:Int}(ha:U a){size:Int}(hs:size=1∨size=4){v:Int}(hv:U v):(Q4f m a size v).w (λr=>Q0u P r.1):=by
 have st: ∀i v,U v→Q0u P (m.set i v):=λi v hv=>⟨by simp [h.len],h.p1,h.p2,Qvo h.u hv i⟩
 have hcl:Q01 m=m:=rfl
 unfold Q4f
 refine w_an (Q6z h) (w_lv λx0 hx0=> ?_)
 rw[hcl]at hx0;subst hx0
 refine Q0c (Z1f h ha hs) λx hx=>w_br (λ_=>h) (λhb=> ?_)
 have hl:=hx (by simpa using hb)
 have hl:a<128*P:=by omega
 exact w_br (λ_=>w_cn (idxP h ha hl) (Q0c (Zaa (Qgz h.u _) _ _ _) λy hy=>w_cn (idxP h ha hl) (st _ _ hy))) (λ_=>w_cn (idxP h ha hl) (st _ _ hv))
end
theorem Z5q{r:Int}{used:Bool}(h:Q7w r used=true):0≤r∧r<16:=by
 simp only[Q7w,Qbj,Tree.m]at h
 cases used
 · have h:(r==0)=true:=h
   have:=eq_of_beq h;omega
 · cases h1:decide (r≥0)<;>rw[h1]at h
   · cases h
   · have h1:=of_decide_eq_true h1
     have h:=of_decide_eq_true h
     omega
theorem validP_ok{i:Q0f}(h:Qc2 i=true):Qcc i:=by
 have no:false=true→Qcc i:=λh=>by cases h
 refine(Tree.post (Qen i) (W:=λb=>b=true→Qcc i) ?_) h
 unfold Qen
 refine w_lv λx0 h0=>w_br (λ_=>w_lv λx1 h1=>w_br (λb1=>w_lv λx2 h2=>w_br (λb2=>w_lv λx3 h3=>w_br (λb3=>w_br (λb4=>λb5=> ?_) (λ_=>no)) (λ_=>no)) (λ_=>no)) (λ_=>no)) (λ_=>no)
 have b4:=of_decide_eq_true b4
 have b5:=of_decide_eq_true b5
 refine⟨Z5q (h1.symm.trans b1),Z5q (h2.symm.trans b2),Z5q (h3.symm.trans b3),λe=> ?_⟩
 rw[e]at h0
 have h0:x0=({a:=true,b:=false,c:=false,low:=0,D1:=7},true):=h0
 subst h0
 simp at b4 b5;omega
theorem Qtu(w:Int):(Q4h w).w (λr=>r.2=true→Qcc r.1):=by
 have no: ∀{p:Prop},false=true→p:=λh=>by cases h
 have l: ∀i,(Tree.lv (Qc2 i) λx=> .br (!x) (.lf ((⟨0,0,0,0,0⟩:Q0f),false)) (.lf (i,true))).w (λr=>r.2=true→Qcc r.1):=λi=>w_lv λx hx=>w_br (λ_=>no) (λhb=>λ_=>validP_ok (hx.symm.trans (by simpa using hb)))
 unfold Q4h
 exact Q0c (Qp4 _ _ _) λx0 _=>Q0c (Qp4 _ _ _) λx1 _=>Q0c (Qp4 _ _ _) λx2 _=>w_lv λx3 _=>w_br (λ_=>no) (λ_=>Q0c (Qp4 _ _ _) λx4 h4=>w_br (λ_=>l _) (λ_=>w_br (λ_=>Q0c (Qoe h4 _) λx6 _=>l _) (λ_=>l _)))
section
variable {P:Nat} {m:List Int} (h:Q0u P m)
include h
theorem pageP_eq{f:Int}(hf:U f):Q89 m f=decide (f<P):=by
 have:=Qsq h
 obtain⟨h1,h2⟩:=hf
 have h3:=h.p2
 simp only[Q89,Qel,Tree.m,letv,this]
 congr 1
 rw[IntKind.wrap_u64,IntKind.wrap_u64,Int.emod_eq_of_lt h1 (by omega),Int.emod_eq_of_lt (by omega) (by omega)]
theorem walkP_w{root va:Int}(hv:U va)(access:Int):(Q5b m root va access).w (λt=>U t.Addr∧U t.E0):=by
 have bad:U (0:Int)∧U (0:Int):=⟨U_0,U_0⟩
 have fr: ∀x,(Q41 x).w U:=λx=>by
   unfold Q41
   exact Q0c (Qp4 _ _ _) λy hy=>hy
 unfold Q5b
 exact w_lv λx0 _=>w_br (λ_=>bad) (λ_=>w_br (λ_=>bad) (λ_=>w_lv λx1 _=>w_br (λ_=>bad) (λ_=>Q0c (Qlv h (Q0k _) (.inr rfl)) λx2 _=>w_br (λ_=>bad) (λ_=>w_lv λx3 _=>w_br (λ_=>bad) (λ_=>Q0c (fr _) λx4 _=>w_lv λx5 _=>w_br (λ_=>bad) (λ_=>Q0c (fr _) λx6 _=>⟨Q0k _,Q0k _⟩))))))
theorem touchP_w{a:Int}(ha:U a)(access:Int):(Q4j m a access).w (Q0u P):=by
 have hcl:Q01 m=m:=rfl
 unfold Q4j
 exact Q0c (Qlv h ha (.inr rfl)) λx0 _=>w_br (λ_=>w_an (Q6z h) (w_lv λx1 h1=>by rw[h1,hcl];exact h)) (λ_=>w_br (λ_=>Q0c (Qrn h ha (.inr rfl) (U_or _ _)) λx hx=>hx) (λ_=>Q0c (Qrn h ha (.inr rfl) (U_or _ _)) λx hx=>hx))
theorem Qgj{c:Q02}{va:Int}(hv:U va){size:Int}(hs:size=1∨size=4)(access:Int):(Q3e c m va size access).w (λr=>U r.1∧Q0u P r.2.1):=by
 have hcl:Q01 m=m:=rfl
 have e:decide (IntKind.wrap IntKind.u32 size≠0)=true:=by rcases hs with rfl|rfl<;>decide
 have cl: ∀(K:List Int→Int×List Int×Int),(∀x,x=m→U (K x).1∧Q0u P (K x).2.1)→(Tree.an (Q03 m) (.lv (Q01 m) λx=> .lf (K x))).w (λr=>U r.1∧Q0u P r.2.1):=λK hK=>w_an (Q6z h) (w_lv λx hx=>hK x (hx.trans hcl))
 have z: ∀(k:Nat) (x:List Int),x=m→U (0:Int)∧Q0u P x:=λ_ x hx=>⟨U_0,hx▸h⟩
 have v: ∀x,x=m→U va∧Q0u P x:=λx hx=>⟨hv,hx▸h⟩
 have main: ∀(x0:Int×Bool),(Tree.cn (decide (IntKind.wrap IntKind.u32 size≠0)) (.br (Int.tmod va (IntKind.wrap IntKind.u32 size) !=0) (.an (Q03 m) (.lv (Q01 m) λx3=> .lf ((0:Int),x3,(3:Int)))) (.lv (Q8l c) λx4=> .br (!x4) (.br (iand IntKind.u32 c.B3.a0 4 !=0) (.an (Qa7 m c.B3.a6 va access) (.lv (Qe7 m c.B3.a6 va access) λx5=> .br (x5.D8 !=0) (.an (Q03 m) (.lv (Q01 m) λx6=> .lf (0,x6,x5.D8))) (.an (Q99 m x5.E0 access) (.lv (Q9m m x5.E0 access) λx7=> .lf (x5.Addr,x7,0))))) (.an (Q2n m va size) (.lv (Q44 m va size) λx8=> .br (!x8.2) (.an (Q03 m) (.lv (Q01 m) λx9=> .lf (0,x9,x0.1))) (.an (Q03 m) (.lv (Q01 m) λx10=> .lf (va,x10,0)))))) (.an (Q2n m va size) (.lv (Q44 m va size) λx11=> .br (!x11.2) (.an (Q03 m) (.lv (Q01 m) λx12=> .lf (0,x12,x0.1))) (.an (Q03 m) (.lv (Q01 m) λx13=> .lf (va,x13,0)))))))).w (λr=>U r.1∧Q0u P r.2.1):=λx0=>
   w_cn e (w_br (λ_=>cl _ (z 0)) (λ_=>w_lv λx4 _=>w_br (λ_=>w_br (λ_=>Q0c (walkP_w h hv access) λx5 hx=>w_br (λ_=>cl _ (z 0)) (λ_=>Q0c (touchP_w h hx.2 access) λx7 h7=>⟨hx.1,h7⟩)) (λ_=>Q0c (Qlv h hv hs) λx8 _=>w_br (λ_=>cl _ (z 0)) (λ_=>cl _ v))) (λ_=>Q0c (Qlv h hv hs) λx8 _=>w_br (λ_=>cl _ (z 0)) (λ_=>cl _ v))))
 unfold Q3e
 exact w_lv λx0 _=>w_br (λ_=>cl _ (z 0)) (λ_=>w_br (λ_=>w_br (λ_=>cl _ (z 0)) (λ_=>main x0)) (λ_=>main x0))
theorem Z0p{c:Q02}(hc:Q2p c):(Q6r c m).w (λr=>U r.1∧Q0u P r.2.1):=by
 unfold Q6r
 exact Q0c (Qgj h hc.pc (.inr rfl) 1) λx0 h0=>w_br (λ_=>⟨U_0,h0.2⟩) (λ_=>Q0c (Qlv h0.2 h0.1 (.inr rfl)) λx1 h1=>⟨h1.1,h0.2⟩)
end
theorem moveP_w{s a b:Int}:U (Q7l s a b):=by
 refine Tree.post (Qkd s a b) (W:=U) ?_
 unfold Qkd
 exact w_br (λ_=>Q0k _) (λ_=>Q0k _)
section
variable {c:Q02} (h:Q2p c)
include h
theorem Qim(k:Int){b:Int}(hb:U b):Q2p (Q3x c k b):=by
 refine(Tree.post (Qgc c k b) (W:=Q2p) ?_)
 unfold Qgc
 refine w_lv λ_ _=>w_lv λ_ _=>⟨h.x,h.a1,?_⟩
 intro w hw
 simp only[A8.l,List.mem_cons,List.not_mem_nil,or_false]at hw
 rcases hw with rfl|rfl|rfl|rfl|rfl|rfl|rfl|rfl
 · exact Q0k _
 · exact h.a1
 · exact h.pc
 · exact Q0k _
 · exact hb
 · exact h.a5
 · exact h.a6
 · exact h.a7
theorem returnP_w:Q2p (Qb2 c):=by
 refine(Tree.post (Qc6 c) (W:=Q2p) ?_)
 unfold Qc6
 refine w_lv λx0 _=>w_lv λx1 h1=>⟨h.x,h.a2,?_⟩
 intro w hw
 simp only[A8.l,List.mem_cons,List.not_mem_nil,or_false]at hw
 rcases hw with rfl|rfl|rfl|rfl|rfl|rfl|rfl|rfl
 · rw[h1];exact moveP_w
 · exact h.a1
 · exact h.a2
 · exact h.a3
 · exact h.a4
 · exact h.a5
 · exact h.a6
 · exact h.a7
theorem Ql7{r:Int}(hr:0≤r∧r<16){v:Int}(hv:U v):(Q7m c r v).w Q2p:=by
 unfold Q7m
 exact w_br (λ_=>w_cn (rc hr) ⟨Z4w h.x hv _,h.pc,h.csr⟩) (λ_=>h)
theorem Z8a(k:Int){v:Int}(hv:U v):(Q6i c k v).w Q2p:=by
 have ok: ∀i v,U v→Q2p {X:=c.X,Pc:=c.Pc,B3:=A8.of 0 (List.set (A8.l c.B3) i v)}:=λi v hv=>⟨h.x,h.pc,Z2k h.csr hv i⟩
 unfold Q6i
 repeat'(first
   |exact h
   |exact ok _ _ (Q0k _)
   |exact ok _ _ hv
   |refine w_br (λhk=> ?_) (λ_=> ?_)
   |refine w_cn (by rw[eq_of_beq (by assumption:(k==_)=true)];decide) ?_)
end
theorem Z4b{a b:Int}(ha:U a)(hb:U b):(Q5a a b).w (λr=>U r.1∧U r.2):=by
 have u1:U 4294967295:=⟨by omega,by omega⟩
 unfold Q5a
 refine w_br (λ_=>⟨u1,ha⟩) (λh=> ?_)
 have h: ¬b=0:=by simpa using h
 obtain⟨b1,b2⟩:=hb
 have hc:decide (IntKind.wrap IntKind.i32 b≠0)=true:=decide_eq_true (by rw[IntKind.wrap_i32];omega)
 exact w_br (λ_=>w_br (λ_=>⟨ha,U_0⟩) (λ_=>w_cn hc (w_cn hc ⟨Q0k _,Q0k _⟩))) (λ_=>w_cn hc (w_cn hc ⟨Q0k _,Q0k _⟩))
theorem truth_w(b:Bool):U (Qjc b):=by cases b<;>exact⟨by decide,by decide⟩
theorem Qxf(op:Int){a b:Int}(ha:U a)(hb:U b):(Qe8 op a b).w (λr=>U r.1):=by
 unfold Qe8
 repeat'(first
   |refine w_br (λ_=> ?_) (λ_=> ?_)
   |exact Q0c (Z4b ha hb) λx hx=>hx.1
   |exact Q0c (Z4b ha hb) λx hx=>hx.2
   |exact w_lv λx hx=>(by rw[hx];exact truth_w _)
   |refine w_lf ?_)
 all_goals(first
   |exact Q0k _
   |exact Qo2 ha _
   |exact U_0)
theorem Z03(op:Int):Qc3 op=1∨Qc3 op=4:=by
 simp only[Qc3,Qlj,Tree.m]
 cases op==32<;>cases op==35<;>simp
section
variable {c:Q02} (h:Q2p c) {i:Q0f} (hi:Qcc i)
include h hi
theorem Zab:(Q3 c i).w (λr=>Q2p r.1∧U r.2.Value):=by
 have k: ∀{x:Q02} {p:Int},Q2p x→U p→Q2p {X:=x.X,Pc:=p,B3:=x.B3}:=λhx hp=>⟨hx.x,hp,hx.csr⟩
 unfold Q3
 refine w_cn (rc hi.a) (w_cn (rc hi.b) ?_)
 repeat'(first
   |refine w_br (λ_=> ?_) (λ_=> ?_)
   |exact Q0c (Ql7 h hi.a (Q0k _)) λx hx=>⟨k hx (Q0k _),U_0⟩
   |exact w_lv λx _=>w_br (λ_=>⟨k h (Q0k _),U_0⟩) (λ_=>⟨k h (Q0k _),U_0⟩)
   |exact w_lv λx hx=>⟨by rw[hx];exact Qim h _ U_0,U_0⟩
   |exact w_lv λx hx=>⟨by rw[hx];exact returnP_w h,U_0⟩
   |exact w_cn (by have:=hi.csr (by simp_all);simp [Nat.blt];omega) (Q0c (Ql7 h hi.a (h.a _)) λx hx=>⟨k hx (Q0k _),U_0⟩)
   |exact Q0c (Z8a h _ (h.r _)) λx hx=>⟨k hx (Q0k _),U_0⟩
   |refine w_cn (rc hi.c) ?_
   |exact Q0c (Qxf _ (h.r _) (Q0k _)) λy hy=>Q0c (Ql7 h hi.a hy) λx hx=>⟨k hx (Q0k _),U_0⟩
   |exact Q0c (Qxf _ (h.r _) (h.r _)) λy hy=>Q0c (Ql7 h hi.a hy) λx hx=>⟨k hx (Q0k _),U_0⟩
   |refine w_lf ?_)
 all_goals(first
   |exact⟨k h (Q0k _),U_0⟩
   |exact⟨k h (Q0k _),h.r _⟩)
theorem Qsf{P:Nat}{m:List Int}(hm:Q0u P m):(Q8a c m i).w (λr=>Q2p r.1∧Q0u P r.2):=by
 have w:=Z03 i.Op
 unfold Q8a
 refine w_cn (rc hi.b) (w_lv λx0 h0=> ?_)
 rw[←h0]at w
 refine Q0c (Qgj hm (Q0k _) w 2) λx1 h1=>w_br (λ_=>w_lv λy hy=>⟨by rw[hy];exact Qim h _ (Q0k _),h1.2⟩) (λ_=>w_lv λx3 h3=> ?_)
 rw[h0,←h3]at w
 exact Q0c (Qlv h1.2 h1.1 w) λx4 h4=>w_br (λ_=>Q0c (Qoe h4.1 8) λy hy=>Q0c (Ql7 h hi.a hy) λx hx=>⟨⟨hx.x,Q0k _,hx.csr⟩,h1.2⟩) (λ_=>Q0c (Ql7 h hi.a h4.1) λx hx=>⟨⟨hx.x,Q0k _,hx.csr⟩,h1.2⟩)
theorem Qpx{P:Nat}{m:List Int}(hm:Q0u P m):(Q6n c m i).w (λr=>Q2p r.1∧Q0u P r.2):=by
 have w:=Z03 i.Op
 unfold Q6n
 refine w_cn (rc hi.b) (w_lv λx0 h0=> ?_)
 rw[←h0]at w
 refine Q0c (Qgj hm (Q0k _) w 3) λx1 h1=>w_br (λ_=>w_lv λy hy=>⟨by rw[hy];exact Qim h _ (Q0k _),h1.2⟩) (λ_=>w_lv λx3 h3=>w_cn (rc hi.a) ?_)
 rw[h0,←h3]at w
 exact Q0c (Qrn h1.2 h1.1 w (h.r _)) λx hx=>⟨⟨h.x,Q0k _,h.csr⟩,hx⟩
end
theorem execP_w{c:Q02}(h:Q2p c){P:Nat}{m:List Int}(hm:Q0u P m):(Q4l c m).w (λr=>Q2p r.1∧Q0u P r.2.1∧U r.2.2.Value):=by
 unfold Q4l
 refine Q0c (Z0p hm h) λx0 h0=>w_br (λ_=>w_lv λy hy=>⟨by rw[hy];exact Qim h _ h.pc,h0.2,U_0⟩) (λ_=>Q0c (Qtu _) λx2 h2=>w_br (λ_=>w_lv λy hy=>⟨by rw[hy];exact Qim h _ h0.1,h0.2,U_0⟩) (λhb=> ?_))
 have hi:=h2 (by simpa using hb)
 refine w_lv λx4 _=> ?_
 repeat'(first
   |refine w_br (λ_=> ?_) (λ_=> ?_)
   |exact Q0c (Qsf h hi h0.2) λx hx=>⟨hx.1,hx.2,U_0⟩
   |exact Q0c (Qpx h hi h0.2) λx hx=>⟨hx.1,hx.2,U_0⟩
   |exact Q0c (Zab h hi) λx hx=>⟨hx.1,h0.2,hx.2⟩
   |exact w_lv λy hy=>⟨by rw[hy];exact Qim h _ h0.1,h0.2,U_0⟩
   |refine w_lv λ_ _=> ?_)
theorem Z8l{a:Int}(h:U a)(k:Nat)(hk:k≤32):0≤ishr .u32 a k∧ishr .u32 a k*2^k≤a:=by
 obtain⟨h1,h2⟩:=h
 unfold ishr
 have e:min (k:Int).toNat IntKind.u32.bits=k:=by show min (k:Int).toNat 32=k;omega
 have hp:(0:Int)<2^k:=Int.pow_pos (by decide)
 rw[e,Int.fdiv_eq_ediv_of_nonneg _ (Int.le_of_lt hp)]
 exact⟨Int.ediv_nonneg h1 (Int.le_of_lt hp),Int.ediv_mul_le a (Int.ne_of_gt hp)⟩
theorem Z7a(x:Int):0≤IntKind.u8.wrap x∧IntKind.u8.wrap x<256:=by rw[IntKind.wrap_u8];omega
theorem len32_w{x:Int}(h:U x):(Q1k x).w (λ_=>True):=by
 have s16:=Z8l h 16 (by omega)
 have s8:=Z8l h 8 (by omega)
 have s24:=Z8l (Qo2 h 16) 8 (by omega)
 obtain⟨h1,h2⟩:=h
 unfold Q1k
 repeat'(first
   |refine w_br (λ_=> ?_) (λ_=> ?_)
   |refine w_cn (decide_eq_true ⟨?_,Int.lt_of_lt_of_le (b:=256) ?_ (Int.le_of_eq (by kernel_rfl))⟩) ?_
   |exact trivial
   |refine w_lf ?_)
 all_goals(first
   |trivial
   |exact(Z7a _).1
   |exact(Z7a _).2
   |(simp only[decide_eq_true_eq,decide_eq_false_iff_not]at*;simp at s16 s8 s24;omega))
theorem and255(a:Int):iand .u32 a 255<256:=by
 unfold iand
 rw[IntKind.wrap_u32]
 have:(BitVec.ofInt IntKind.u32.bits a&&&BitVec.ofInt IntKind.u32.bits 255).toNat≤255:=by
   show(BitVec.ofInt 32 a&&&BitVec.ofInt 32 255).toNat≤255
   rw[BitVec.toNat_and]
   exact Nat.le_trans Nat.and_le_right (by decide)
 omega
theorem ones_w{x:Int}(h:U x):(Q1w x).w (λ_=>True):=by
 have s24:=Z8l h 24 (by omega)
 obtain⟨h1,h2⟩:=h
 have i24:ishr .u32 x 24<256:=by simp at s24;omega
 unfold Q1w
 repeat'(first
   |refine w_cn (decide_eq_true ⟨?_,Int.lt_of_lt_of_le (b:=256) ?_ (Int.le_of_eq (by kernel_rfl))⟩) ?_
   |exact trivial
   |refine w_lf ?_)
 all_goals(first
   |trivial
   |exact(Q0k _).1
   |exact s24.1
   |exact i24
   |exact and255 _)
structure okS(P:Nat)(m:Q00):Prop where
 cpu:Q2p m.B1
 mem:Q0u P m.Mem
 disk:Q7i m.A7
 nic:Qf9 m.C4
 target:U m.A1.C6
 given:U m.A1.C0
theorem Z75{b:Q07}(h:U b.C0):(Q50 b).w (λ_=>True):=by
 unfold Q50
 exact Q0c (ones_w h) λ_ _=>trivial
theorem Z7r{m:Q00}(h:U m.A1.C0):(Q4e m).w (λ_=>True):=by
 have b: ∀x,(Q31 m.A1 x).w (λ_=>True):=λx=>by
   unfold Q31
   exact Q0c (len32_w h) λ_ _=>trivial
 have d:(Q1f m).w (λ_=>True):=by
   unfold Q1f
   exact w_lv λ_ _=>w_lv λ_ _=>w_br (λ_=>w_lv λ_ _=>w_br (λ_=>w_lv λ_ _=>w_br (λ_=>w_lv λ_ _=>w_br (λ_=>Q0c (b _) λ_ _=>trivial) (λ_=>trivial)) (λ_=>trivial)) (λ_=>trivial)) (λ_=>trivial)
 unfold Q4e
 repeat'(first
   |refine w_br (λ_=> ?_) (λ_=> ?_)
   |exact Q0c d λ_ _=>trivial
   |refine w_lv λ_ _=> ?_
   |exact trivial)
theorem Z7e{m:Q00}(h:U m.A1.C0):(Q3v m).w (λ_=>True):=by
 have p:(Q2u m.A1).w (λ_=>True):=by
   unfold Q2u
   exact Q0c (Z75 h) λ_ _=>trivial
 unfold Q3v
 refine w_lv λx0 _=>w_lv λx1 _=>w_lv λx2 _=>w_lv λx3 _=>Q0c p λx4 _=>w_lp (inv:=λz=>0≤z.2∧z.2≤5) (μ:=Qeo m) ⟨by omega,by omega⟩ (Nat.lt_succ_self _) (λz hz=> ?_)
 obtain⟨z1,z2⟩:=hz
 have ew:z.2<5→IntKind.i64.wrap (z.2+1)=z.2+1:=λ_=>by rw[IntKind.wrap_i64];omega
 refine w_br (λhb=> ?_) (λ_=>trivial)
 have hb:=of_decide_eq_true hb
 have nx:(0≤IntKind.i64.wrap (z.2+1)∧IntKind.i64.wrap (z.2+1)≤5)∧(5-IntKind.i64.wrap (z.2+1)).toNat<(5-z.2).toNat:=by rw[ew hb];omega
 refine w_cn (by simp;omega) (w_br (λ_=>w_cn (decide_eq_true z1) (w_nx nx)) (λ_=>w_nx nx))
theorem Qoc{m:Q00}(h:U m.A1.C0):(Q2 m).w U:=by
 unfold Q2
 exact Q0c (Z7e h) λ_ _=>Z66 _ _
theorem Z5m{m:Q00}(h:U m.A1.C0):(Q2q m).w (λ_=>True):=by
 have i:(Q2c m).w (λ_=>True):=by
   unfold Q2c
   exact w_br (λ_=>Q0c (Qoc h) λ_ _=>trivial) (λ_=>trivial)
 unfold Q2q
 exact Q0c (Z7r h) λ_ _=>w_br (λ_=>w_br (λ_=>Q0c i λ_ _=>w_br (λ_=>trivial) (λ_=>trivial)) (λ_=>trivial)) (λ_=>trivial)
theorem beginP_w{P:Nat}{m:Q00}(h:okS P m):(Q1z m).w (okS P):=by
 obtain⟨h1,h2,h3,h4,h5,h6⟩:=h
 unfold Q1z
 refine w_br (λ_=>⟨h1,h2,h3,h4,h5,h6⟩) (λ_=>Q0c (Qoc (m:=⟨_,_,_,_,_,_,m.A1,_,_,_⟩) h6) λx0 _=>w_lp (inv:=λz=>0≤z∧z≤5) (μ:=Q9d m) ⟨by omega,by omega⟩ (Nat.lt_succ_self _) (λz hz=> ?_))
 obtain⟨z1,z2⟩:=hz
 refine w_br (λhb=>w_cn (decide_eq_true z1) (w_br (λ_=>w_lv λx1 hx=>⟨by rw[hx];exact Qim h1 _ U_0,h2,h3,h4,h5,h6⟩) (λ_=>w_nx ?_))) (λ_=>⟨h1,h2,h3,h4,h5,h6⟩)
 have hb:=of_decide_eq_true hb
 show(0≤IntKind.i64.wrap (z+1)∧IntKind.i64.wrap (z+1)≤5)∧(5-IntKind.i64.wrap (z+1)).toNat<(5-z).toNat
 have ew:IntKind.i64.wrap (z+1)=z+1:=by rw[IntKind.wrap_i64];omega
 rw[ew];omega
theorem Qbm{P:Nat}{m:List Int}(h:Q0u P m):Q3z m=P:=by
 obtain⟨h1,h2,h3,_⟩:=h
 simp only[Q3z,Qpn,Tree.m]
 have e:(m.length:Int)=32*P:=by omega
 rw[e]
 have e1:(Int.tmod (32*(P:Int)) 32 !=0)=false:=by simp [Int.mul_tmod_right]
 have e2:decide ((32*(P:Int))>1024)=false:=decide_eq_false (by omega)
 rw[e1,e2]
 simp only[cond_false]
 rw[Int.mul_tdiv_cancel_left _ (by decide),IntKind.wrap_i64];omega
theorem Qh6{P:Nat}{m:List Int}(h:Q0u P m){f:Int}(hf:U f):Q26 m f=decide (f<P):=by
 have:=Qbm h
 obtain⟨h1,h2⟩:=hf
 have h3:=h.p2
 simp only[Q26,Qhu,Tree.m,letv,this]
 congr 1
 rw[IntKind.wrap_u64,IntKind.wrap_u64,Int.emod_eq_of_lt h1 (by omega),Int.emod_eq_of_lt (by omega) (by omega)]
theorem put_w{P:Nat}{m:List Int}(h:Q0u P m){addr size v:Int}(ha:U addr)(hl:addr<4*m.length)(hv:U v):(Qdp m addr size v).w (Q0u P):=by
 obtain⟨h1,h2,h3,h4⟩:=h
 obtain⟨a1,a2⟩:=ha
 have e:IntKind.wrap IntKind.u32 (Int.tdiv addr 4)=addr/4:=by rw[IntKind.wrap_u32,Int.tdiv_eq_ediv_of_nonneg a1];omega
 have hc:(Nat.beq 1 1&&Nat.blt 0 1&&decide (0≤IntKind.wrap IntKind.u32 (Int.tdiv addr 4)∧IntKind.wrap IntKind.u32 (Int.tdiv addr 4)<(m.length:Int)))=true:=by
   rw[e];simp [Nat.blt];omega
 have h0: ∀x,decide (0≤IntKind.wrap IntKind.u32 x)=true:=λx=>decide_eq_true (Q0k x).1
 have hs: ∀i v,U v→Q0u P (m.set i v):=λi v hv=>⟨by simp [h1],h2,h3,Qvo h4 hv i⟩
 unfold Qdp
 exact w_br (λ_=>w_cn hc (hs _ _ hv)) (λ_=>w_cn hc (w_cn (h0 _) (w_cn (h0 _) (w_cn hc (hs _ _ (U_or _ _))))))
theorem fill_w{P:Nat}{m:List Int}(h:Q0u P m){frame:Int}(f0:0≤frame)(f1:frame<P)(s:List UInt8):(Q9h m frame s).w (Q0u P):=by
 unfold Q9h
 have h3:=h.p2
 refine w_lp (inv:=λz=>0≤z.1∧z.1≤128∧Q0u P z.2) (μ:=Qf8 m frame s) ⟨by omega,by omega,h⟩ (Nat.lt_succ_self _) (λv0 hv0=> ?_)
 obtain⟨i0,i1,hm⟩:=hv0
 refine w_br (λh1=>w_br (λh2=>w_cn ?_ ?_) (λ_=>hm)) (λ_=>hm)
 · have:=of_decide_eq_true h1
   simp [Nat.blt];omega
 · have h2:=of_decide_eq_true h2
   have e:IntKind.wrap IntKind.u32 (IntKind.wrap IntKind.i64 (IntKind.wrap IntKind.i64 (frame*128)+v0.1))=frame*128+v0.1:=by
     rw[IntKind.wrap_u32,IntKind.wrap_i64,IntKind.wrap_i64];omega
   rw[e]
   obtain⟨g1,g2⟩:=Tree.pp (put_w hm (size:=1) (addr:=frame*128+v0.1) ⟨by omega,by omega⟩ (by rw[hm.len];omega) (Q0k (UInt8.toNat (s.getD v0.1.toNat 0))))
   refine w_an g1 (w_lv λx0 hx0=> ?_)
   rw[hx0]
   have ew:IntKind.i64.wrap (v0.1+1)=v0.1+1:=by rw[IntKind.wrap_i64];omega
   refine w_nx ?_
   show(0≤IntKind.i64.wrap (v0.1+1)∧IntKind.i64.wrap (v0.1+1)≤128∧Q0u P _)∧(128-IntKind.i64.wrap (v0.1+1)).toNat<(128-v0.1).toNat
   rw[ew]
   exact⟨⟨by omega,by omega,g2⟩,by omega⟩
theorem finish_w{P:Nat}{m:List Int}(h:Q0u P m){d:Q0a}(hd:Q7i d)(e:Q0p):(Qa1 d m e).w (λr=>Q7i r.1∧Q0u P r.2.2):=by
 have fl:Q26 m d.A9=true→(Q9h m (IntKind.i64.wrap d.A9) e.C5).w (Q0u P):=λhp=>by
   rw[Qh6 h hd.opFrame]at hp
   have:=of_decide_eq_true hp
   have h1:=hd.opFrame.1
   have h3:=h.p2
   have ew:IntKind.i64.wrap d.A9=d.A9:=by rw[IntKind.wrap_i64];omega
   rw[ew]
   exact fill_w h h1 this _
 have l0:Q7i d∧Q0u P m:=⟨hd,h⟩
 have l1: ∀st,Q7i {Blocks:=d.Blocks,B5:=d.B5,B0:=d.B0,B8:=st,D6:=0,B4:=0,A9:=0,C1:=[]}:=λst=>⟨hd.block,hd.frame,U_0,U_0⟩
 unfold Qa1
 repeat'(first
   |exact l0
   |exact⟨l1 _,h⟩
   |refine w_br (λ_=> ?_) (λ_=> ?_)
   |refine w_lv (λ_ _=> ?_))
 all_goals(
   first
     | (have hp:Q26 m d.A9=true:=by simp_all
        obtain⟨g1,g2⟩:=Tree.pp (fl hp)
        refine w_an g1 (w_lv λx hx=> ?_)
        rw[hx]
        exact w_br (λ_=>⟨l1 _,g2⟩) (λ_=>⟨l1 _,g2⟩))
     |(exfalso;simp_all;done))
section
variable {c:Q02} (h:Q2p c)
include h
theorem Qtz(k:Int){b:Int}(hb:U b):Q2p (Q2w c k b):=by
 refine(Tree.post (Qhf c k b) (W:=Q2p) ?_)
 unfold Qhf
 refine w_lv λ_ _=>w_lv λ_ _=>⟨h.x,h.a1,?_⟩
 intro w hw
 simp only[A8.l,List.mem_cons,List.not_mem_nil,or_false]at hw
 rcases hw with rfl|rfl|rfl|rfl|rfl|rfl|rfl|rfl
 · exact U_or _ _
 · exact h.a1
 · exact h.pc
 · exact Q0k _
 · exact hb
 · exact h.a5
 · exact h.a6
 · exact h.a7
theorem return_w:Q2p (Qhp c):=by
 refine(Tree.post (Qd c) (W:=Q2p) ?_)
 unfold Qd
 refine w_lv λ_ _=>w_lv λ_ _=>⟨h.x,h.a2,?_⟩
 intro w hw
 simp only[A8.l,List.mem_cons,List.not_mem_nil,or_false]at hw
 rcases hw with rfl|rfl|rfl|rfl|rfl|rfl|rfl|rfl
 · exact U_or _ _
 · exact h.a1
 · exact h.a2
 · exact h.a3
 · exact h.a4
 · exact h.a5
 · exact h.a6
 · exact h.a7
theorem Qzt(r:Int){v:Int}(hv:U v):(Qdq c r v).w Q2p:=by
 unfold Qdq
 refine w_br (λh1=>w_br (λh2=>w_cn ?_ ⟨Z4w h.x hv _,h.pc,h.csr⟩) (λ_=>h)) (λ_=>h)
 have h1:=of_decide_eq_true h1
 have h2:=of_decide_eq_true h2
 simp [Nat.blt];omega
theorem write_w(k:Int){v:Int}(hv:U v):(Qc c k v).w Q2p:=by
 have ok: ∀i v,U v→Q2p {X:=c.X,Pc:=c.Pc,B3:=A8.of 0 (List.set (A8.l c.B3) i v)}:=λi v hv=>⟨h.x,h.pc,Z2k h.csr hv i⟩
 unfold Qc
 repeat'(first
   |exact h
   |exact ok _ _ (Q0k _)
   |exact ok _ _ hv
   |refine w_br (λhk=> ?_) (λ_=> ?_)
   |refine w_cn (by rw[eq_of_beq (by assumption:(k==_)=true)];decide) ?_)
end
section
variable {P:Nat} {m:List Int} (h:Q0u P m)
include h
theorem Z0k(a:Int){size:Int}(hs:size=1∨size=4):(Q8e m a size).w (λb=>b=true→a<128*P):=by
 have hp:=Qbm h
 have h2:=h.p2
 have e:decide (IntKind.wrap IntKind.u32 size≠0)=true:=by rcases hs with rfl|rfl<;>decide
 have l: ∀x,x=Q3z m→decide (a<IntKind.wrap IntKind.u32 (IntKind.wrap IntKind.i64 (128*x)))=true→a<128*P:=λx hx hd=>by
   rw[hx,hp,IntKind.wrap_u32,IntKind.wrap_i64]at hd
   have:=of_decide_eq_true hd
   omega
 unfold Q8e
 refine w_br (λ_=>w_br (λ_=>λh=>by cases h) (λ_=> ?_)) (λ_=> ?_)<;>
 exact w_cn e (w_br (λ_=>w_lv λx hx=>l x hx) (λ_=>λh=>by cases h))
theorem idx{a:Int}(ha:U a)(hl:a<128*P):(Nat.beq 1 1&&Nat.blt 0 1&&decide (0≤IntKind.wrap IntKind.u32 (Int.tdiv a 4)∧IntKind.wrap IntKind.u32 (Int.tdiv a 4)<(m.length:Int)))=true:=by
 obtain⟨a1,a2⟩:=ha
 have e:IntKind.wrap IntKind.u32 (Int.tdiv a 4)=a/4:=by rw[IntKind.wrap_u32,Int.tdiv_eq_ediv_of_nonneg a1];omega
 have:=h.len
 rw[e];simp [Nat.blt];omega
theorem Z78{a:Int}(ha:U a){size:Int}(hs:size=1∨size=4):(Q47 m a size).w (λr=>U r.1):=by
 obtain⟨g1,g2⟩:=Tree.pp (Z0k h a hs)
 unfold Q47
 refine w_an g1 (w_lv λx hx=>w_br (λ_=>U_0) (λhb=> ?_))
 have hb:x=true:=by simpa using hb
 have hl:=g2 (hx.symm.trans hb)
 refine w_cn (idx h ha hl) (w_br (λ_=>w_cn (decide_eq_true (Q0k _).1) (Q0k _)) (λ_=>Qgz h.u _))
theorem mark_w{a:Int}(ha:U a)(access:Int):(Qe0 m a access).w (Q0u P):=by
 obtain⟨g1,g2⟩:=Tree.pp (Z0k h a (size:=4) (.inr rfl))
 have hs: ∀{m:List Int} i v,Q0u P m→U v→Q0u P (m.set i v):=λi v h hv=>⟨by simp [h.len],h.p1,h.p2,Qvo h.u hv i⟩
 unfold Qe0
 refine w_an g1 (w_lv λx hx=>w_br (λ_=>h) (λhb=> ?_))
 have hb:x=true:=by simpa using hb
 have hl:=g2 (hx.symm.trans hb)
 have i0:=idx h ha hl
 have h':=hs (Int.toNat (IntKind.wrap IntKind.u32 (Int.tdiv a 4))) (ior IntKind.u32 (m.getD (Int.toNat (IntKind.wrap IntKind.u32 (Int.tdiv a 4))) 0) 8) h (U_or _ _)
 have i1:=idx h' ha hl
 exact w_cn i0 (w_cn i0 (w_br (λ_=>w_cn i1 (w_cn i1 (hs _ _ h' (U_or _ _)))) (λ_=>h')))
theorem walk_w{root va:Int}(hr:U root)(hv:U va)(access:Int):(Q9f m root va access).w (λt=>U t.Addr∧U t.E0∧(t.D8=0→t.Addr<128*P)):=by
 have hp:=Qbm h
 have h2:=h.p2
 have hlen:=h.len
 obtain⟨r1,r2⟩:=hr
 obtain⟨v1,v2⟩:=hv
 unfold Q9f
 refine w_lv λx0 hx0=>w_lv λx1 hx1=>w_lv λx2 _=> ?_
 have hc:x0≠0:=by
   rw[hx0]
   simp only[Q22,Q9,Tree.m]
   cases access==1<;>cases access==3<;>simp
 rw[hp]at hx1
 have bad:U (0:Int)∧U (0:Int)∧(x0=0→(0:Int)<128*P):=⟨U_0,U_0,λe=>absurd e hc⟩
 refine w_br (λ_=>bad) (λ_=>w_br (λ_=>bad) (λhva=>w_br (λ_=>bad) (λhro=> ?_)))
 have hva:=of_decide_eq_false hva
 have hro:=of_decide_eq_false hro
 have e1:IntKind.wrap IntKind.u32 x1=P:=by rw[hx1,IntKind.wrap_u32];omega
 rw[e1]at hro
 have e2:IntKind.wrap IntKind.u32 (IntKind.wrap IntKind.u32 (root*128)+IntKind.wrap IntKind.u32 (4*IntKind.wrap IntKind.u32 (Int.tdiv va 128)))=root*128+4*(va/128):=by
   rw[Int.tdiv_eq_ediv_of_nonneg v1,IntKind.wrap_u32,IntKind.wrap_u32,IntKind.wrap_u32,IntKind.wrap_u32];omega
 have hU:U (IntKind.wrap IntKind.u32 (IntKind.wrap IntKind.u32 (root*128)+IntKind.wrap IntKind.u32 (4*IntKind.wrap IntKind.u32 (Int.tdiv va 128)))):=Q0k _
 have ci:=idx h hU (by rw[e2];omega)
 have good: ∀w:Int,decide (iand IntKind.u32 w 255≥IntKind.wrap IntKind.u32 x1)=false→(U (IntKind.wrap IntKind.u32 (IntKind.wrap IntKind.u32 (iand IntKind.u32 w 255*128)+Int.tmod va 128))∧U (IntKind.wrap IntKind.u32 (IntKind.wrap IntKind.u32 (root*128)+IntKind.wrap IntKind.u32 (4*IntKind.wrap IntKind.u32 (Int.tdiv va 128))))∧((0:Int)=0→IntKind.wrap IntKind.u32 (IntKind.wrap IntKind.u32 (iand IntKind.u32 w 255*128)+Int.tmod va 128)<128*P)):=λw hw=>by
   have hw:=of_decide_eq_false hw
   rw[e1]at hw
   have hn:=(Z66 w 255).1
   refine⟨Q0k _,Q0k _,λ_=> ?_⟩
   rw[Int.tmod_eq_emod_of_nonneg v1,IntKind.wrap_u32,IntKind.wrap_u32]
   generalize iand IntKind.u32 w 255=q at*
   omega
 refine w_cn ci ?_
 repeat'(first
   |exact bad
   |exact good _ (by assumption)
   |refine w_br (λ_=> ?_) (λ_=> ?_)
   |refine w_cn ci ?_)
theorem Z06{c:Q02}(hc:Q2p c){va:Int}(hv:U va){size:Int}(hs:size=1∨size=4)(access:Int):(Q7n c m va size access).w (λr=>Q0u P r.2.2∧U r.1∧(r.2.1=0→r.1<128*P)):=by
 have e:decide (IntKind.wrap IntKind.u32 size≠0)=true:=by rcases hs with rfl|rfl<;>decide
 obtain⟨g1,g2⟩:=Tree.pp (Z0k h va hs)
 obtain⟨k1,k2⟩:=Tree.pp (walk_w h hc.a6 hv access)
 have bad: ∀k:Int,k≠0→Q0u P m∧U (0:Int)∧(k=0→(0:Int)<128*P):=λk hk=>⟨h,U_0,λe=>absurd e hk⟩
 have hca:Q22 access≠0:=by
   simp only[Q22,Q9,Tree.m]
   cases access==1<;>cases access==3<;>simp
 unfold Q7n
 refine w_lv λx0 _=>w_br (λ_=>bad 5 (by decide)) (λ_=>w_br (λh1=>w_br (λh2=> ?_) (λ_=> ?_)) (λ_=> ?_))
 · exact bad 5 (by decide)
 all_goals(
   refine w_cn e (w_br (λ_=>bad 3 (by decide)) (λ_=>w_lv λx1 _=>w_br (λ_=>w_an g1 (w_lv λx2 hx2=>w_br (λ_=>w_lv λx3 hx3=>bad x3 (by rw[hx3];exact hca)) (λhb=> ?_))) (λ_=>w_an k1 (w_lv λx4 hx4=>w_br (λhb=> ?_) (λhb=> ?_)))))
   · have hb:x2=true:=by simpa using hb
     exact⟨h,hv,λ_=>g2 (hx2.symm.trans hb)⟩
   · exact bad _ (by simpa using hb)
   · obtain⟨t1,t2,t3⟩:=k2
     rw[show(Q9f m c.B3.a6 va access).m=x4 from hx4.symm]at t1 t2 t3
     obtain⟨m1,m2⟩:=Tree.pp (mark_w h t2 access)
     refine w_an m1 (w_lv λx5 hx5=> ?_)
     exact⟨hx5▸m2,t1,λ_=>t3 (by simpa using hb)⟩)
end
theorem reg_ok{r:Int}(h:Q6o r=true):0≤r∧r<16:=by
 simp only[Q6o,Qah,Tree.m]at h
 cases h1:decide (r≥0)<;>rw[h1]at h
 · cases h
 · have h1:=of_decide_eq_true h1
   have h:=of_decide_eq_true h
   omega
theorem valid_ok{i:Q0f}(hi:IntKind.wrap .i64 i.Imm=i.Imm)(h:Q62 i=true):Qcc i:=by
 have no:false=true→Qcc i:=λh=>by cases h
 refine(Tree.post (Qbw i) (W:=λb=>b=true→Qcc i) ?_) h
 unfold Qbw
 refine w_lv λx0 h0=>w_br (λ_=>no) (λ_=>w_lv λx1 h1=>w_br (λ_=>no) (λb1=>w_lv λx2 h2=>w_br (λ_=>no) (λb2=>w_lv λx3 h3=>w_br (λ_=>no) (λb3=>w_lv λx4 h4=>w_br (λ_=>no) (λb4=>w_br (λ_=>no) (λb5=> ?_))))))
 have b1:x1=true:=by simpa using b1
 have b2:x2=true:=by simpa using b2
 have b3:x3=true:=by simpa using b3
 have b4:=of_decide_eq_false b4
 have b5:=of_decide_eq_false b5
 rw[hi]at b4 b5
 have ok:Qcc i:=⟨reg_ok (h1.symm.trans b1),reg_ok (h2.symm.trans b2),reg_ok (h3.symm.trans b3),λe=>by
   rw[e]at h0
   have h0:x0=8:=h0
   subst h0
   have h4:x4=(0,7):=h4
   subst h4
   simp at b4 b5;omega⟩
 repeat'(first
   |exact λ_=>ok
   |exact no
   |refine w_br (λ_=> ?_) (λ_=> ?_))
theorem Z81(w:Int):(Q6u w).w (λr=>r.2=true→Qcc r.1):=by
 have no: ∀{p:Prop},false=true→p:=λh=>by cases h
 have e: ∀x,IntKind.wrap .i64 (IntKind.wrap .i32 x)=IntKind.wrap .i32 x:=λx=>by rw[IntKind.wrap_i64,IntKind.wrap_i32];omega
 have ok: ∀i,IntKind.wrap .i64 i.Imm=i.Imm→ ∀x,x=Q62 i→(!x)=false→true=true→Qcc i:=λi hi x hx hb _=>valid_ok hi (hx.symm.trans (by simpa using hb))
 unfold Q6u
 refine w_lv λx0 _=> ?_
 have l: ∀i,IntKind.wrap .i64 i.Imm=i.Imm→(Tree.lv (Q62 i) λx=> .br (!x) (.lf ((⟨0,0,0,0,0⟩:Q0f),false)) (.lf (i,true))).w (λr=>r.2=true→Qcc r.1):=λi hi=>w_lv λx hx=>w_br (λ_=>no) (λhb=>ok i hi x hx hb)
 refine w_br (λ_=>no) (λ_=>w_br (λ_=>l _ rfl) (λ_=>w_br (λ_=>l _ (e _)) (λ_=>w_br (λ_=>l _ (e _)) (λ_=>l _ (e _)))))
theorem bit_w(b:Bool):U (Q9t b):=by cases b<;>exact⟨by decide,by decide⟩
theorem Z8{a b:Int}(ha:U a)(hb:U b):(Qa5 a b).w (λr=>U r.1∧U r.2):=by
 unfold Qa5
 refine w_br (λ_=>⟨⟨by omega,by omega⟩,ha⟩) (λh=> ?_)
 have h: ¬b=0:=by simpa using h
 obtain⟨b1,b2⟩:=hb
 have hc:decide (IntKind.wrap IntKind.i64 (IntKind.wrap IntKind.i32 b)≠0)=true:=decide_eq_true (by rw[IntKind.wrap_i64,IntKind.wrap_i32];omega)
 exact w_cn hc (w_cn hc ⟨Q0k _,Q0k _⟩)
theorem alu_w(op:Int){a b:Int}(ha:U a)(hb:U b):(Qjx op a b).w (λr=>U r.1):=by
 unfold Qjx
 refine w_lv λx0 _=> ?_
 repeat'(first
   |exact Q0k _
   |exact Qo2 ha _
   |exact U_0
   |refine w_br (λ_=> ?_) (λ_=> ?_)
   |exact Q0c (Z8 ha hb) λx hx=>hx.1
   |exact Q0c (Z8 ha hb) λx hx=>hx.2
   |exact w_lv λx hx=>(by rw[hx];exact bit_w _))
theorem signext_w{x:Int}(hx:U x):(Q87 x 8).w U:=by
 unfold Q87
 have h0:decide (0≤IntKind.wrap IntKind.u64 8)=true:=by decide
 refine w_br (λh=>absurd h (by decide)) λ_=>w_br (λh=>absurd h (by decide)) λ_=>w_cn h0 (w_cn (by decide) (w_br (λ_=>w_cn h0 (U_or _ _)) (λ_=>Z66 _ _)))
section
variable {c:Q02} (h:Q2p c) {i:Q0f} (hi:Qcc i)
include h hi
theorem system_w:(Q8g c i).w (λr=>Q2p r.1∧U r.2.Value):=by
 unfold Q8g
 refine w_br (λ_=>w_lv λx hx=>⟨hx▸Qtz h _ U_0,U_0⟩) (λ_=>w_br (λ_=>w_lv λx hx=>⟨hx▸return_w h,U_0⟩) (λ_=>w_br (λe=>w_cn ?_ (Q0c (Qzt h _ (h.a _)) λx hx=>⟨hx.pcs (Q0k _),U_0⟩)) (λ_=>w_br (λ_=>w_cn (rc hi.a) (Q0c (write_w h _ (h.r _)) λx hx=>⟨hx.pcs (Q0k _),U_0⟩)) (λ_=> ?_))))
 · have:=hi.csr (by simpa using e)
   simp [Nat.blt];omega
 · have k:=h.pcs (Q0k (c.Pc+4))
   repeat'(first
     |exact⟨k,U_0⟩
     |exact⟨k,h.r _⟩
     |refine w_br (λ_=> ?_) (λ_=> ?_)
     |refine w_cn (rc hi.a) ?_)
theorem jump_w:(Qh1 c i).w Q2p:=by
 unfold Qh1
 exact w_br (λ_=>Q0c (Qzt h _ (Q0k _)) λx hx=>hx.pcs (Q0k _)) (λ_=>w_br (λ_=>w_cn (rc hi.b) (Q0c (Qzt h _ (Q0k _)) λx hx=>hx.pcs (Q0k _))) (λ_=>w_cn (rc hi.a) (w_cn (rc hi.b) (w_lv λx _=>w_br (λ_=>h.pcs (Q0k _)) (λ_=>h.pcs (Q0k _))))))
theorem Z9f{P:Nat}{m:List Int}(hm:Q0u P m):(Qad c m i).w (λr=>Q2p r.1∧Q0u P r.2):=by
  unfold Qad
  refine w_cn (rc hi.b) ?_
  have e1:(1:Int)=1∨(1:Int)=4:= .inl rfl
  have e4:(4:Int)=1∨(4:Int)=4:= .inr rfl
  repeat'(first
    |refine w_br (λ_=> ?_) (λ_=> ?_)
    | (refine Q0c (Z06 hm h (Q0k _) e4 _) λx hx=> ?_
       obtain⟨m1,m2,m3⟩:=hx
       refine w_br (λ_=>w_lv λy hy=>⟨hy▸Qtz h _ (Q0k _),m1⟩) (λhb=> ?_)
       have m3:=m3 (by simpa using hb)
       have m4:x.1<4*x.2.2.length:=by rw[m1.len];omega
       clear hb)
    | (refine Q0c (Z06 hm h (Q0k _) e1 _) λx hx=> ?_
       obtain⟨m1,m2,m3⟩:=hx
       refine w_br (λ_=>w_lv λy hy=>⟨hy▸Qtz h _ (Q0k _),m1⟩) (λhb=> ?_)
       have m3:=m3 (by simpa using hb)
       have m4:x.1<4*x.2.2.length:=by rw[m1.len];omega
       clear hb)
    |exact w_cn (rc hi.a) (Q0c (put_w (by assumption) (by assumption) (by assumption) (h.r _)) λy hy=>⟨h.pcs (Q0k _),hy⟩)
    |(refine Q0c (Z78 (by assumption) (by assumption) e4) λy hy=> ?_)
    |(refine Q0c (Z78 (by assumption) (by assumption) e1) λy hy=> ?_)
    |exact Q0c (signext_w (by assumption)) λz hz=>Q0c (Qzt h _ hz) λu hu=>⟨hu.pcs (Q0k _),by assumption⟩
    |exact Q0c (Qzt h _ (by assumption)) λu hu=>⟨hu.pcs (Q0k _),by assumption⟩)
end
theorem do_w{c:Q02}(h:Q2p c){P:Nat}{m:List Int}(hm:Q0u P m):(Qmw c m).w (λr=>Q2p r.1∧U r.2.1.Value∧Q0u P r.2.2):=by
 unfold Qmw
 refine Q0c (Z06 hm h h.pc (.inr rfl) 1) λx0 hx=> ?_
 obtain⟨m1,m2,m3⟩:=hx
 refine w_br (λ_=>w_lv λy hy=>⟨hy▸Qtz h _ h.pc,U_0,m1⟩) (λhb=> ?_)
 refine Q0c (Z78 m1 m2 (.inr rfl)) λx2 h2=>Z8h (Z81 _) λx3 h3=>w_br (λ_=>w_lv λy hy=>⟨hy▸Qtz h _ h2,U_0,m1⟩) (λb3=> ?_)
 have hi:=h3 (by simpa using b3)
 refine w_lv λx5 _=> ?_
 repeat'(first
   |refine w_br (λ_=> ?_) (λ_=> ?_)
   |exact w_lv λy hy=>⟨hy▸Qtz h _ h2,U_0,m1⟩
   |exact Q0c (system_w h hi) λy hy=>⟨hy.1,hy.2,m1⟩
   |exact Q0c (jump_w h hi) λy hy=>⟨hy,U_0,m1⟩
   |exact Q0c (Z9f h hi m1) λy hy=>⟨hy.1,U_0,hy.2⟩
   |exact Q0c (Qzt h _ (Q0k _)) λy hy=>⟨hy.pcs (Q0k _),U_0,m1⟩
   |refine w_cn (rc hi.c) ?_
   |refine w_cn (rc hi.b) ?_
   |exact Q0c (alu_w _ (h.r _) (h.r _)) λy hy=>Q0c (Qzt h _ hy) λz hz=>⟨hz.pcs (Q0k _),U_0,m1⟩
   |exact Q0c (alu_w _ (h.r _) (Q0k _)) λy hy=>Q0c (Qzt h _ hy) λz hz=>⟨hz.pcs (Q0k _),U_0,m1⟩)
theorem and1{q:Int}(h:U q):iand .u32 q 1=q%2:=by
 obtain⟨h1,h2⟩:=h
 unfold iand
 rw[IntKind.wrap_u32]
 have e1:(BitVec.ofInt 32 q).toNat=q.toNat:=by rw[BitVec.toNat_ofInt];omega
 have e2:(BitVec.ofInt 32 1).toNat=1:=by decide
 have:(BitVec.ofInt IntKind.u32.bits q&&&BitVec.ofInt IntKind.u32.bits 1).toNat=q.toNat%2:=by
   show(BitVec.ofInt 32 q&&&BitVec.ofInt 32 1).toNat=_
   rw[BitVec.toNat_and,e1,e2,Nat.and_one_is_mod]
 rw[this];omega
theorem Z1z(b:Bool)(n:Int):(Qh4 b n).w (λ_=>True):=by
 unfold Qh4
 exact w_br (λ_=>w_cn (decide_eq_true (by rw[IntKind.wrap_u64];omega)) trivial) (λ_=>trivial)
theorem lines_w(m:Q00):(Qfo m).w (λ_=>True):=by
 unfold Qfo
 exact w_lv λ_ _=>Q0c (Z1z _ _) λ_ _=>w_lv λ_ _=>Q0c (Z1z _ _) λ_ _=>w_lv λ_ _=>Q0c (Z1z _ _) λ_ _=>w_lv λ_ _=>Q0c (Z1z _ _) λ_ _=>w_lv λ_ _=>Q0c (Z1z _ _) λ_ _=>trivial
theorem enabled_w(m:Q00):(Q8v m).w U:=by
 unfold Q8v
 exact Q0c (lines_w m) λ_ _=>Z66 _ _
theorem Qyv{m:Q00}(h:Q2p m.B1):(Q5k m).w Q2p:=by
 unfold Q5k
 refine Q0c (enabled_w m) λx0 hx=>w_br (λ_=>h) (λ_=>w_br (λ_=>h) (λhb=> ?_))
 have hb:x0≠0:=by simpa using hb
 have sh: ∀z:Int,0≤z→z≤31→ishr .u32 x0 (IntKind.wrap .u64 z)=x0/2^z.toNat:=λz h1 h2=>by
   unfold ishr
   have e:min (IntKind.wrap .u64 z).toNat IntKind.u32.bits=z.toNat:=by
     show min (IntKind.wrap .u64 z).toNat 32=z.toNat
     rw[IntKind.wrap_u64];omega
   rw[e,Int.fdiv_eq_ediv_of_nonneg _ (Int.le_of_lt (Int.pow_pos (by decide)))]
 refine w_lp (inv:=λz=>0≤z∧z≤31∧x0/2^z.toNat≠0) (μ:=Qam m) ⟨by omega,by omega,by simpa using hb⟩ (Nat.lt_succ_self _) (λz hz=> ?_)
 obtain⟨z1,z2,z3⟩:=hz
 refine w_cn (decide_eq_true (by rw[IntKind.wrap_u64];omega)) (w_br (λe=>w_nx ?_) (λ_=>w_lv λy hy=>hy▸Qtz h _ U_0))
 have e:=eq_of_beq e
 have hq:=Qo2 hx (IntKind.wrap .u64 z)
 rw[and1 hq,sh z z1 z2]at e
 rw[sh z z1 z2]at hq
 have hlt:x0/2^z.toNat/2≠0:=by omega
 have z4:z≤30:=by
   rcases Int.lt_or_le z 31 with h|h
   · omega
   · have:z=31:=by omega
     subst this
     have:=hx.2
     have:=hx.1
     simp at z3 e hlt
     omega
 show(0≤IntKind.i64.wrap (z+1)∧IntKind.i64.wrap (z+1)≤31∧x0/2^(IntKind.i64.wrap (z+1)).toNat≠0)∧(32-IntKind.i64.wrap (z+1)).toNat<(32-z).toNat
 have ew:IntKind.i64.wrap (z+1)=z+1:=by rw[IntKind.wrap_i64];omega
 rw[ew]
 refine⟨⟨by omega,by omega,?_⟩,by omega⟩
 have et:(z+1).toNat=z.toNat+1:=by omega
 rw[et,Int.pow_succ,←Int.ediv_ediv_of_nonneg (Int.le_of_lt (Int.pow_pos (by decide)))]
 exact hlt
theorem Qf4(l:List Int):(bytesOf l).length=l.length:=by simp [bytesOf]
theorem Qkk(l:List UInt8):(Q6b l).length=l.length:=by simp [Q6b]
theorem low_w(x:Int):(Qog x 4).w (λr=>r.length=4):=by
 unfold Qog
 refine w_lp (inv:=λz=>0≤z.1∧z.1≤4∧(z.2.length:Int)=z.1) (μ:=Qky x 4) ⟨by omega,by omega,rfl⟩ (Nat.lt_succ_self _) (λz hz=> ?_)
 obtain⟨z1,z2,z3⟩:=hz
 refine w_br (λh=>w_cn (decide_eq_true (by rw[IntKind.wrap_u64];omega)) (w_cn (decide_eq_true (by omega)) (w_nx ?_))) (λh=> ?_)
 · have h:=of_decide_eq_true h
   show(0≤IntKind.i64.wrap (z.1+1)∧IntKind.i64.wrap (z.1+1)≤4∧((z.2++[_]).length:Int)=IntKind.i64.wrap (z.1+1))∧(4-IntKind.i64.wrap (z.1+1)).toNat<(4-z.1).toNat
   have ew:IntKind.i64.wrap (z.1+1)=z.1+1:=by rw[IntKind.wrap_i64];omega
   rw[ew]
   refine⟨⟨by omega,by omega,by simp;omega⟩,by omega⟩
 · have h:=of_decide_eq_false h
   show(bytesOf z.2).length=4
   rw[Qf4];omega
theorem page_w{P:Nat}{m:List Int}(hm:Q0u P m)(frame:Int):(Q9e m frame).w (λr=>0≤frame→frame<P→r.1.length=128):=by
 have hp:=Qbm hm
 have hl:=hm.len
 have h2:=hm.p2
 unfold Q9e
 refine w_br (λh=>λh0 _=>by have:=of_decide_eq_true h;omega) (λh=>w_lv λx0 hx=>w_br (λh1=>λ_ h2=>by have:=of_decide_eq_true h1;rw[hx,hp]at this;omega) (λh1=> ?_))
 have h:=of_decide_eq_false h
 have h1:=of_decide_eq_false h1
 rw[hx,hp]at h1
 refine w_lp (inv:=λz=>0≤z.1∧z.1≤32∧(z.2.length:Int)=4*z.1) (μ:=Qee m frame) ⟨by omega,by omega,rfl⟩ (Nat.lt_succ_self _) (λz hz=> ?_)
 obtain⟨z1,z2,z3⟩:=hz
 refine w_br (λhb=> ?_) (λhb=> ?_)
 · have hb:=of_decide_eq_true hb
   have e:IntKind.wrap IntKind.i64 (IntKind.wrap IntKind.i64 (frame*32)+z.1)=frame*32+z.1:=by rw[IntKind.wrap_i64,IntKind.wrap_i64];omega
   refine w_cn (by rw[e];simp [Nat.blt];omega) (w_an (show(4:Int)≤1000000000000 by decide) (Z8h (low_w _) λx1 h4=>w_cn (decide_eq_true (by rw[Qkk,h4];omega)) (w_nx ?_)))
   show(0≤IntKind.i64.wrap (z.1+1)∧IntKind.i64.wrap (z.1+1)≤32∧((z.2++Q6b x1).length:Int)=4*IntKind.i64.wrap (z.1+1))∧(32-IntKind.i64.wrap (z.1+1)).toNat<(32-z.1).toNat
   have ew:IntKind.i64.wrap (z.1+1)=z.1+1:=by rw[IntKind.wrap_i64];omega
   rw[ew,List.length_append,Qkk,h4]
   exact⟨⟨by omega,by omega,by omega⟩,by omega⟩
 · have hb:=of_decide_eq_false hb
   intro _ _
   show(bytesOf z.2).length=128
   rw[Qf4];omega
theorem diskOut_w{P:Nat}{m:List Int}(hm:Q0u P m){d:Q0a}(hd:Q7i d)(port:Int){v:Int}(hv:U v)(at0:Int):(Q8w d m port v at0).w (λr=>Q7i r.1∧r.2.length≤1):=by
 have k: ∀st,Q7i {Blocks:=d.Blocks,B5:=d.B5,B0:=d.B0,B8:=st,D6:=d.D6,B4:=d.B4,A9:=d.A9,C1:=d.C1}:=λst=>⟨hd.block,hd.frame,hd.opBlock,hd.opFrame⟩
 have k2: ∀c o,Q7i {Blocks:=d.Blocks,B5:=d.B5,B0:=d.B0,B8:=1,D6:=c,B4:=d.B5,A9:=d.B0,C1:=o}:=λc o=>⟨hd.block,hd.frame,hd.block,hd.frame⟩
 have k3:Q7i {Blocks:=d.Blocks,B5:=v,B0:=d.B0,B8:=d.B8,D6:=d.D6,B4:=d.B4,A9:=d.A9,C1:=d.C1}:=⟨hv,hd.frame,hd.opBlock,hd.opFrame⟩
 have k4:Q7i {Blocks:=d.Blocks,B5:=d.B5,B0:=v,B8:=d.B8,D6:=d.D6,B4:=d.B4,A9:=d.A9,C1:=d.C1}:=⟨hd.block,hv,hd.opBlock,hd.opFrame⟩
 unfold Q8w
 repeat'(first
   |refine w_br (λ_=> ?_) (λ_=> ?_)
   |exact Q0c (page_w hm _) λ_ _=>w_lv λ_ _=>⟨k2 _ _,Nat.le_refl _⟩
   |refine w_lv (λ_ _=> ?_)
   |refine w_lf ?_)
 all_goals(first
   |exact⟨hd,Nat.zero_le _⟩
   |exact⟨k _,Nat.zero_le _⟩
   |exact⟨k2 _ _,Nat.le_refl _⟩
   |exact⟨k3,Nat.zero_le _⟩
   |exact⟨k4,Nat.zero_le _⟩)
theorem nicOut_w{P:Nat}{m:List Int}(hm:Q0u P m){n:Q0n}(hn:Qf9 n)(port:Int){v:Int}(hv:U v)(at0:Int):(Q9z n m port v at0).w (λr=>Qf9 r.1∧r.2.length≤1):=by
 have k1:Qf9 {B0:=v,D9:=n.D9,C2:=n.C2,B9:=n.B9,B7:=n.B7,F0:=n.F0}:=⟨hv,hn.len,hn.buffer,hn.got⟩
 have k2:Qf9 {B0:=n.B0,D9:=v,C2:=n.C2,B9:=n.B9,B7:=n.B7,F0:=n.F0}:=⟨hn.frame,hv,hn.buffer,hn.got⟩
 have k3:Qf9 {B0:=n.B0,D9:=n.D9,C2:=n.C2,B9:=n.B9,B7:=false,F0:=0}:=⟨hn.frame,hn.len,hn.buffer,U_0⟩
 have k4: ∀p r,Qf9 {B0:=n.B0,D9:=n.D9,C2:=p,B9:=n.B0,B7:=r,F0:=n.F0}:=λp r=>⟨hn.frame,hn.len,hn.frame,hn.got⟩
 have send: ∀K:List UInt8×Bool→Tree (Q0n×List Q06),Q26 m n.B0=true→(∀x:List UInt8×Bool,x.1.length=128→(K x).w (λr=>Qf9 r.1∧r.2.length≤1))→(Tree.an (Qhn m (IntKind.wrap .i64 n.B0)) (.lv (Qgq m (IntKind.wrap .i64 n.B0)) K)).w (λr=>Qf9 r.1∧r.2.length≤1):=λK hp hK=>by
   rw[Qh6 hm hn.frame]at hp
   have hp:=of_decide_eq_true hp
   obtain⟨f1,f2⟩:=hn.frame
   have ew:IntKind.i64.wrap n.B0=n.B0:=by rw[IntKind.wrap_i64];omega
   exact Q0c (page_w hm _) λx hx=>hK x (hx (by rw[ew];exact f1) (by rw[ew];exact hp))
 unfold Q9z
 repeat'(first
   |refine w_br (λ_=> ?_) (λ_=> ?_)
   |refine send _ (by simp_all) (λx hx=>w_cn (by simp_all;exact hn.len.1) ?_)
   |refine w_lv (λ_ _=> ?_)
   |refine w_lf ?_)
 all_goals(first
   |exact⟨hn,Nat.zero_le _⟩
   |exact⟨hn,Nat.le_refl _⟩
   |exact⟨k1,Nat.zero_le _⟩
   |exact⟨k2,Nat.zero_le _⟩
   |exact⟨k3,Nat.zero_le _⟩
   |exact⟨k4 _ _,Nat.zero_le _⟩)
def okB(b:Q07):Prop:=U b.C6∧U b.C0
theorem give_w{P:Nat}{m:List Int}(hm:Q0u P m){b:Q07}(hb:okB b)(port:Int){v:Int}(hv:U v):(Q4z b m port v).w (λr=>okB r.1∧Q0u P r.2):=by
 have hv0:decide (0≤v)=true:=decide_eq_true hv.1
 have h2:=hm.p2
 have rest:(Tree.br (port==11) (.br (decide (v<32)) (.cn (decide (0≤v)) (.lf (({C6:=b.C6,C0:=Qdh .u32 b.C0 (ishl .u32 1 v)}:Q07),m))) (.lf (b,m))) (.lf (b,m))).w (λr=>okB r.1∧Q0u P r.2):=
   w_br (λ_=>w_br (λ_=>w_cn hv0 ⟨⟨hb.1,Q0k _⟩,hm⟩) (λ_=>⟨hb,hm⟩)) (λ_=>⟨hb,hm⟩)
 unfold Q4z
 refine w_br (λ_=>w_lv λx0 hx=>w_br (λhp=>w_cn hv0 (w_br (λ_=>w_cn hv0 ?_) (λ_=>rest))) (λ_=>rest)) (λ_=>rest)
 have hp:Q26 m v=true:=hx.symm.trans hp
 rw[Qh6 hm hv]at hp
 have hp:=of_decide_eq_true hp
 obtain⟨v1,v2⟩:=hv
 refine w_lp (inv:=λz=>0≤z.1∧z.1≤32∧Q0u P z.2) (μ:=Qdw b m port v) ⟨by omega,by omega,hm⟩ (Nat.lt_succ_self _) (λz hz=> ?_)
 obtain⟨z1,z2,z3⟩:=hz
 have hl:=z3.len
 refine w_br (λh=> ?_) (λ_=>⟨⟨hb.1,Q0k _⟩,z3⟩)
 have h:=of_decide_eq_true h
 have e:IntKind.wrap IntKind.i64 (IntKind.wrap IntKind.i64 (IntKind.wrap IntKind.i64 v*32)+z.1)=v*32+z.1:=by rw[IntKind.wrap_i64,IntKind.wrap_i64,IntKind.wrap_i64];omega
 refine w_cn (by rw[e];simp [Nat.blt];omega) (w_nx ?_)
 show(0≤IntKind.i64.wrap (z.1+1)∧IntKind.i64.wrap (z.1+1)≤32∧Q0u P (List.set _ _ _))∧(32-IntKind.i64.wrap (z.1+1)).toNat<(32-z.1).toNat
 have ew:IntKind.i64.wrap (z.1+1)=z.1+1:=by rw[IntKind.wrap_i64];omega
 rw[ew]
 exact⟨⟨by omega,by omega,⟨by simp [hl],z3.p1,z3.p2,Qvo z3.u U_0 _⟩⟩,by omega⟩
structure okM(P:Nat)(m:Q00):Prop where
 cpu:Q2p m.B1
 mem:Q0u P m.Mem
 disk:Q7i m.A7
 nic:Qf9 m.C4
 target:okB m.A1
 cnt:0≤m.A0
theorem Z5t(c:Q0b)(port:Int):U (Q7a c port).2:=by
 refine Tree.post (Q77 c port) (W:=λr=>U r.2) ?_
 have u1:U 4294967295:=⟨by omega,by omega⟩
 unfold Q77
 refine w_br (λ_=>w_br (λ_=>u1) (λh=>w_br (λ_=>w_cn ?_ (w_cn ?_ (Q0k _))) (λ_=>w_br (λ_=>Q0k _) (λ_=>U_0)))) (λh1=>w_br (λh=>(by rw[h1]at h;cases h)) (λ_=>w_br (λ_=>Q0k _) (λ_=>U_0)))
 · have h: ¬(c.C9.length:Int)=0:=by simpa using h
   exact decide_eq_true ⟨by omega,by omega,by omega⟩
 · have h: ¬(c.C9.length:Int)=0:=by simpa using h
   simp [Nat.blt];omega
theorem nicIn_w{n:Q0n}(h:Qf9 n)(port:Int):U (Qk1 n port):=by
 refine Tree.post (Qfw n port) (W:=U) ?_
 have u1:U 1:=⟨by omega,by omega⟩
 unfold Qfw
 exact w_br (λ_=>h.frame) (λ_=>w_br (λ_=>h.got) (λ_=>w_br (λ_=>w_br (λ_=>w_br (λ_=>Q0k _) (λ_=>u1)) (λ_=>w_br (λ_=>Q0k _) (λ_=>U_0))) (λ_=>U_0)))
theorem diskIn_w{d:Q0a}(h:Q7i d)(port:Int):U (Qlr d port):=by
 refine Tree.post (Qhg d port) (W:=U) ?_
 unfold Qhg
 exact w_br (λ_=>h.block) (λ_=>w_br (λ_=>h.frame) (λ_=>w_br (λ_=>Q0k _) (λ_=>U_0)))
theorem timerIn_w(t:Q0i):U (Qj3 t):=by
 refine Tree.post (Qg t) (W:=U) ?_
 unfold Qg
 exact w_br (λ_=>⟨by omega,by omega⟩) (λ_=>U_0)
theorem Z6k{b:Q07}(h:U b.C6)(port:Int):U (Q7f b port):=by
 refine Tree.post (Q76 b port) (W:=U) ?_
 unfold Q76
 exact w_br (λ_=>h) (λ_=>w_br (λ_=>w_lv λ_ _=>Q0k _) (λ_=>U_0))
structure okR(P:Nat)(r:Q0y):Prop where
 m:okM P r.B6
 clock:U r.Clock
structure okL(P:Nat)(r x:Q0y):Prop where
 ok:okR P x
 log:x.Log=r.Log
 queue:x.Queue=r.Queue
theorem w0(x:Int):0≤IntKind.u64.wrap x:=by rw[IntKind.wrap_u64];omega
section
variable {P:Nat} {r:Q0y} (h:okR P r)
include h
end
theorem type_w(c:Q0b)(b:Int):(Qhk c b).w (λ_=>True):=by
 unfold Qhk
 refine w_br (λ_=>trivial) (λh=>w_cn (decide_eq_true ?_) trivial)
 have h:=of_decide_eq_false h
 simp [maxLen];omega
theorem accept_w{P:Nat}{m:List Int}(hm:Q0u P m){n:Q0n}(hn:Qf9 n)(frame:List UInt8):(Qa0 n m frame).w (λr=>Qf9 r.1∧Q0u P r.2.2):=by
 unfold Qa0
 refine w_br (λ_=>⟨hn,hm⟩) (λ_=>w_br (λ_=>⟨hn,hm⟩) (λ_=>w_br (λ_=>⟨hn,hm⟩) (λ_=>w_lv λx0 hx=>w_br (λ_=>⟨hn,hm⟩) (λhb=> ?_))))
 have hp:Q26 m n.B9=true:=hx.symm.trans (by simpa using hb)
 rw[Qh6 hm hn.buffer]at hp
 have hp:=of_decide_eq_true hp
 obtain⟨b1,b2⟩:=hn.buffer
 have ew:IntKind.i64.wrap n.B9=n.B9:=by rw[IntKind.wrap_i64];omega
 exact Q0c (fill_w hm (frame:=IntKind.i64.wrap n.B9) (by rw[ew];exact b1) (by rw[ew];exact hp) frame) λx hx=>⟨⟨hn.frame,hn.len,U_0,Q0k _⟩,hx⟩
section
variable {P:Nat} {r:Q0y} (h:okR P r)
include h
end
end Go.Proofs.YtjaifpiopmhmlaaGreat

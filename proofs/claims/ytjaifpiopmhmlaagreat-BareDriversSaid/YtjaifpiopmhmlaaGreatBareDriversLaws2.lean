/-
  A part of the proof.
-/
import Derived.Test.YtjaifpiopmhmlaaGreatBareDriversYe
import Derived.Test.YtjaifpiopmhmlaaGreatBareDriversZa
import Derived.Test.YtjaifpiopmhmlaaGreatBareDriversZb
import Derived.Test.YtjaifpiopmhmlaaGreatBareDriversZg
set_option maxRecDepth 100000
set_option linter.unusedVariables false
set_option linter.unusedSimpArgs false
namespace Go.Proofs.YtjaifpiopmhmlaaGreat
open Go Go.GD
def U(x:Int):Prop:=0≤x∧x<4294967296
theorem Q0k(x:Int):U (IntKind.u32.wrap x):=by rw[IntKind.wrap_u32];unfold U;omega
theorem Z5q(x y:Int):U (iand .u32 x y):=Q0k _
theorem U_or(x y:Int):U (ior .u32 x y):=Q0k _
theorem U_0:U 0:=⟨by omega,by omega⟩
theorem Qvh{m:List Int}(h: ∀w∈m,U w){v:Int}(hv:U v)(i:Nat): ∀w∈m.set i v,U w:=by
 intro w hw
 rcases List.mem_or_eq_of_mem_set hw with h1|h1
 · exact h w h1
 · rw[h1];exact hv
structure Q0u(P:Nat)(m:List Int):Prop where
 len:m.length=32*P
 p1:0≤P
 p2:P≤32
 u: ∀w∈m,U w
structure Q7h(d:Q0a):Prop where
 block:U d.B3
 frame:U d.B0
 opBlock:U d.B5
 opFrame:U d.A9
structure Qfd(n:Q0n):Prop where
 frame:U n.B0
 len:U n.D9
 buffer:U n.B9
 got:U n.F0
theorem Qgq{l:List Int}(h: ∀w∈l,U w)(i:Nat):U (l.getD i 0):=by
 by_cases hi:i<l.length
 · have:l.getD i 0=l[i]:=by simp [List.getD,hi]
   rw[this];exact h _ (List.getElem_mem hi)
 · have:l.getD i 0=0:=by simp [List.getD,List.getElem?_eq_none (by omega:l.length≤i)]
   rw[this];exact U_0
structure Q2n(c:Q02):Prop where
 x: ∀w∈A16.l c.X,U w
 pc:U c.Pc
 csr: ∀w∈A8.l c.B4,U w
theorem Z51{X:A16 Int}(h: ∀w∈A16.l X,U w){v:Int}(hv:U v)(i:Nat): ∀w∈A16.l (A16.of 0 (List.set (A16.l X) i v)),U w:=by
 have hs:=Qvh h hv i
 intro w hw
 simp only[A16.l,A16.of,List.mem_cons,List.not_mem_nil,or_false]at hw
 repeat(first|(rcases hw with rfl|hw; · exact Qgq hs _)|(subst hw;exact Qgq hs _))
theorem Z2s{X:A8 Int}(h: ∀w∈A8.l X,U w){v:Int}(hv:U v)(i:Nat): ∀w∈A8.l (A8.of 0 (List.set (A8.l X) i v)),U w:=by
 have hs:=Qvh h hv i
 intro w hw
 simp only[A8.l,A8.of,List.mem_cons,List.not_mem_nil,or_false]at hw
 repeat(first|(rcases hw with rfl|hw; · exact Qgq hs _)|(subst hw;exact Qgq hs _))
section
variable {c:Q02} (h:Q2n c)
include h
theorem Q2n.a(i:Nat):U ((A8.l c.B4).getD i 0):=Qgq h.csr i
theorem Q2n.r(i:Nat):U ((A16.l c.X).getD i 0):=Qgq h.x i
theorem Q2n.a0:U c.B4.a0:=h.a 0
theorem Q2n.a1:U c.B4.a1:=h.a 1
theorem Q2n.a2:U c.B4.a2:=h.a 2
theorem Q2n.a3:U c.B4.a3:=h.a 3
theorem Q2n.a4:U c.B4.a4:=h.a 4
theorem Q2n.a5:U c.B4.a5:=h.a 5
theorem Q2n.a6:U c.B4.a6:=h.a 6
theorem Q2n.a7:U c.B4.a7:=h.a 7
theorem Q2n.pcs{p:Int}(hp:U p):Q2n {X:=c.X,Pc:=p,B4:=c.B4}:=⟨h.x,hp,h.csr⟩
end
section
variable {α β:Type} {W:β→Prop} {t:Tree α} {Q:α→Prop} {k:α→Tree β}
theorem Q0c(hq:t.w Q)(g: ∀x,Q x→(k x).w W):(Tree.an t.p (Tree.lv t.m k)).w W:=⟨(Tree.pp hq).1,λy hy=>g y (by rw[hy];exact(Tree.pp hq).2)⟩
theorem Z83(hq:t.w Q)(g: ∀x,Q x→(k x).w W):(Tree.lv t.m k).w W:=λy hy=>g y (by rw[hy];exact t.post hq)
end
theorem rc{r:Int}(h:0≤r∧r<16):(Nat.blt 0 1&&decide (0≤r∧r<((16:Nat):Int)))=true:=by simp [Nat.blt];omega
theorem Qph{a:Int}(h:U a)(b:Int):U (ishr .u32 a b):=by
 unfold ishr U
 obtain⟨h1,h2⟩:=h
 have hp:(0:Int)<2^(min b.toNat IntKind.u32.bits):=Int.pow_pos (by decide)
 have:=Int.fdiv_nonneg h1 (Int.le_of_lt hp)
 refine⟨this,?_⟩
 rw[Int.fdiv_eq_ediv_of_nonneg _ (Int.le_of_lt hp)]
 have h3:=Int.ediv_le_self (2^(min b.toNat IntKind.u32.bits)) h1
 omega
structure Qcg(i:Q0g):Prop where
 a:0≤i.A∧i.A<16
 b:0≤i.B∧i.B<16
 c:0≤i.C∧i.C<16
 csr:i.Op=58→0≤i.Imm∧i.Imm<8
theorem Qut{P:Nat}{m:List Int}(h:Q0u P m):Q0q m=P:=by
 obtain⟨h1,h2,h3,_⟩:=h
 simp only[Q0q,Q93,Tree.m]
 have e:(m.length:Int)=32*P:=by omega
 rw[e]
 have e1:(Int.tmod (32*(P:Int)) 32 !=0)=false:=by simp [Int.mul_tmod_right]
 have e2:decide ((32*(P:Int))>1024)=false:=decide_eq_false (by omega)
 rw[e1,e2]
 simp only[cond_false]
 rw[Int.mul_tdiv_cancel_left _ (by decide),IntKind.wrap_i64];omega
theorem mask_w(n:Int):(Q9a n).w (λ_=>True):=by
 unfold Q9a
 exact w_br (λ_=>trivial) (λ_=>w_cn (decide_eq_true (by rw[IntKind.wrap_u64];omega)) trivial)
theorem Qo5(w low n:Int):(Q7t w low n).w U:=by
 unfold Q7t
 exact w_br (λ_=>U_0) (λ_=>w_br (λ_=>U_0) (λ_=>w_br (λ_=>U_0) (λ_=>w_cn (decide_eq_true (by rw[IntKind.wrap_u64];omega)) (Q0c (mask_w n) λ_ _=>Z5q _ _))))
theorem Zba{w:Int}(hw:U w)(low n v:Int):(Q4r w low n v).w U:=by
 have h0:decide (0≤IntKind.wrap IntKind.u64 low)=true:=decide_eq_true (by rw[IntKind.wrap_u64];omega)
 unfold Q4r
 exact w_br (λ_=>hw) (λ_=>w_br (λ_=>hw) (λ_=>w_br (λ_=>hw) (λ_=>Q0c (mask_w n) λ_ _=>w_cn h0 (w_cn h0 (U_or _ _)))))
theorem Qol{x:Int}(hx:U x)(n:Int):(Q39 x n).w U:=by
 have h0: ∀y,decide (0≤IntKind.wrap IntKind.u64 y)=true:=λy=>decide_eq_true (by rw[IntKind.wrap_u64];omega)
 unfold Q39
 exact w_br (λ_=>U_0) (λ_=>w_br (λ_=>hx) (λ_=>w_cn (h0 _) (w_cn (h0 _) (Q0k _))))
section
variable {P:Nat} {m:List Int} (h:Q0u P m)
include h
theorem Q7e:Q03 m:=by
 have:=h.len
 have:=h.p2
 show m.length≤35184372088832
 omega
theorem Z26{a:Int}(ha:U a){size:Int}(hs:size=1∨size=4):(Q30 m a size).w (λb=>b=true→a+size≤128*P):=by
 have hp:=Qut h
 have h2:=h.p2
 obtain⟨a1,a2⟩:=ha
 have e:decide (IntKind.wrap IntKind.u32 size≠0)=true:=by rcases hs with rfl|rfl<;>decide
 have l: ∀x,x=Q0q m→decide (IntKind.wrap IntKind.u64 (IntKind.wrap IntKind.u64 a+IntKind.wrap IntKind.u64 size)≤IntKind.wrap IntKind.u64 (IntKind.wrap IntKind.u64 x*128))=true→a+size≤128*P:=λx hx hd=>by
   rw[hx,hp]at hd
   have:=of_decide_eq_true hd
   simp only[IntKind.wrap_u64]at this
   omega
 unfold Q30
 refine w_br (λ_=>w_br (λ_=>λh=>by cases h) (λ_=> ?_)) (λ_=> ?_)<;>
 exact w_cn e (w_br (λ_=>λh=>by cases h) (λ_=>w_lv λx hx=>l x hx))
theorem idxP{a:Int}(ha:U a)(hl:a<128*P):(Nat.beq 1 1&&Nat.blt 0 1&&decide (0≤IntKind.wrap IntKind.u32 (Int.tdiv a 4)∧IntKind.wrap IntKind.u32 (Int.tdiv a 4)<(m.length:Int)))=true:=by
 obtain⟨a1,a2⟩:=ha
 have e:IntKind.wrap IntKind.u32 (Int.tdiv a 4)=a/4:=by rw[IntKind.wrap_u32,Int.tdiv_eq_ediv_of_nonneg a1];omega
 have:=h.len
 rw[e];simp [Nat.blt];omega
theorem Qld{a:Int}(ha:U a){size:Int}(hs:size=1∨size=4):(Q3g m a size).w (λr=>U r.1∧(r.2=true→a<128*P)):=by
 unfold Q3g
 refine Q0c (Z26 h ha hs) λx hx=>w_br (λ_=>⟨U_0,λh=>by cases h⟩) (λhb=> ?_)
 have hl:=hx (by simpa using hb)
 have hl:a<128*P:=by omega
 exact w_cn (idxP h ha hl) (w_br (λ_=>Q0c (Qo5 _ _ _) λy hy=>⟨hy,λ_=>hl⟩) (λ_=>⟨Qgq h.u _,λ_=>hl⟩))
theorem Qrm{a:Int}(ha:U a){size:Int}(hs:size=1∨size=4){v:Int}(hv:U v):(Q4f m a size v).w (λr=>Q0u P r.1):=by
 have st: ∀i v,U v→Q0u P (m.set i v):=λi v hv=>⟨by simp [h.len],h.p1,h.p2,Qvh h.u hv i⟩
 have hcl:Q01 m=m:=rfl
 unfold Q4f
 refine w_an (Q7e h) (w_lv λx0 hx0=> ?_)
 rw[hcl]at hx0;subst hx0
 refine Q0c (Z26 h ha hs) λx hx=>w_br (λ_=>h) (λhb=> ?_)
 have hl:=hx (by simpa using hb)
 have hl:a<128*P:=by omega
 exact w_br (λ_=>w_cn (idxP h ha hl) (Q0c (Zba (Qgq h.u _) _ _ _) λy hy=>w_cn (idxP h ha hl) (st _ _ hy))) (λ_=>w_cn (idxP h ha hl) (st _ _ hv))
end
theorem Z70{r:Int}{used:Bool}(h:Q7x r used=true):0≤r∧r<16:=by
 simp only[Q7x,Qbj,Tree.m]at h
 cases used
 · have h:(r==0)=true:=h
   have:=eq_of_beq h;omega
 · cases h1:decide (r≥0)<;>rw[h1]at h
   · cases h
   · have h1:=of_decide_eq_true h1
     have h:=of_decide_eq_true h
     omega
theorem validP_ok{i:Q0g}(h:Qbz i=true):Qcg i:=by
 have no:false=true→Qcg i:=λh=>by cases h
 refine(Tree.post (Qeo i) (W:=λb=>b=true→Qcg i) ?_) h
 unfold Qeo
 refine w_lv λx0 h0=>w_br (λ_=>w_lv λx1 h1=>w_br (λb1=>w_lv λx2 h2=>w_br (λb2=>w_lv λx3 h3=>w_br (λb3=>w_br (λb4=>λb5=> ?_) (λ_=>no)) (λ_=>no)) (λ_=>no)) (λ_=>no)) (λ_=>no)
 have b4:=of_decide_eq_true b4
 have b5:=of_decide_eq_true b5
 refine⟨Z70 (h1.symm.trans b1),Z70 (h2.symm.trans b2),Z70 (h3.symm.trans b3),λe=> ?_⟩
 rw[e]at h0
 have h0:x0=({a:=true,b:=false,c:=false,low:=0,D1:=7},true):=h0
 subst h0
 simp at b4 b5;omega
theorem Qtj(w:Int):(Q4k w).w (λr=>r.2=true→Qcg r.1):=by
 have no: ∀{p:Prop},false=true→p:=λh=>by cases h
 have l: ∀i,(Tree.lv (Qbz i) λx=> .br (!x) (.lf ((⟨0,0,0,0,0⟩:Q0g),false)) (.lf (i,true))).w (λr=>r.2=true→Qcg r.1):=λi=>w_lv λx hx=>w_br (λ_=>no) (λhb=>λ_=>validP_ok (hx.symm.trans (by simpa using hb)))
 unfold Q4k
 exact Q0c (Qo5 _ _ _) λx0 _=>Q0c (Qo5 _ _ _) λx1 _=>Q0c (Qo5 _ _ _) λx2 _=>w_lv λx3 _=>w_br (λ_=>no) (λ_=>Q0c (Qo5 _ _ _) λx4 h4=>w_br (λ_=>l _) (λ_=>w_br (λ_=>Q0c (Qol h4 _) λx6 _=>l _) (λ_=>l _)))
section
variable {P:Nat} {m:List Int} (h:Q0u P m)
include h
theorem pageP_eq{f:Int}(hf:U f):Q8i m f=decide (f<P):=by
 have:=Qut h
 obtain⟨h1,h2⟩:=hf
 have h3:=h.p2
 simp only[Q8i,Qer,Tree.m,letv,this]
 congr 1
 rw[IntKind.wrap_u64,IntKind.wrap_u64,Int.emod_eq_of_lt h1 (by omega),Int.emod_eq_of_lt (by omega) (by omega)]
theorem walkP_w{root va:Int}(hv:U va)(access:Int):(Q5i m root va access).w (λt=>U t.Addr∧U t.E0):=by
 have bad:U (0:Int)∧U (0:Int):=⟨U_0,U_0⟩
 have fr: ∀x,(Q40 x).w U:=λx=>by
   unfold Q40
   exact Q0c (Qo5 _ _ _) λy hy=>hy
 unfold Q5i
 exact w_lv λx0 _=>w_br (λ_=>bad) (λ_=>w_br (λ_=>bad) (λ_=>w_lv λx1 _=>w_br (λ_=>bad) (λ_=>Q0c (Qld h (Q0k _) (.inr rfl)) λx2 _=>w_br (λ_=>bad) (λ_=>w_lv λx3 _=>w_br (λ_=>bad) (λ_=>Q0c (fr _) λx4 _=>w_lv λx5 _=>w_br (λ_=>bad) (λ_=>Q0c (fr _) λx6 _=>⟨Q0k _,Q0k _⟩))))))
theorem touchP_w{a:Int}(ha:U a)(access:Int):(Q4i m a access).w (Q0u P):=by
 have hcl:Q01 m=m:=rfl
 unfold Q4i
 exact Q0c (Qld h ha (.inr rfl)) λx0 _=>w_br (λ_=>w_an (Q7e h) (w_lv λx1 h1=>by rw[h1,hcl];exact h)) (λ_=>w_br (λ_=>Q0c (Qrm h ha (.inr rfl) (U_or _ _)) λx hx=>hx) (λ_=>Q0c (Qrm h ha (.inr rfl) (U_or _ _)) λx hx=>hx))
theorem Qgy{c:Q02}{va:Int}(hv:U va){size:Int}(hs:size=1∨size=4)(access:Int):(Q3i c m va size access).w (λr=>U r.1∧Q0u P r.2.1):=by
 have hcl:Q01 m=m:=rfl
 have e:decide (IntKind.wrap IntKind.u32 size≠0)=true:=by rcases hs with rfl|rfl<;>decide
 have cl: ∀(K:List Int→Int×List Int×Int),(∀x,x=m→U (K x).1∧Q0u P (K x).2.1)→(Tree.an (Q03 m) (.lv (Q01 m) λx=> .lf (K x))).w (λr=>U r.1∧Q0u P r.2.1):=λK hK=>w_an (Q7e h) (w_lv λx hx=>hK x (hx.trans hcl))
 have z: ∀(k:Nat) (x:List Int),x=m→U (0:Int)∧Q0u P x:=λ_ x hx=>⟨U_0,hx▸h⟩
 have v: ∀x,x=m→U va∧Q0u P x:=λx hx=>⟨hv,hx▸h⟩
 have main: ∀(x0:Int×Bool),(Tree.cn (decide (IntKind.wrap IntKind.u32 size≠0)) (.br (Int.tmod va (IntKind.wrap IntKind.u32 size) !=0) (.an (Q03 m) (.lv (Q01 m) λx3=> .lf ((0:Int),x3,(3:Int)))) (.lv (Q8e c) λx4=> .br (!x4) (.br (iand IntKind.u32 c.B4.a0 4 !=0) (.an (Qag m c.B4.a6 va access) (.lv (Qew m c.B4.a6 va access) λx5=> .br (x5.D8 !=0) (.an (Q03 m) (.lv (Q01 m) λx6=> .lf (0,x6,x5.D8))) (.an (Q98 m x5.E0 access) (.lv (Q9k m x5.E0 access) λx7=> .lf (x5.Addr,x7,0))))) (.an (Q2q m va size) (.lv (Q41 m va size) λx8=> .br (!x8.2) (.an (Q03 m) (.lv (Q01 m) λx9=> .lf (0,x9,x0.1))) (.an (Q03 m) (.lv (Q01 m) λx10=> .lf (va,x10,0)))))) (.an (Q2q m va size) (.lv (Q41 m va size) λx11=> .br (!x11.2) (.an (Q03 m) (.lv (Q01 m) λx12=> .lf (0,x12,x0.1))) (.an (Q03 m) (.lv (Q01 m) λx13=> .lf (va,x13,0)))))))).w (λr=>U r.1∧Q0u P r.2.1):=λx0=>
   w_cn e (w_br (λ_=>cl _ (z 0)) (λ_=>w_lv λx4 _=>w_br (λ_=>w_br (λ_=>Q0c (walkP_w h hv access) λx5 hx=>w_br (λ_=>cl _ (z 0)) (λ_=>Q0c (touchP_w h hx.2 access) λx7 h7=>⟨hx.1,h7⟩)) (λ_=>Q0c (Qld h hv hs) λx8 _=>w_br (λ_=>cl _ (z 0)) (λ_=>cl _ v))) (λ_=>Q0c (Qld h hv hs) λx8 _=>w_br (λ_=>cl _ (z 0)) (λ_=>cl _ v))))
 unfold Q3i
 exact w_lv λx0 _=>w_br (λ_=>cl _ (z 0)) (λ_=>w_br (λ_=>w_br (λ_=>cl _ (z 0)) (λ_=>main x0)) (λ_=>main x0))
theorem Qzy{c:Q02}(hc:Q2n c):(Q6n c m).w (λr=>U r.1∧Q0u P r.2.1):=by
 unfold Q6n
 exact Q0c (Qgy h hc.pc (.inr rfl) 1) λx0 h0=>w_br (λ_=>⟨U_0,h0.2⟩) (λ_=>Q0c (Qld h0.2 h0.1 (.inr rfl)) λx1 h1=>⟨h1.1,h0.2⟩)
end
theorem moveP_w{s a b:Int}:U (Q7g s a b):=by
 refine Tree.post (Qka s a b) (W:=U) ?_
 unfold Qka
 exact w_br (λ_=>Q0k _) (λ_=>Q0k _)
section
variable {c:Q02} (h:Q2n c)
include h
theorem Qin(k:Int){b:Int}(hb:U b):Q2n (Q3w c k b):=by
 refine(Tree.post (Qgj c k b) (W:=Q2n) ?_)
 unfold Qgj
 refine w_lv λ_ _=>w_lv λ_ _=>⟨h.x,h.a1,?_⟩
 intro w hw
 simp only[A8.l,List.mem_cons,List.not_mem_nil,or_false]at hw
 rcases hw with rfl|rfl|rfl|rfl|rfl|rfl|rfl|rfl
 · exact Q0k _
 · exact h.a1
 · exact h.pc
 · exact Q0k _
 · exact hb
 · exact h.a5
 · exact h.a6
 · exact h.a7
theorem returnP_w:Q2n (Qba c):=by
 refine(Tree.post (Qcb c) (W:=Q2n) ?_)
 unfold Qcb
 refine w_lv λx0 _=>w_lv λx1 h1=>⟨h.x,h.a2,?_⟩
 intro w hw
 simp only[A8.l,List.mem_cons,List.not_mem_nil,or_false]at hw
 rcases hw with rfl|rfl|rfl|rfl|rfl|rfl|rfl|rfl
 · rw[h1];exact moveP_w
 · exact h.a1
 · exact h.a2
 · exact h.a3
 · exact h.a4
 · exact h.a5
 · exact h.a6
 · exact h.a7
theorem Qlc{r:Int}(hr:0≤r∧r<16){v:Int}(hv:U v):(Q7p c r v).w Q2n:=by
 unfold Q7p
 exact w_br (λ_=>w_cn (rc hr) ⟨Z51 h.x hv _,h.pc,h.csr⟩) (λ_=>h)
theorem Z80(k:Int){v:Int}(hv:U v):(Q6u c k v).w Q2n:=by
 have ok: ∀i v,U v→Q2n {X:=c.X,Pc:=c.Pc,B4:=A8.of 0 (List.set (A8.l c.B4) i v)}:=λi v hv=>⟨h.x,h.pc,Z2s h.csr hv i⟩
 unfold Q6u
 repeat'(first
   |exact h
   |exact ok _ _ (Q0k _)
   |exact ok _ _ hv
   |refine w_br (λhk=> ?_) (λ_=> ?_)
   |refine w_cn (by rw[eq_of_beq (by assumption:(k==_)=true)];decide) ?_)
end
theorem Z2r{a b:Int}(ha:U a)(hb:U b):(Q5b a b).w (λr=>U r.1∧U r.2):=by
 have u1:U 4294967295:=⟨by omega,by omega⟩
 unfold Q5b
 refine w_br (λ_=>⟨u1,ha⟩) (λh=> ?_)
 have h: ¬b=0:=by simpa using h
 obtain⟨b1,b2⟩:=hb
 have hc:decide (IntKind.wrap IntKind.i32 b≠0)=true:=decide_eq_true (by rw[IntKind.wrap_i32];omega)
 exact w_br (λ_=>w_br (λ_=>⟨ha,U_0⟩) (λ_=>w_cn hc (w_cn hc ⟨Q0k _,Q0k _⟩))) (λ_=>w_cn hc (w_cn hc ⟨Q0k _,Q0k _⟩))
theorem truth_w(b:Bool):U (Qit b):=by cases b<;>exact⟨by decide,by decide⟩
theorem Qwp(op:Int){a b:Int}(ha:U a)(hb:U b):(Qf3 op a b).w (λr=>U r.1):=by
 unfold Qf3
 repeat'(first
   |refine w_br (λ_=> ?_) (λ_=> ?_)
   |exact Q0c (Z2r ha hb) λx hx=>hx.1
   |exact Q0c (Z2r ha hb) λx hx=>hx.2
   |exact w_lv λx hx=>(by rw[hx];exact truth_w _)
   |refine w_lf ?_)
 all_goals(first
   |exact Q0k _
   |exact Qph ha _
   |exact U_0)
theorem Qyr(op:Int):Qbw op=1∨Qbw op=4:=by
 simp only[Qbw,Qlz,Tree.m]
 cases op==32<;>cases op==35<;>simp
section
variable {c:Q02} (h:Q2n c) {i:Q0g} (hi:Qcg i)
include h hi
theorem Z93:(Q32 c i).w (λr=>Q2n r.1∧U r.2.Value):=by
 have k: ∀{x:Q02} {p:Int},Q2n x→U p→Q2n {X:=x.X,Pc:=p,B4:=x.B4}:=λhx hp=>⟨hx.x,hp,hx.csr⟩
 unfold Q32
 refine w_cn (rc hi.a) (w_cn (rc hi.b) ?_)
 repeat'(first
   |refine w_br (λ_=> ?_) (λ_=> ?_)
   |exact Q0c (Qlc h hi.a (Q0k _)) λx hx=>⟨k hx (Q0k _),U_0⟩
   |exact w_lv λx _=>w_br (λ_=>⟨k h (Q0k _),U_0⟩) (λ_=>⟨k h (Q0k _),U_0⟩)
   |exact w_lv λx hx=>⟨by rw[hx];exact Qin h _ U_0,U_0⟩
   |exact w_lv λx hx=>⟨by rw[hx];exact returnP_w h,U_0⟩
   |exact w_cn (by have:=hi.csr (by simp_all);simp [Nat.blt];omega) (Q0c (Qlc h hi.a (h.a _)) λx hx=>⟨k hx (Q0k _),U_0⟩)
   |exact Q0c (Z80 h _ (h.r _)) λx hx=>⟨k hx (Q0k _),U_0⟩
   |refine w_cn (rc hi.c) ?_
   |exact Q0c (Qwp _ (h.r _) (Q0k _)) λy hy=>Q0c (Qlc h hi.a hy) λx hx=>⟨k hx (Q0k _),U_0⟩
   |exact Q0c (Qwp _ (h.r _) (h.r _)) λy hy=>Q0c (Qlc h hi.a hy) λx hx=>⟨k hx (Q0k _),U_0⟩
   |refine w_lf ?_)
 all_goals(first
   |exact⟨k h (Q0k _),U_0⟩
   |exact⟨k h (Q0k _),h.r _⟩)
theorem Qsc{P:Nat}{m:List Int}(hm:Q0u P m):(Q87 c m i).w (λr=>Q2n r.1∧Q0u P r.2):=by
 have w:=Qyr i.Op
 unfold Q87
 refine w_cn (rc hi.b) (w_lv λx0 h0=> ?_)
 rw[←h0]at w
 refine Q0c (Qgy hm (Q0k _) w 2) λx1 h1=>w_br (λ_=>w_lv λy hy=>⟨by rw[hy];exact Qin h _ (Q0k _),h1.2⟩) (λ_=>w_lv λx3 h3=> ?_)
 rw[h0,←h3]at w
 exact Q0c (Qld h1.2 h1.1 w) λx4 h4=>w_br (λ_=>Q0c (Qol h4.1 8) λy hy=>Q0c (Qlc h hi.a hy) λx hx=>⟨⟨hx.x,Q0k _,hx.csr⟩,h1.2⟩) (λ_=>Q0c (Qlc h hi.a h4.1) λx hx=>⟨⟨hx.x,Q0k _,hx.csr⟩,h1.2⟩)
theorem Qq9{P:Nat}{m:List Int}(hm:Q0u P m):(Q6m c m i).w (λr=>Q2n r.1∧Q0u P r.2):=by
 have w:=Qyr i.Op
 unfold Q6m
 refine w_cn (rc hi.b) (w_lv λx0 h0=> ?_)
 rw[←h0]at w
 refine Q0c (Qgy hm (Q0k _) w 3) λx1 h1=>w_br (λ_=>w_lv λy hy=>⟨by rw[hy];exact Qin h _ (Q0k _),h1.2⟩) (λ_=>w_lv λx3 h3=>w_cn (rc hi.a) ?_)
 rw[h0,←h3]at w
 exact Q0c (Qrm h1.2 h1.1 w (h.r _)) λx hx=>⟨⟨h.x,Q0k _,h.csr⟩,hx⟩
end
theorem execP_w{c:Q02}(h:Q2n c){P:Nat}{m:List Int}(hm:Q0u P m):(Q4m c m).w (λr=>Q2n r.1∧Q0u P r.2.1∧U r.2.2.Value):=by
 unfold Q4m
 refine Q0c (Qzy hm h) λx0 h0=>w_br (λ_=>w_lv λy hy=>⟨by rw[hy];exact Qin h _ h.pc,h0.2,U_0⟩) (λ_=>Q0c (Qtj _) λx2 h2=>w_br (λ_=>w_lv λy hy=>⟨by rw[hy];exact Qin h _ h0.1,h0.2,U_0⟩) (λhb=> ?_))
 have hi:=h2 (by simpa using hb)
 refine w_lv λx4 _=> ?_
 repeat'(first
   |refine w_br (λ_=> ?_) (λ_=> ?_)
   |exact Q0c (Qsc h hi h0.2) λx hx=>⟨hx.1,hx.2,U_0⟩
   |exact Q0c (Qq9 h hi h0.2) λx hx=>⟨hx.1,hx.2,U_0⟩
   |exact Q0c (Z93 h hi) λx hx=>⟨hx.1,h0.2,hx.2⟩
   |exact w_lv λy hy=>⟨by rw[hy];exact Qin h _ h0.1,h0.2,U_0⟩
   |refine w_lv λ_ _=> ?_)
theorem Z8l{a:Int}(h:U a)(k:Nat)(hk:k≤32):0≤ishr .u32 a k∧ishr .u32 a k*2^k≤a:=by
 obtain⟨h1,h2⟩:=h
 unfold ishr
 have e:min (k:Int).toNat IntKind.u32.bits=k:=by show min (k:Int).toNat 32=k;omega
 have hp:(0:Int)<2^k:=Int.pow_pos (by decide)
 rw[e,Int.fdiv_eq_ediv_of_nonneg _ (Int.le_of_lt hp)]
 exact⟨Int.ediv_nonneg h1 (Int.le_of_lt hp),Int.ediv_mul_le a (Int.ne_of_gt hp)⟩
theorem Z8u(x:Int):0≤IntKind.u8.wrap x∧IntKind.u8.wrap x<256:=by rw[IntKind.wrap_u8];omega
theorem len32_w{x:Int}(h:U x):(Q1j x).w (λ_=>True):=by
 have s16:=Z8l h 16 (by omega)
 have s8:=Z8l h 8 (by omega)
 have s24:=Z8l (Qph h 16) 8 (by omega)
 obtain⟨h1,h2⟩:=h
 unfold Q1j
 repeat'(first
   |refine w_br (λ_=> ?_) (λ_=> ?_)
   |refine w_cn (decide_eq_true ⟨?_,Int.lt_of_lt_of_le (b:=256) ?_ (Int.le_of_eq (by kernel_rfl))⟩) ?_
   |exact trivial
   |refine w_lf ?_)
 all_goals(first
   |trivial
   |exact(Z8u _).1
   |exact(Z8u _).2
   |(simp only[decide_eq_true_eq,decide_eq_false_iff_not]at*;simp at s16 s8 s24;omega))
theorem and255(a:Int):iand .u32 a 255<256:=by
 unfold iand
 rw[IntKind.wrap_u32]
 have:(BitVec.ofInt IntKind.u32.bits a&&&BitVec.ofInt IntKind.u32.bits 255).toNat≤255:=by
   show(BitVec.ofInt 32 a&&&BitVec.ofInt 32 255).toNat≤255
   rw[BitVec.toNat_and]
   exact Nat.le_trans Nat.and_le_right (by decide)
 omega
theorem ones_w{x:Int}(h:U x):(Q1s x).w (λ_=>True):=by
 have s24:=Z8l h 24 (by omega)
 obtain⟨h1,h2⟩:=h
 have i24:ishr .u32 x 24<256:=by simp at s24;omega
 unfold Q1s
 repeat'(first
   |refine w_cn (decide_eq_true ⟨?_,Int.lt_of_lt_of_le (b:=256) ?_ (Int.le_of_eq (by kernel_rfl))⟩) ?_
   |exact trivial
   |refine w_lf ?_)
 all_goals(first
   |trivial
   |exact(Q0k _).1
   |exact s24.1
   |exact i24
   |exact and255 _)
structure okS(P:Nat)(m:Q00):Prop where
 cpu:Q2n m.B1
 mem:Q0u P m.Mem
 disk:Q7h m.A6
 nic:Qfd m.C5
 target:U m.A1.C6
 given:U m.A1.C0
theorem Z8n{b:Q07}(h:U b.C0):(Q4t b).w (λ_=>True):=by
 unfold Q4t
 exact Q0c (ones_w h) λ_ _=>trivial
theorem Z7d{m:Q00}(h:U m.A1.C0):(Q4d m).w (λ_=>True):=by
 have b: ∀x,(Q33 m.A1 x).w (λ_=>True):=λx=>by
   unfold Q33
   exact Q0c (len32_w h) λ_ _=>trivial
 have d:(Q1e m).w (λ_=>True):=by
   unfold Q1e
   exact w_lv λ_ _=>w_lv λ_ _=>w_br (λ_=>w_lv λ_ _=>w_br (λ_=>w_lv λ_ _=>w_br (λ_=>w_lv λ_ _=>w_br (λ_=>Q0c (b _) λ_ _=>trivial) (λ_=>trivial)) (λ_=>trivial)) (λ_=>trivial)) (λ_=>trivial)
 unfold Q4d
 repeat'(first
   |refine w_br (λ_=> ?_) (λ_=> ?_)
   |exact Q0c d λ_ _=>trivial
   |refine w_lv λ_ _=> ?_
   |exact trivial)
theorem Z8j{m:Q00}(h:U m.A1.C0):(Q3t m).w (λ_=>True):=by
 have p:(Q2x m.A1).w (λ_=>True):=by
   unfold Q2x
   exact Q0c (Z8n h) λ_ _=>trivial
 unfold Q3t
 refine w_lv λx0 _=>w_lv λx1 _=>w_lv λx2 _=>w_lv λx3 _=>Q0c p λx4 _=>w_lp (inv:=λz=>0≤z.2∧z.2≤5) (μ:=Qf6 m) ⟨by omega,by omega⟩ (Nat.lt_succ_self _) (λz hz=> ?_)
 obtain⟨z1,z2⟩:=hz
 have ew:z.2<5→IntKind.i64.wrap (z.2+1)=z.2+1:=λ_=>by rw[IntKind.wrap_i64];omega
 refine w_br (λhb=> ?_) (λ_=>trivial)
 have hb:=of_decide_eq_true hb
 have nx:(0≤IntKind.i64.wrap (z.2+1)∧IntKind.i64.wrap (z.2+1)≤5)∧(5-IntKind.i64.wrap (z.2+1)).toNat<(5-z.2).toNat:=by rw[ew hb];omega
 refine w_cn (by simp;omega) (w_br (λ_=>w_cn (decide_eq_true z1) (w_nx nx)) (λ_=>w_nx nx))
theorem Qnv{m:Q00}(h:U m.A1.C0):(Q1y m).w U:=by
 unfold Q1y
 exact Q0c (Z8j h) λ_ _=>Z5q _ _
theorem Z5m{m:Q00}(h:U m.A1.C0):(Q2m m).w (λ_=>True):=by
 have i:(Q29 m).w (λ_=>True):=by
   unfold Q29
   exact w_br (λ_=>Q0c (Qnv h) λ_ _=>trivial) (λ_=>trivial)
 unfold Q2m
 exact Q0c (Z7d h) λ_ _=>w_br (λ_=>w_br (λ_=>Q0c i λ_ _=>w_br (λ_=>trivial) (λ_=>trivial)) (λ_=>trivial)) (λ_=>trivial)
theorem beginP_w{P:Nat}{m:Q00}(h:okS P m):(Q1w m).w (okS P):=by
 obtain⟨h1,h2,h3,h4,h5,h6⟩:=h
 unfold Q1w
 refine w_br (λ_=>⟨h1,h2,h3,h4,h5,h6⟩) (λ_=>Q0c (Qnv (m:=⟨_,_,_,_,_,_,m.A1,_,_,_⟩) h6) λx0 _=>w_lp (inv:=λz=>0≤z∧z≤5) (μ:=Q9e m) ⟨by omega,by omega⟩ (Nat.lt_succ_self _) (λz hz=> ?_))
 obtain⟨z1,z2⟩:=hz
 refine w_br (λhb=>w_cn (decide_eq_true z1) (w_br (λ_=>w_lv λx1 hx=>⟨by rw[hx];exact Qin h1 _ U_0,h2,h3,h4,h5,h6⟩) (λ_=>w_nx ?_))) (λ_=>⟨h1,h2,h3,h4,h5,h6⟩)
 have hb:=of_decide_eq_true hb
 show(0≤IntKind.i64.wrap (z+1)∧IntKind.i64.wrap (z+1)≤5)∧(5-IntKind.i64.wrap (z+1)).toNat<(5-z).toNat
 have ew:IntKind.i64.wrap (z+1)=z+1:=by rw[IntKind.wrap_i64];omega
 rw[ew];omega
theorem Qbl{P:Nat}{m:List Int}(h:Q0u P m):Q4 m=P:=by
 obtain⟨h1,h2,h3,_⟩:=h
 simp only[Q4,Qq4,Tree.m]
 have e:(m.length:Int)=32*P:=by omega
 rw[e]
 have e1:(Int.tmod (32*(P:Int)) 32 !=0)=false:=by simp [Int.mul_tmod_right]
 have e2:decide ((32*(P:Int))>1024)=false:=decide_eq_false (by omega)
 rw[e1,e2]
 simp only[cond_false]
 rw[Int.mul_tdiv_cancel_left _ (by decide),IntKind.wrap_i64];omega
theorem Qh9{P:Nat}{m:List Int}(h:Q0u P m){f:Int}(hf:U f):Q22 m f=decide (f<P):=by
 have:=Qbl h
 obtain⟨h1,h2⟩:=hf
 have h3:=h.p2
 simp only[Q22,Qh4,Tree.m,letv,this]
 congr 1
 rw[IntKind.wrap_u64,IntKind.wrap_u64,Int.emod_eq_of_lt h1 (by omega),Int.emod_eq_of_lt (by omega) (by omega)]
theorem put_w{P:Nat}{m:List Int}(h:Q0u P m){addr size v:Int}(ha:U addr)(hl:addr<4*m.length)(hv:U v):(Qdu m addr size v).w (Q0u P):=by
 obtain⟨h1,h2,h3,h4⟩:=h
 obtain⟨a1,a2⟩:=ha
 have e:IntKind.wrap IntKind.u32 (Int.tdiv addr 4)=addr/4:=by rw[IntKind.wrap_u32,Int.tdiv_eq_ediv_of_nonneg a1];omega
 have hc:(Nat.beq 1 1&&Nat.blt 0 1&&decide (0≤IntKind.wrap IntKind.u32 (Int.tdiv addr 4)∧IntKind.wrap IntKind.u32 (Int.tdiv addr 4)<(m.length:Int)))=true:=by
   rw[e];simp [Nat.blt];omega
 have h0: ∀x,decide (0≤IntKind.wrap IntKind.u32 x)=true:=λx=>decide_eq_true (Q0k x).1
 have hs: ∀i v,U v→Q0u P (m.set i v):=λi v hv=>⟨by simp [h1],h2,h3,Qvh h4 hv i⟩
 unfold Qdu
 exact w_br (λ_=>w_cn hc (hs _ _ hv)) (λ_=>w_cn hc (w_cn (h0 _) (w_cn (h0 _) (w_cn hc (hs _ _ (U_or _ _))))))
theorem fill_w{P:Nat}{m:List Int}(h:Q0u P m){frame:Int}(f0:0≤frame)(f1:frame<P)(s:List UInt8):(Q9f m frame s).w (Q0u P):=by
 unfold Q9f
 have h3:=h.p2
 refine w_lp (inv:=λz=>0≤z.1∧z.1≤128∧Q0u P z.2) (μ:=Qdx m frame s) ⟨by omega,by omega,h⟩ (Nat.lt_succ_self _) (λv0 hv0=> ?_)
 obtain⟨i0,i1,hm⟩:=hv0
 refine w_br (λh1=>w_br (λh2=>w_cn ?_ ?_) (λ_=>hm)) (λ_=>hm)
 · have:=of_decide_eq_true h1
   simp [Nat.blt];omega
 · have h2:=of_decide_eq_true h2
   have e:IntKind.wrap IntKind.u32 (IntKind.wrap IntKind.i64 (IntKind.wrap IntKind.i64 (frame*128)+v0.1))=frame*128+v0.1:=by
     rw[IntKind.wrap_u32,IntKind.wrap_i64,IntKind.wrap_i64];omega
   rw[e]
   obtain⟨g1,g2⟩:=Tree.pp (put_w hm (size:=1) (addr:=frame*128+v0.1) ⟨by omega,by omega⟩ (by rw[hm.len];omega) (Q0k (UInt8.toNat (s.getD v0.1.toNat 0))))
   refine w_an g1 (w_lv λx0 hx0=> ?_)
   rw[hx0]
   have ew:IntKind.i64.wrap (v0.1+1)=v0.1+1:=by rw[IntKind.wrap_i64];omega
   refine w_nx ?_
   show(0≤IntKind.i64.wrap (v0.1+1)∧IntKind.i64.wrap (v0.1+1)≤128∧Q0u P _)∧(128-IntKind.i64.wrap (v0.1+1)).toNat<(128-v0.1).toNat
   rw[ew]
   exact⟨⟨by omega,by omega,g2⟩,by omega⟩
theorem finish_w{P:Nat}{m:List Int}(h:Q0u P m){d:Q0a}(hd:Q7h d)(e:Q0p):(Qa2 d m e).w (λr=>Q7h r.1∧Q0u P r.2.2):=by
 have fl:Q22 m d.A9=true→(Q9f m (IntKind.i64.wrap d.A9) e.C3).w (Q0u P):=λhp=>by
   rw[Qh9 h hd.opFrame]at hp
   have:=of_decide_eq_true hp
   have h1:=hd.opFrame.1
   have h3:=h.p2
   have ew:IntKind.i64.wrap d.A9=d.A9:=by rw[IntKind.wrap_i64];omega
   rw[ew]
   exact fill_w h h1 this _
 have l0:Q7h d∧Q0u P m:=⟨hd,h⟩
 have l1: ∀st,Q7h {Blocks:=d.Blocks,B3:=d.B3,B0:=d.B0,B8:=st,D6:=0,B5:=0,A9:=0,C1:=[]}:=λst=>⟨hd.block,hd.frame,U_0,U_0⟩
 unfold Qa2
 repeat'(first
   |exact l0
   |exact⟨l1 _,h⟩
   |refine w_br (λ_=> ?_) (λ_=> ?_)
   |refine w_lv (λ_ _=> ?_))
 all_goals(
   first
     | (have hp:Q22 m d.A9=true:=by simp_all
        obtain⟨g1,g2⟩:=Tree.pp (fl hp)
        refine w_an g1 (w_lv λx hx=> ?_)
        rw[hx]
        exact w_br (λ_=>⟨l1 _,g2⟩) (λ_=>⟨l1 _,g2⟩))
     |(exfalso;simp_all;done))
section
variable {c:Q02} (h:Q2n c)
include h
theorem Qtl(k:Int){b:Int}(hb:U b):Q2n (Q2u c k b):=by
 refine(Tree.post (Qhw c k b) (W:=Q2n) ?_)
 unfold Qhw
 refine w_lv λ_ _=>w_lv λ_ _=>⟨h.x,h.a1,?_⟩
 intro w hw
 simp only[A8.l,List.mem_cons,List.not_mem_nil,or_false]at hw
 rcases hw with rfl|rfl|rfl|rfl|rfl|rfl|rfl|rfl
 · exact U_or _ _
 · exact h.a1
 · exact h.pc
 · exact Q0k _
 · exact hb
 · exact h.a5
 · exact h.a6
 · exact h.a7
theorem return_w:Q2n (Qhb c):=by
 refine(Tree.post (Qdi c) (W:=Q2n) ?_)
 unfold Qdi
 refine w_lv λ_ _=>w_lv λ_ _=>⟨h.x,h.a2,?_⟩
 intro w hw
 simp only[A8.l,List.mem_cons,List.not_mem_nil,or_false]at hw
 rcases hw with rfl|rfl|rfl|rfl|rfl|rfl|rfl|rfl
 · exact U_or _ _
 · exact h.a1
 · exact h.a2
 · exact h.a3
 · exact h.a4
 · exact h.a5
 · exact h.a6
 · exact h.a7
theorem Qyw(r:Int){v:Int}(hv:U v):(Qdt c r v).w Q2n:=by
 unfold Qdt
 refine w_br (λh1=>w_br (λh2=>w_cn ?_ ⟨Z51 h.x hv _,h.pc,h.csr⟩) (λ_=>h)) (λ_=>h)
 have h1:=of_decide_eq_true h1
 have h2:=of_decide_eq_true h2
 simp [Nat.blt];omega
theorem write_w(k:Int){v:Int}(hv:U v):(Qc4 c k v).w Q2n:=by
 have ok: ∀i v,U v→Q2n {X:=c.X,Pc:=c.Pc,B4:=A8.of 0 (List.set (A8.l c.B4) i v)}:=λi v hv=>⟨h.x,h.pc,Z2s h.csr hv i⟩
 unfold Qc4
 repeat'(first
   |exact h
   |exact ok _ _ (Q0k _)
   |exact ok _ _ hv
   |refine w_br (λhk=> ?_) (λ_=> ?_)
   |refine w_cn (by rw[eq_of_beq (by assumption:(k==_)=true)];decide) ?_)
end
section
variable {P:Nat} {m:List Int} (h:Q0u P m)
include h
theorem Z0j(a:Int){size:Int}(hs:size=1∨size=4):(Q8j m a size).w (λb=>b=true→a<128*P):=by
 have hp:=Qbl h
 have h2:=h.p2
 have e:decide (IntKind.wrap IntKind.u32 size≠0)=true:=by rcases hs with rfl|rfl<;>decide
 have l: ∀x,x=Q4 m→decide (a<IntKind.wrap IntKind.u32 (IntKind.wrap IntKind.i64 (128*x)))=true→a<128*P:=λx hx hd=>by
   rw[hx,hp,IntKind.wrap_u32,IntKind.wrap_i64]at hd
   have:=of_decide_eq_true hd
   omega
 unfold Q8j
 refine w_br (λ_=>w_br (λ_=>λh=>by cases h) (λ_=> ?_)) (λ_=> ?_)<;>
 exact w_cn e (w_br (λ_=>w_lv λx hx=>l x hx) (λ_=>λh=>by cases h))
theorem idx{a:Int}(ha:U a)(hl:a<128*P):(Nat.beq 1 1&&Nat.blt 0 1&&decide (0≤IntKind.wrap IntKind.u32 (Int.tdiv a 4)∧IntKind.wrap IntKind.u32 (Int.tdiv a 4)<(m.length:Int)))=true:=by
 obtain⟨a1,a2⟩:=ha
 have e:IntKind.wrap IntKind.u32 (Int.tdiv a 4)=a/4:=by rw[IntKind.wrap_u32,Int.tdiv_eq_ediv_of_nonneg a1];omega
 have:=h.len
 rw[e];simp [Nat.blt];omega
theorem Z7b{a:Int}(ha:U a){size:Int}(hs:size=1∨size=4):(Q45 m a size).w (λr=>U r.1):=by
 obtain⟨g1,g2⟩:=Tree.pp (Z0j h a hs)
 unfold Q45
 refine w_an g1 (w_lv λx hx=>w_br (λ_=>U_0) (λhb=> ?_))
 have hb:x=true:=by simpa using hb
 have hl:=g2 (hx.symm.trans hb)
 refine w_cn (idx h ha hl) (w_br (λ_=>w_cn (decide_eq_true (Q0k _).1) (Q0k _)) (λ_=>Qgq h.u _))
theorem mark_w{a:Int}(ha:U a)(access:Int):(Qf m a access).w (Q0u P):=by
 obtain⟨g1,g2⟩:=Tree.pp (Z0j h a (size:=4) (.inr rfl))
 have hs: ∀{m:List Int} i v,Q0u P m→U v→Q0u P (m.set i v):=λi v h hv=>⟨by simp [h.len],h.p1,h.p2,Qvh h.u hv i⟩
 unfold Qf
 refine w_an g1 (w_lv λx hx=>w_br (λ_=>h) (λhb=> ?_))
 have hb:x=true:=by simpa using hb
 have hl:=g2 (hx.symm.trans hb)
 have i0:=idx h ha hl
 have h':=hs (Int.toNat (IntKind.wrap IntKind.u32 (Int.tdiv a 4))) (ior IntKind.u32 (m.getD (Int.toNat (IntKind.wrap IntKind.u32 (Int.tdiv a 4))) 0) 8) h (U_or _ _)
 have i1:=idx h' ha hl
 exact w_cn i0 (w_cn i0 (w_br (λ_=>w_cn i1 (w_cn i1 (hs _ _ h' (U_or _ _)))) (λ_=>h')))
theorem walk_w{root va:Int}(hr:U root)(hv:U va)(access:Int):(Q9g m root va access).w (λt=>U t.Addr∧U t.E0∧(t.D8=0→t.Addr<128*P)):=by
 have hp:=Qbl h
 have h2:=h.p2
 have hlen:=h.len
 obtain⟨r1,r2⟩:=hr
 obtain⟨v1,v2⟩:=hv
 unfold Q9g
 refine w_lv λx0 hx0=>w_lv λx1 hx1=>w_lv λx2 _=> ?_
 have hc:x0≠0:=by
   rw[hx0]
   simp only[Q1z,Q92,Tree.m]
   cases access==1<;>cases access==3<;>simp
 rw[hp]at hx1
 have bad:U (0:Int)∧U (0:Int)∧(x0=0→(0:Int)<128*P):=⟨U_0,U_0,λe=>absurd e hc⟩
 refine w_br (λ_=>bad) (λ_=>w_br (λ_=>bad) (λhva=>w_br (λ_=>bad) (λhro=> ?_)))
 have hva:=of_decide_eq_false hva
 have hro:=of_decide_eq_false hro
 have e1:IntKind.wrap IntKind.u32 x1=P:=by rw[hx1,IntKind.wrap_u32];omega
 rw[e1]at hro
 have e2:IntKind.wrap IntKind.u32 (IntKind.wrap IntKind.u32 (root*128)+IntKind.wrap IntKind.u32 (4*IntKind.wrap IntKind.u32 (Int.tdiv va 128)))=root*128+4*(va/128):=by
   rw[Int.tdiv_eq_ediv_of_nonneg v1,IntKind.wrap_u32,IntKind.wrap_u32,IntKind.wrap_u32,IntKind.wrap_u32];omega
 have hU:U (IntKind.wrap IntKind.u32 (IntKind.wrap IntKind.u32 (root*128)+IntKind.wrap IntKind.u32 (4*IntKind.wrap IntKind.u32 (Int.tdiv va 128)))):=Q0k _
 have ci:=idx h hU (by rw[e2];omega)
 have good: ∀w:Int,decide (iand IntKind.u32 w 255≥IntKind.wrap IntKind.u32 x1)=false→(U (IntKind.wrap IntKind.u32 (IntKind.wrap IntKind.u32 (iand IntKind.u32 w 255*128)+Int.tmod va 128))∧U (IntKind.wrap IntKind.u32 (IntKind.wrap IntKind.u32 (root*128)+IntKind.wrap IntKind.u32 (4*IntKind.wrap IntKind.u32 (Int.tdiv va 128))))∧((0:Int)=0→IntKind.wrap IntKind.u32 (IntKind.wrap IntKind.u32 (iand IntKind.u32 w 255*128)+Int.tmod va 128)<128*P)):=λw hw=>by
   have hw:=of_decide_eq_false hw
   rw[e1]at hw
   have hn:=(Z5q w 255).1
   refine⟨Q0k _,Q0k _,λ_=> ?_⟩
   rw[Int.tmod_eq_emod_of_nonneg v1,IntKind.wrap_u32,IntKind.wrap_u32]
   generalize iand IntKind.u32 w 255=q at*
   omega
 refine w_cn ci ?_
 repeat'(first
   |exact bad
   |exact good _ (by assumption)
   |refine w_br (λ_=> ?_) (λ_=> ?_)
   |refine w_cn ci ?_)
theorem Z0d{c:Q02}(hc:Q2n c){va:Int}(hv:U va){size:Int}(hs:size=1∨size=4)(access:Int):(Q82 c m va size access).w (λr=>Q0u P r.2.2∧U r.1∧(r.2.1=0→r.1<128*P)):=by
 have e:decide (IntKind.wrap IntKind.u32 size≠0)=true:=by rcases hs with rfl|rfl<;>decide
 obtain⟨g1,g2⟩:=Tree.pp (Z0j h va hs)
 obtain⟨k1,k2⟩:=Tree.pp (walk_w h hc.a6 hv access)
 have bad: ∀k:Int,k≠0→Q0u P m∧U (0:Int)∧(k=0→(0:Int)<128*P):=λk hk=>⟨h,U_0,λe=>absurd e hk⟩
 have hca:Q1z access≠0:=by
   simp only[Q1z,Q92,Tree.m]
   cases access==1<;>cases access==3<;>simp
 unfold Q82
 refine w_lv λx0 _=>w_br (λ_=>bad 5 (by decide)) (λ_=>w_br (λh1=>w_br (λh2=> ?_) (λ_=> ?_)) (λ_=> ?_))
 · exact bad 5 (by decide)
 all_goals(
   refine w_cn e (w_br (λ_=>bad 3 (by decide)) (λ_=>w_lv λx1 _=>w_br (λ_=>w_an g1 (w_lv λx2 hx2=>w_br (λ_=>w_lv λx3 hx3=>bad x3 (by rw[hx3];exact hca)) (λhb=> ?_))) (λ_=>w_an k1 (w_lv λx4 hx4=>w_br (λhb=> ?_) (λhb=> ?_)))))
   · have hb:x2=true:=by simpa using hb
     exact⟨h,hv,λ_=>g2 (hx2.symm.trans hb)⟩
   · exact bad _ (by simpa using hb)
   · obtain⟨t1,t2,t3⟩:=k2
     rw[show(Q9g m c.B4.a6 va access).m=x4 from hx4.symm]at t1 t2 t3
     obtain⟨m1,m2⟩:=Tree.pp (mark_w h t2 access)
     refine w_an m1 (w_lv λx5 hx5=> ?_)
     exact⟨hx5▸m2,t1,λ_=>t3 (by simpa using hb)⟩)
end
theorem reg_ok{r:Int}(h:Q6k r=true):0≤r∧r<16:=by
 simp only[Q6k,Q9z,Tree.m]at h
 cases h1:decide (r≥0)<;>rw[h1]at h
 · cases h
 · have h1:=of_decide_eq_true h1
   have h:=of_decide_eq_true h
   omega
theorem valid_ok{i:Q0g}(hi:IntKind.wrap .i64 i.Imm=i.Imm)(h:Q5v i=true):Qcg i:=by
 have no:false=true→Qcg i:=λh=>by cases h
 refine(Tree.post (Qc i) (W:=λb=>b=true→Qcg i) ?_) h
 unfold Qc
 refine w_lv λx0 h0=>w_br (λ_=>no) (λ_=>w_lv λx1 h1=>w_br (λ_=>no) (λb1=>w_lv λx2 h2=>w_br (λ_=>no) (λb2=>w_lv λx3 h3=>w_br (λ_=>no) (λb3=>w_lv λx4 h4=>w_br (λ_=>no) (λb4=>w_br (λ_=>no) (λb5=> ?_))))))
 have b1:x1=true:=by simpa using b1
 have b2:x2=true:=by simpa using b2
 have b3:x3=true:=by simpa using b3
 have b4:=of_decide_eq_false b4
 have b5:=of_decide_eq_false b5
 rw[hi]at b4 b5
 have ok:Qcg i:=⟨reg_ok (h1.symm.trans b1),reg_ok (h2.symm.trans b2),reg_ok (h3.symm.trans b3),λe=>by
   rw[e]at h0
   have h0:x0=8:=h0
   subst h0
   have h4:x4=(0,7):=h4
   subst h4
   simp at b4 b5;omega⟩
 repeat'(first
   |exact λ_=>ok
   |exact no
   |refine w_br (λ_=> ?_) (λ_=> ?_))
theorem Z7r(w:Int):(Q6p w).w (λr=>r.2=true→Qcg r.1):=by
 have no: ∀{p:Prop},false=true→p:=λh=>by cases h
 have e: ∀x,IntKind.wrap .i64 (IntKind.wrap .i32 x)=IntKind.wrap .i32 x:=λx=>by rw[IntKind.wrap_i64,IntKind.wrap_i32];omega
 have ok: ∀i,IntKind.wrap .i64 i.Imm=i.Imm→ ∀x,x=Q5v i→(!x)=false→true=true→Qcg i:=λi hi x hx hb _=>valid_ok hi (hx.symm.trans (by simpa using hb))
 unfold Q6p
 refine w_lv λx0 _=> ?_
 have l: ∀i,IntKind.wrap .i64 i.Imm=i.Imm→(Tree.lv (Q5v i) λx=> .br (!x) (.lf ((⟨0,0,0,0,0⟩:Q0g),false)) (.lf (i,true))).w (λr=>r.2=true→Qcg r.1):=λi hi=>w_lv λx hx=>w_br (λ_=>no) (λhb=>ok i hi x hx hb)
 refine w_br (λ_=>no) (λ_=>w_br (λ_=>l _ rfl) (λ_=>w_br (λ_=>l _ (e _)) (λ_=>w_br (λ_=>l _ (e _)) (λ_=>l _ (e _)))))
theorem bit_w(b:Bool):U (Qad b):=by cases b<;>exact⟨by decide,by decide⟩
theorem Z7k{a b:Int}(ha:U a)(hb:U b):(Qa1 a b).w (λr=>U r.1∧U r.2):=by
 unfold Qa1
 refine w_br (λ_=>⟨⟨by omega,by omega⟩,ha⟩) (λh=> ?_)
 have h: ¬b=0:=by simpa using h
 obtain⟨b1,b2⟩:=hb
 have hc:decide (IntKind.wrap IntKind.i64 (IntKind.wrap IntKind.i32 b)≠0)=true:=decide_eq_true (by rw[IntKind.wrap_i64,IntKind.wrap_i32];omega)
 exact w_cn hc (w_cn hc ⟨Q0k _,Q0k _⟩)
theorem alu_w(op:Int){a b:Int}(ha:U a)(hb:U b):(Qkf op a b).w (λr=>U r.1):=by
 unfold Qkf
 refine w_lv λx0 _=> ?_
 repeat'(first
   |exact Q0k _
   |exact Qph ha _
   |exact U_0
   |refine w_br (λ_=> ?_) (λ_=> ?_)
   |exact Q0c (Z7k ha hb) λx hx=>hx.1
   |exact Q0c (Z7k ha hb) λx hx=>hx.2
   |exact w_lv λx hx=>(by rw[hx];exact bit_w _))
theorem signext_w{x:Int}(hx:U x):(Q8l x 8).w U:=by
 unfold Q8l
 have h0:decide (0≤IntKind.wrap IntKind.u64 8)=true:=by decide
 refine w_br (λh=>absurd h (by decide)) λ_=>w_br (λh=>absurd h (by decide)) λ_=>w_cn h0 (w_cn (by decide) (w_br (λ_=>w_cn h0 (U_or _ _)) (λ_=>Z5q _ _)))
section
variable {c:Q02} (h:Q2n c) {i:Q0g} (hi:Qcg i)
include h hi
theorem system_w:(Q8b c i).w (λr=>Q2n r.1∧U r.2.Value):=by
 unfold Q8b
 refine w_br (λ_=>w_lv λx hx=>⟨hx▸Qtl h _ U_0,U_0⟩) (λ_=>w_br (λ_=>w_lv λx hx=>⟨hx▸return_w h,U_0⟩) (λ_=>w_br (λe=>w_cn ?_ (Q0c (Qyw h _ (h.a _)) λx hx=>⟨hx.pcs (Q0k _),U_0⟩)) (λ_=>w_br (λ_=>w_cn (rc hi.a) (Q0c (write_w h _ (h.r _)) λx hx=>⟨hx.pcs (Q0k _),U_0⟩)) (λ_=> ?_))))
 · have:=hi.csr (by simpa using e)
   simp [Nat.blt];omega
 · have k:=h.pcs (Q0k (c.Pc+4))
   repeat'(first
     |exact⟨k,U_0⟩
     |exact⟨k,h.r _⟩
     |refine w_br (λ_=> ?_) (λ_=> ?_)
     |refine w_cn (rc hi.a) ?_)
theorem jump_w:(Qhz c i).w Q2n:=by
 unfold Qhz
 exact w_br (λ_=>Q0c (Qyw h _ (Q0k _)) λx hx=>hx.pcs (Q0k _)) (λ_=>w_br (λ_=>w_cn (rc hi.b) (Q0c (Qyw h _ (Q0k _)) λx hx=>hx.pcs (Q0k _))) (λ_=>w_cn (rc hi.a) (w_cn (rc hi.b) (w_lv λx _=>w_br (λ_=>h.pcs (Q0k _)) (λ_=>h.pcs (Q0k _))))))
theorem Za{P:Nat}{m:List Int}(hm:Q0u P m):(Qa5 c m i).w (λr=>Q2n r.1∧Q0u P r.2):=by
  unfold Qa5
  refine w_cn (rc hi.b) ?_
  have e1:(1:Int)=1∨(1:Int)=4:= .inl rfl
  have e4:(4:Int)=1∨(4:Int)=4:= .inr rfl
  repeat'(first
    |refine w_br (λ_=> ?_) (λ_=> ?_)
    | (refine Q0c (Z0d hm h (Q0k _) e4 _) λx hx=> ?_
       obtain⟨m1,m2,m3⟩:=hx
       refine w_br (λ_=>w_lv λy hy=>⟨hy▸Qtl h _ (Q0k _),m1⟩) (λhb=> ?_)
       have m3:=m3 (by simpa using hb)
       have m4:x.1<4*x.2.2.length:=by rw[m1.len];omega
       clear hb)
    | (refine Q0c (Z0d hm h (Q0k _) e1 _) λx hx=> ?_
       obtain⟨m1,m2,m3⟩:=hx
       refine w_br (λ_=>w_lv λy hy=>⟨hy▸Qtl h _ (Q0k _),m1⟩) (λhb=> ?_)
       have m3:=m3 (by simpa using hb)
       have m4:x.1<4*x.2.2.length:=by rw[m1.len];omega
       clear hb)
    |exact w_cn (rc hi.a) (Q0c (put_w (by assumption) (by assumption) (by assumption) (h.r _)) λy hy=>⟨h.pcs (Q0k _),hy⟩)
    |(refine Q0c (Z7b (by assumption) (by assumption) e4) λy hy=> ?_)
    |(refine Q0c (Z7b (by assumption) (by assumption) e1) λy hy=> ?_)
    |exact Q0c (signext_w (by assumption)) λz hz=>Q0c (Qyw h _ hz) λu hu=>⟨hu.pcs (Q0k _),by assumption⟩
    |exact Q0c (Qyw h _ (by assumption)) λu hu=>⟨hu.pcs (Q0k _),by assumption⟩)
end
theorem do_w{c:Q02}(h:Q2n c){P:Nat}{m:List Int}(hm:Q0u P m):(Qmm c m).w (λr=>Q2n r.1∧U r.2.1.Value∧Q0u P r.2.2):=by
 unfold Qmm
 refine Q0c (Z0d hm h h.pc (.inr rfl) 1) λx0 hx=> ?_
 obtain⟨m1,m2,m3⟩:=hx
 refine w_br (λ_=>w_lv λy hy=>⟨hy▸Qtl h _ h.pc,U_0,m1⟩) (λhb=> ?_)
 refine Q0c (Z7b m1 m2 (.inr rfl)) λx2 h2=>Z83 (Z7r _) λx3 h3=>w_br (λ_=>w_lv λy hy=>⟨hy▸Qtl h _ h2,U_0,m1⟩) (λb3=> ?_)
 have hi:=h3 (by simpa using b3)
 refine w_lv λx5 _=> ?_
 repeat'(first
   |refine w_br (λ_=> ?_) (λ_=> ?_)
   |exact w_lv λy hy=>⟨hy▸Qtl h _ h2,U_0,m1⟩
   |exact Q0c (system_w h hi) λy hy=>⟨hy.1,hy.2,m1⟩
   |exact Q0c (jump_w h hi) λy hy=>⟨hy,U_0,m1⟩
   |exact Q0c (Za h hi m1) λy hy=>⟨hy.1,U_0,hy.2⟩
   |exact Q0c (Qyw h _ (Q0k _)) λy hy=>⟨hy.pcs (Q0k _),U_0,m1⟩
   |refine w_cn (rc hi.c) ?_
   |refine w_cn (rc hi.b) ?_
   |exact Q0c (alu_w _ (h.r _) (h.r _)) λy hy=>Q0c (Qyw h _ hy) λz hz=>⟨hz.pcs (Q0k _),U_0,m1⟩
   |exact Q0c (alu_w _ (h.r _) (Q0k _)) λy hy=>Q0c (Qyw h _ hy) λz hz=>⟨hz.pcs (Q0k _),U_0,m1⟩)
theorem and1{q:Int}(h:U q):iand .u32 q 1=q%2:=by
 obtain⟨h1,h2⟩:=h
 unfold iand
 rw[IntKind.wrap_u32]
 have e1:(BitVec.ofInt 32 q).toNat=q.toNat:=by rw[BitVec.toNat_ofInt];omega
 have e2:(BitVec.ofInt 32 1).toNat=1:=by decide
 have:(BitVec.ofInt IntKind.u32.bits q&&&BitVec.ofInt IntKind.u32.bits 1).toNat=q.toNat%2:=by
   show(BitVec.ofInt 32 q&&&BitVec.ofInt 32 1).toNat=_
   rw[BitVec.toNat_and,e1,e2,Nat.and_one_is_mod]
 rw[this];omega
theorem Z23(b:Bool)(n:Int):(Qh2 b n).w (λ_=>True):=by
 unfold Qh2
 exact w_br (λ_=>w_cn (decide_eq_true (by rw[IntKind.wrap_u64];omega)) trivial) (λ_=>trivial)
theorem lines_w(m:Q00):(Qfn m).w (λ_=>True):=by
 unfold Qfn
 exact w_lv λ_ _=>Q0c (Z23 _ _) λ_ _=>w_lv λ_ _=>Q0c (Z23 _ _) λ_ _=>w_lv λ_ _=>Q0c (Z23 _ _) λ_ _=>w_lv λ_ _=>Q0c (Z23 _ _) λ_ _=>w_lv λ_ _=>Q0c (Z23 _ _) λ_ _=>trivial
theorem enabled_w(m:Q00):(Q96 m).w U:=by
 unfold Q96
 exact Q0c (lines_w m) λ_ _=>Z5q _ _
theorem Qys{m:Q00}(h:Q2n m.B1):(Q5g m).w Q2n:=by
 unfold Q5g
 refine Q0c (enabled_w m) λx0 hx=>w_br (λ_=>h) (λ_=>w_br (λ_=>h) (λhb=> ?_))
 have hb:x0≠0:=by simpa using hb
 have sh: ∀z:Int,0≤z→z≤31→ishr .u32 x0 (IntKind.wrap .u64 z)=x0/2^z.toNat:=λz h1 h2=>by
   unfold ishr
   have e:min (IntKind.wrap .u64 z).toNat IntKind.u32.bits=z.toNat:=by
     show min (IntKind.wrap .u64 z).toNat 32=z.toNat
     rw[IntKind.wrap_u64];omega
   rw[e,Int.fdiv_eq_ediv_of_nonneg _ (Int.le_of_lt (Int.pow_pos (by decide)))]
 refine w_lp (inv:=λz=>0≤z∧z≤31∧x0/2^z.toNat≠0) (μ:=Qan m) ⟨by omega,by omega,by simpa using hb⟩ (Nat.lt_succ_self _) (λz hz=> ?_)
 obtain⟨z1,z2,z3⟩:=hz
 refine w_cn (decide_eq_true (by rw[IntKind.wrap_u64];omega)) (w_br (λe=>w_nx ?_) (λ_=>w_lv λy hy=>hy▸Qtl h _ U_0))
 have e:=eq_of_beq e
 have hq:=Qph hx (IntKind.wrap .u64 z)
 rw[and1 hq,sh z z1 z2]at e
 rw[sh z z1 z2]at hq
 have hlt:x0/2^z.toNat/2≠0:=by omega
 have z4:z≤30:=by
   rcases Int.lt_or_le z 31 with h|h
   · omega
   · have:z=31:=by omega
     subst this
     have:=hx.2
     have:=hx.1
     simp at z3 e hlt
     omega
 show(0≤IntKind.i64.wrap (z+1)∧IntKind.i64.wrap (z+1)≤31∧x0/2^(IntKind.i64.wrap (z+1)).toNat≠0)∧(32-IntKind.i64.wrap (z+1)).toNat<(32-z).toNat
 have ew:IntKind.i64.wrap (z+1)=z+1:=by rw[IntKind.wrap_i64];omega
 rw[ew]
 refine⟨⟨by omega,by omega,?_⟩,by omega⟩
 have et:(z+1).toNat=z.toNat+1:=by omega
 rw[et,Int.pow_succ,←Int.ediv_ediv_of_nonneg (Int.le_of_lt (Int.pow_pos (by decide)))]
 exact hlt
theorem Qfa(l:List Int):(bytesOf l).length=l.length:=by simp [bytesOf]
theorem Qk(l:List UInt8):(Q4q l).length=l.length:=by simp [Q4q]
theorem low_w(x:Int):(Qpi x 4).w (λr=>r.length=4):=by
 unfold Qpi
 refine w_lp (inv:=λz=>0≤z.1∧z.1≤4∧(z.2.length:Int)=z.1) (μ:=Ql8 x 4) ⟨by omega,by omega,rfl⟩ (Nat.lt_succ_self _) (λz hz=> ?_)
 obtain⟨z1,z2,z3⟩:=hz
 refine w_br (λh=>w_cn (decide_eq_true (by rw[IntKind.wrap_u64];omega)) (w_cn (decide_eq_true (by omega)) (w_nx ?_))) (λh=> ?_)
 · have h:=of_decide_eq_true h
   show(0≤IntKind.i64.wrap (z.1+1)∧IntKind.i64.wrap (z.1+1)≤4∧((z.2++[_]).length:Int)=IntKind.i64.wrap (z.1+1))∧(4-IntKind.i64.wrap (z.1+1)).toNat<(4-z.1).toNat
   have ew:IntKind.i64.wrap (z.1+1)=z.1+1:=by rw[IntKind.wrap_i64];omega
   rw[ew]
   refine⟨⟨by omega,by omega,by simp;omega⟩,by omega⟩
 · have h:=of_decide_eq_false h
   show(bytesOf z.2).length=4
   rw[Qfa];omega
theorem page_w{P:Nat}{m:List Int}(hm:Q0u P m)(frame:Int):(Q9c m frame).w (λr=>0≤frame→frame<P→r.1.length=128):=by
 have hp:=Qbl hm
 have hl:=hm.len
 have h2:=hm.p2
 unfold Q9c
 refine w_br (λh=>λh0 _=>by have:=of_decide_eq_true h;omega) (λh=>w_lv λx0 hx=>w_br (λh1=>λ_ h2=>by have:=of_decide_eq_true h1;rw[hx,hp]at this;omega) (λh1=> ?_))
 have h:=of_decide_eq_false h
 have h1:=of_decide_eq_false h1
 rw[hx,hp]at h1
 refine w_lp (inv:=λz=>0≤z.1∧z.1≤32∧(z.2.length:Int)=4*z.1) (μ:=Qee m frame) ⟨by omega,by omega,rfl⟩ (Nat.lt_succ_self _) (λz hz=> ?_)
 obtain⟨z1,z2,z3⟩:=hz
 refine w_br (λhb=> ?_) (λhb=> ?_)
 · have hb:=of_decide_eq_true hb
   have e:IntKind.wrap IntKind.i64 (IntKind.wrap IntKind.i64 (frame*32)+z.1)=frame*32+z.1:=by rw[IntKind.wrap_i64,IntKind.wrap_i64];omega
   refine w_cn (by rw[e];simp [Nat.blt];omega) (w_an (show(4:Int)≤1000000000000 by decide) (Z83 (low_w _) λx1 h4=>w_cn (decide_eq_true (by rw[Qk,h4];omega)) (w_nx ?_)))
   show(0≤IntKind.i64.wrap (z.1+1)∧IntKind.i64.wrap (z.1+1)≤32∧((z.2++Q4q x1).length:Int)=4*IntKind.i64.wrap (z.1+1))∧(32-IntKind.i64.wrap (z.1+1)).toNat<(32-z.1).toNat
   have ew:IntKind.i64.wrap (z.1+1)=z.1+1:=by rw[IntKind.wrap_i64];omega
   rw[ew,List.length_append,Qk,h4]
   exact⟨⟨by omega,by omega,by omega⟩,by omega⟩
 · have hb:=of_decide_eq_false hb
   intro _ _
   show(bytesOf z.2).length=128
   rw[Qfa];omega
theorem diskOut_w{P:Nat}{m:List Int}(hm:Q0u P m){d:Q0a}(hd:Q7h d)(port:Int){v:Int}(hv:U v)(at0:Int):(Q90 d m port v at0).w (λr=>Q7h r.1∧r.2.length≤1):=by
 have k: ∀st,Q7h {Blocks:=d.Blocks,B3:=d.B3,B0:=d.B0,B8:=st,D6:=d.D6,B5:=d.B5,A9:=d.A9,C1:=d.C1}:=λst=>⟨hd.block,hd.frame,hd.opBlock,hd.opFrame⟩
 have k2: ∀c o,Q7h {Blocks:=d.Blocks,B3:=d.B3,B0:=d.B0,B8:=1,D6:=c,B5:=d.B3,A9:=d.B0,C1:=o}:=λc o=>⟨hd.block,hd.frame,hd.block,hd.frame⟩
 have k3:Q7h {Blocks:=d.Blocks,B3:=v,B0:=d.B0,B8:=d.B8,D6:=d.D6,B5:=d.B5,A9:=d.A9,C1:=d.C1}:=⟨hv,hd.frame,hd.opBlock,hd.opFrame⟩
 have k4:Q7h {Blocks:=d.Blocks,B3:=d.B3,B0:=v,B8:=d.B8,D6:=d.D6,B5:=d.B5,A9:=d.A9,C1:=d.C1}:=⟨hd.block,hv,hd.opBlock,hd.opFrame⟩
 unfold Q90
 repeat'(first
   |refine w_br (λ_=> ?_) (λ_=> ?_)
   |exact Q0c (page_w hm _) λ_ _=>w_lv λ_ _=>⟨k2 _ _,Nat.le_refl _⟩
   |refine w_lv (λ_ _=> ?_)
   |refine w_lf ?_)
 all_goals(first
   |exact⟨hd,Nat.zero_le _⟩
   |exact⟨k _,Nat.zero_le _⟩
   |exact⟨k2 _ _,Nat.le_refl _⟩
   |exact⟨k3,Nat.zero_le _⟩
   |exact⟨k4,Nat.zero_le _⟩)
theorem nicOut_w{P:Nat}{m:List Int}(hm:Q0u P m){n:Q0n}(hn:Qfd n)(port:Int){v:Int}(hv:U v)(at0:Int):(Qaf n m port v at0).w (λr=>Qfd r.1∧r.2.length≤1):=by
 have k1:Qfd {B0:=v,D9:=n.D9,C4:=n.C4,B9:=n.B9,B7:=n.B7,F0:=n.F0}:=⟨hv,hn.len,hn.buffer,hn.got⟩
 have k2:Qfd {B0:=n.B0,D9:=v,C4:=n.C4,B9:=n.B9,B7:=n.B7,F0:=n.F0}:=⟨hn.frame,hv,hn.buffer,hn.got⟩
 have k3:Qfd {B0:=n.B0,D9:=n.D9,C4:=n.C4,B9:=n.B9,B7:=false,F0:=0}:=⟨hn.frame,hn.len,hn.buffer,U_0⟩
 have k4: ∀p r,Qfd {B0:=n.B0,D9:=n.D9,C4:=p,B9:=n.B0,B7:=r,F0:=n.F0}:=λp r=>⟨hn.frame,hn.len,hn.frame,hn.got⟩
 have send: ∀K:List UInt8×Bool→Tree (Q0n×List Q06),Q22 m n.B0=true→(∀x:List UInt8×Bool,x.1.length=128→(K x).w (λr=>Qfd r.1∧r.2.length≤1))→(Tree.an (Qht m (IntKind.wrap .i64 n.B0)) (.lv (Qgc m (IntKind.wrap .i64 n.B0)) K)).w (λr=>Qfd r.1∧r.2.length≤1):=λK hp hK=>by
   rw[Qh9 hm hn.frame]at hp
   have hp:=of_decide_eq_true hp
   obtain⟨f1,f2⟩:=hn.frame
   have ew:IntKind.i64.wrap n.B0=n.B0:=by rw[IntKind.wrap_i64];omega
   exact Q0c (page_w hm _) λx hx=>hK x (hx (by rw[ew];exact f1) (by rw[ew];exact hp))
 unfold Qaf
 repeat'(first
   |refine w_br (λ_=> ?_) (λ_=> ?_)
   |refine send _ (by simp_all) (λx hx=>w_cn (by simp_all;exact hn.len.1) ?_)
   |refine w_lv (λ_ _=> ?_)
   |refine w_lf ?_)
 all_goals(first
   |exact⟨hn,Nat.zero_le _⟩
   |exact⟨hn,Nat.le_refl _⟩
   |exact⟨k1,Nat.zero_le _⟩
   |exact⟨k2,Nat.zero_le _⟩
   |exact⟨k3,Nat.zero_le _⟩
   |exact⟨k4 _ _,Nat.zero_le _⟩)
def okB(b:Q07):Prop:=U b.C6∧U b.C0
theorem give_w{P:Nat}{m:List Int}(hm:Q0u P m){b:Q07}(hb:okB b)(port:Int){v:Int}(hv:U v):(Q4v b m port v).w (λr=>okB r.1∧Q0u P r.2):=by
 have hv0:decide (0≤v)=true:=decide_eq_true hv.1
 have h2:=hm.p2
 have rest:(Tree.br (port==11) (.br (decide (v<32)) (.cn (decide (0≤v)) (.lf (({C6:=b.C6,C0:=Qd8 .u32 b.C0 (ishl .u32 1 v)}:Q07),m))) (.lf (b,m))) (.lf (b,m))).w (λr=>okB r.1∧Q0u P r.2):=
   w_br (λ_=>w_br (λ_=>w_cn hv0 ⟨⟨hb.1,Q0k _⟩,hm⟩) (λ_=>⟨hb,hm⟩)) (λ_=>⟨hb,hm⟩)
 unfold Q4v
 refine w_br (λ_=>w_lv λx0 hx=>w_br (λhp=>w_cn hv0 (w_br (λ_=>w_cn hv0 ?_) (λ_=>rest))) (λ_=>rest)) (λ_=>rest)
 have hp:Q22 m v=true:=hx.symm.trans hp
 rw[Qh9 hm hv]at hp
 have hp:=of_decide_eq_true hp
 obtain⟨v1,v2⟩:=hv
 refine w_lp (inv:=λz=>0≤z.1∧z.1≤32∧Q0u P z.2) (μ:=Qf2 b m port v) ⟨by omega,by omega,hm⟩ (Nat.lt_succ_self _) (λz hz=> ?_)
 obtain⟨z1,z2,z3⟩:=hz
 have hl:=z3.len
 refine w_br (λh=> ?_) (λ_=>⟨⟨hb.1,Q0k _⟩,z3⟩)
 have h:=of_decide_eq_true h
 have e:IntKind.wrap IntKind.i64 (IntKind.wrap IntKind.i64 (IntKind.wrap IntKind.i64 v*32)+z.1)=v*32+z.1:=by rw[IntKind.wrap_i64,IntKind.wrap_i64,IntKind.wrap_i64];omega
 refine w_cn (by rw[e];simp [Nat.blt];omega) (w_nx ?_)
 show(0≤IntKind.i64.wrap (z.1+1)∧IntKind.i64.wrap (z.1+1)≤32∧Q0u P (List.set _ _ _))∧(32-IntKind.i64.wrap (z.1+1)).toNat<(32-z.1).toNat
 have ew:IntKind.i64.wrap (z.1+1)=z.1+1:=by rw[IntKind.wrap_i64];omega
 rw[ew]
 exact⟨⟨by omega,by omega,⟨by simp [hl],z3.p1,z3.p2,Qvh z3.u U_0 _⟩⟩,by omega⟩
structure okM(P:Nat)(m:Q00):Prop where
 cpu:Q2n m.B1
 mem:Q0u P m.Mem
 disk:Q7h m.A6
 nic:Qfd m.C5
 target:okB m.A1
 cnt:0≤m.A0
theorem Z4y(c:Q0b)(port:Int):U (Q78 c port).2:=by
 refine Tree.post (Q7 c port) (W:=λr=>U r.2) ?_
 have u1:U 4294967295:=⟨by omega,by omega⟩
 unfold Q7
 refine w_br (λ_=>w_br (λ_=>u1) (λh=>w_br (λ_=>w_cn ?_ (w_cn ?_ (Q0k _))) (λ_=>w_br (λ_=>Q0k _) (λ_=>U_0)))) (λh1=>w_br (λh=>(by rw[h1]at h;cases h)) (λ_=>w_br (λ_=>Q0k _) (λ_=>U_0)))
 · have h: ¬(c.C9.length:Int)=0:=by simpa using h
   exact decide_eq_true ⟨by omega,by omega,by omega⟩
 · have h: ¬(c.C9.length:Int)=0:=by simpa using h
   simp [Nat.blt];omega
theorem nicIn_w{n:Q0n}(h:Qfd n)(port:Int):U (Qkd n port):=by
 refine Tree.post (Qfm n port) (W:=U) ?_
 have u1:U 1:=⟨by omega,by omega⟩
 unfold Qfm
 exact w_br (λ_=>h.frame) (λ_=>w_br (λ_=>h.got) (λ_=>w_br (λ_=>w_br (λ_=>w_br (λ_=>Q0k _) (λ_=>u1)) (λ_=>w_br (λ_=>Q0k _) (λ_=>U_0))) (λ_=>U_0)))
theorem diskIn_w{d:Q0a}(h:Q7h d)(port:Int):U (Qlg d port):=by
 refine Tree.post (Qh0 d port) (W:=U) ?_
 unfold Qh0
 exact w_br (λ_=>h.block) (λ_=>w_br (λ_=>h.frame) (λ_=>w_br (λ_=>Q0k _) (λ_=>U_0)))
theorem timerIn_w(t:Q0i):U (Qj2 t):=by
 refine Tree.post (Qg8 t) (W:=U) ?_
 unfold Qg8
 exact w_br (λ_=>⟨by omega,by omega⟩) (λ_=>U_0)
theorem Z6{b:Q07}(h:U b.C6)(port:Int):U (Q7b b port):=by
 refine Tree.post (Q6z b port) (W:=U) ?_
 unfold Q6z
 exact w_br (λ_=>h) (λ_=>w_br (λ_=>w_lv λ_ _=>Q0k _) (λ_=>U_0))
structure okR(P:Nat)(r:Q1):Prop where
 m:okM P r.B6
 clock:U r.Clock
structure okL(P:Nat)(r x:Q1):Prop where
 ok:okR P x
 log:x.Log=r.Log
 queue:x.Queue=r.Queue
theorem w0(x:Int):0≤IntKind.u64.wrap x:=by rw[IntKind.wrap_u64];omega
section
variable {P:Nat} {r:Q1} (h:okR P r)
include h
end
theorem type_w(c:Q0b)(b:Int):(Qh3 c b).w (λ_=>True):=by
 unfold Qh3
 refine w_br (λ_=>trivial) (λh=>w_cn (decide_eq_true ?_) trivial)
 have h:=of_decide_eq_false h
 simp [maxLen];omega
theorem accept_w{P:Nat}{m:List Int}(hm:Q0u P m){n:Q0n}(hn:Qfd n)(frame:List UInt8):(Qa4 n m frame).w (λr=>Qfd r.1∧Q0u P r.2.2):=by
 unfold Qa4
 refine w_br (λ_=>⟨hn,hm⟩) (λ_=>w_br (λ_=>⟨hn,hm⟩) (λ_=>w_br (λ_=>⟨hn,hm⟩) (λ_=>w_lv λx0 hx=>w_br (λ_=>⟨hn,hm⟩) (λhb=> ?_))))
 have hp:Q22 m n.B9=true:=hx.symm.trans (by simpa using hb)
 rw[Qh9 hm hn.buffer]at hp
 have hp:=of_decide_eq_true hp
 obtain⟨b1,b2⟩:=hn.buffer
 have ew:IntKind.i64.wrap n.B9=n.B9:=by rw[IntKind.wrap_i64];omega
 exact Q0c (fill_w hm (frame:=IntKind.i64.wrap n.B9) (by rw[ew];exact b1) (by rw[ew];exact hp) frame) λx hx=>⟨⟨hn.frame,hn.len,U_0,Q0k _⟩,hx⟩
section
variable {P:Nat} {r:Q1} (h:okR P r)
include h
end
end Go.Proofs.YtjaifpiopmhmlaaGreat

/-
  A part of the proof.
-/
import Derived.Test.YtjaifpiopmhmlaaGreatBareClockYe
import Derived.Test.YtjaifpiopmhmlaaGreatBareClockZa
import Derived.Test.YtjaifpiopmhmlaaGreatBareClockZb
import Derived.Test.YtjaifpiopmhmlaaGreatBareClockZg
set_option maxRecDepth 100000
set_option linter.unusedVariables false
set_option linter.unusedSimpArgs false
namespace Go.Proofs.YtjaifpiopmhmlaaGreat
open Go Go.GD
def U(x:Int):Prop:=0≤x∧x<4294967296
theorem Q0g(x:Int):U (IntKind.u32.wrap x):=by rw[IntKind.wrap_u32];unfold U;omega
theorem Z4z(x y:Int):U (iand .u32 x y):=Q0g _
theorem U_or(x y:Int):U (ior .u32 x y):=Q0g _
theorem U_0:U 0:=⟨by omega,by omega⟩
theorem Qvk{m:List Int}(h: ∀w∈m,U w){v:Int}(hv:U v)(i:Nat): ∀w∈m.set i v,U w:=by
 intro w hw
 rcases List.mem_or_eq_of_mem_set hw with h1|h1
 · exact h w h1
 · rw[h1];exact hv
structure Q0q(P:Nat)(m:List Int):Prop where
 len:m.length=32*P
 p1:0≤P
 p2:P≤32
 u: ∀w∈m,U w
structure Q79(d:Q09):Prop where
 block:U d.B6
 frame:U d.B0
 opBlock:U d.B2
 opFrame:U d.A9
structure Qf2(n:Q0j):Prop where
 frame:U n.B0
 len:U n.D9
 buffer:U n.B8
 got:U n.F0
theorem Qg2{l:List Int}(h: ∀w∈l,U w)(i:Nat):U (l.getD i 0):=by
 by_cases hi:i<l.length
 · have:l.getD i 0=l[i]:=by simp [List.getD,hi]
   rw[this];exact h _ (List.getElem_mem hi)
 · have:l.getD i 0=0:=by simp [List.getD,List.getElem?_eq_none (by omega:l.length≤i)]
   rw[this];exact U_0
structure Q2f(c:Q02):Prop where
 x: ∀w∈A16.l c.X,U w
 pc:U c.Pc
 csr: ∀w∈A8.l c.B3,U w
theorem Z4u{X:A16 Int}(h: ∀w∈A16.l X,U w){v:Int}(hv:U v)(i:Nat): ∀w∈A16.l (A16.of 0 (List.set (A16.l X) i v)),U w:=by
 have hs:=Qvk h hv i
 intro w hw
 simp only[A16.l,A16.of,List.mem_cons,List.not_mem_nil,or_false]at hw
 repeat(first|(rcases hw with rfl|hw; · exact Qg2 hs _)|(subst hw;exact Qg2 hs _))
theorem Z19{X:A8 Int}(h: ∀w∈A8.l X,U w){v:Int}(hv:U v)(i:Nat): ∀w∈A8.l (A8.of 0 (List.set (A8.l X) i v)),U w:=by
 have hs:=Qvk h hv i
 intro w hw
 simp only[A8.l,A8.of,List.mem_cons,List.not_mem_nil,or_false]at hw
 repeat(first|(rcases hw with rfl|hw; · exact Qg2 hs _)|(subst hw;exact Qg2 hs _))
section
variable {c:Q02} (h:Q2f c)
include h
theorem Q2f.a(i:Nat):U ((A8.l c.B3).getD i 0):=Qg2 h.csr i
theorem Q2f.r(i:Nat):U ((A16.l c.X).getD i 0):=Qg2 h.x i
theorem Q2f.a0:U c.B3.a0:=h.a 0
theorem Q2f.a1:U c.B3.a1:=h.a 1
theorem Q2f.a2:U c.B3.a2:=h.a 2
theorem Q2f.a3:U c.B3.a3:=h.a 3
theorem Q2f.a4:U c.B3.a4:=h.a 4
theorem Q2f.a5:U c.B3.a5:=h.a 5
theorem Q2f.a6:U c.B3.a6:=h.a 6
theorem Q2f.a7:U c.B3.a7:=h.a 7
theorem Q2f.pcs{p:Int}(hp:U p):Q2f {X:=c.X,Pc:=p,B3:=c.B3}:=⟨h.x,hp,h.csr⟩
end
section
variable {α β:Type} {W:β→Prop} {t:Tree α} {Q:α→Prop} {k:α→Tree β}
theorem Q0d(hq:t.w Q)(g: ∀x,Q x→(k x).w W):(Tree.an t.p (Tree.lv t.m k)).w W:=⟨(Tree.pp hq).1,λy hy=>g y (by rw[hy];exact(Tree.pp hq).2)⟩
theorem Z7g(hq:t.w Q)(g: ∀x,Q x→(k x).w W):(Tree.lv t.m k).w W:=λy hy=>g y (by rw[hy];exact t.post hq)
end
theorem rc{r:Int}(h:0≤r∧r<16):(Nat.blt 0 1&&decide (0≤r∧r<((16:Nat):Int)))=true:=by simp [Nat.blt];omega
theorem Qog{a:Int}(h:U a)(b:Int):U (ishr .u32 a b):=by
 unfold ishr U
 obtain⟨h1,h2⟩:=h
 have hp:(0:Int)<2^(min b.toNat IntKind.u32.bits):=Int.pow_pos (by decide)
 have:=Int.fdiv_nonneg h1 (Int.le_of_lt hp)
 refine⟨this,?_⟩
 rw[Int.fdiv_eq_ediv_of_nonneg _ (Int.le_of_lt hp)]
 have h3:=Int.ediv_le_self (2^(min b.toNat IntKind.u32.bits)) h1
 omega
structure Qbv(i:Q0e):Prop where
 a:0≤i.A∧i.A<16
 b:0≤i.B∧i.B<16
 c:0≤i.C∧i.C<16
 csr:i.Op=58→0≤i.Imm∧i.Imm<8
theorem Qtp{P:Nat}{m:List Int}(h:Q0q P m):Q0l m=P:=by
 obtain⟨h1,h2,h3,_⟩:=h
 simp only[Q0l,Q8q,Tree.m]
 have e:(m.length:Int)=32*P:=by omega
 rw[e]
 have e1:(Int.tmod (32*(P:Int)) 32 !=0)=false:=by simp [Int.mul_tmod_right]
 have e2:decide ((32*(P:Int))>1024)=false:=decide_eq_false (by omega)
 rw[e1,e2]
 simp only[cond_false]
 rw[Int.mul_tdiv_cancel_left _ (by decide),IntKind.wrap_i64];omega
theorem mask_w(n:Int):(Q96 n).w (λ_=>True):=by
 unfold Q96
 exact w_br (λ_=>trivial) (λ_=>w_cn (decide_eq_true (by rw[IntKind.wrap_u64];omega)) trivial)
theorem Qoo(w low n:Int):(Q7i w low n).w U:=by
 unfold Q7i
 exact w_br (λ_=>U_0) (λ_=>w_br (λ_=>U_0) (λ_=>w_br (λ_=>U_0) (λ_=>w_cn (decide_eq_true (by rw[IntKind.wrap_u64];omega)) (Q0d (mask_w n) λ_ _=>Z4z _ _))))
theorem Z8f{w:Int}(hw:U w)(low n v:Int):(Q4i w low n v).w U:=by
 have h0:decide (0≤IntKind.wrap IntKind.u64 low)=true:=decide_eq_true (by rw[IntKind.wrap_u64];omega)
 unfold Q4i
 exact w_br (λ_=>hw) (λ_=>w_br (λ_=>hw) (λ_=>w_br (λ_=>hw) (λ_=>Q0d (mask_w n) λ_ _=>w_cn h0 (w_cn h0 (U_or _ _)))))
theorem Qnv{x:Int}(hx:U x)(n:Int):(Q2z x n).w U:=by
 have h0: ∀y,decide (0≤IntKind.wrap IntKind.u64 y)=true:=λy=>decide_eq_true (by rw[IntKind.wrap_u64];omega)
 unfold Q2z
 exact w_br (λ_=>U_0) (λ_=>w_br (λ_=>hx) (λ_=>w_cn (h0 _) (w_cn (h0 _) (Q0g _))))
section
variable {P:Nat} {m:List Int} (h:Q0q P m)
include h
theorem Q7s:Q03 m:=by
 have:=h.len
 have:=h.p2
 show m.length≤35184372088832
 omega
theorem Z13{a:Int}(ha:U a){size:Int}(hs:size=1∨size=4):(Q2s m a size).w (λb=>b=true→a+size≤128*P):=by
 have hp:=Qtp h
 have h2:=h.p2
 obtain⟨a1,a2⟩:=ha
 have e:decide (IntKind.wrap IntKind.u32 size≠0)=true:=by rcases hs with rfl|rfl<;>decide
 have l: ∀x,x=Q0l m→decide (IntKind.wrap IntKind.u64 (IntKind.wrap IntKind.u64 a+IntKind.wrap IntKind.u64 size)≤IntKind.wrap IntKind.u64 (IntKind.wrap IntKind.u64 x*128))=true→a+size≤128*P:=λx hx hd=>by
   rw[hx,hp]at hd
   have:=of_decide_eq_true hd
   simp only[IntKind.wrap_u64]at this
   omega
 unfold Q2s
 refine w_br (λ_=>w_br (λ_=>λh=>by cases h) (λ_=> ?_)) (λ_=> ?_)<;>
 exact w_cn e (w_br (λ_=>λh=>by cases h) (λ_=>w_lv λx hx=>l x hx))
theorem idxP{a:Int}(ha:U a)(hl:a<128*P):(Nat.beq 1 1&&Nat.blt 0 1&&decide (0≤IntKind.wrap IntKind.u32 (Int.tdiv a 4)∧IntKind.wrap IntKind.u32 (Int.tdiv a 4)<(m.length:Int)))=true:=by
 obtain⟨a1,a2⟩:=ha
 have e:IntKind.wrap IntKind.u32 (Int.tdiv a 4)=a/4:=by rw[IntKind.wrap_u32,Int.tdiv_eq_ediv_of_nonneg a1];omega
 have:=h.len
 rw[e];simp [Nat.blt];omega
theorem Qld{a:Int}(ha:U a){size:Int}(hs:size=1∨size=4):(Q34 m a size).w (λr=>U r.1∧(r.2=true→a<128*P)):=by
 unfold Q34
 refine Q0d (Z13 h ha hs) λx hx=>w_br (λ_=>⟨U_0,λh=>by cases h⟩) (λhb=> ?_)
 have hl:=hx (by simpa using hb)
 have hl:a<128*P:=by omega
 exact w_cn (idxP h ha hl) (w_br (λ_=>Q0d (Qoo _ _ _) λy hy=>⟨hy,λ_=>hl⟩) (λ_=>⟨Qg2 h.u _,λ_=>hl⟩))
theorem Qr{a:Int}(ha:U a){size:Int}(hs:size=1∨size=4){v:Int}(hv:U v):(Q49 m a size v).w (λr=>Q0q P r.1):=by
 have st: ∀i v,U v→Q0q P (m.set i v):=λi v hv=>⟨by simp [h.len],h.p1,h.p2,Qvk h.u hv i⟩
 have hcl:Q01 m=m:=rfl
 unfold Q49
 refine w_an (Q7s h) (w_lv λx0 hx0=> ?_)
 rw[hcl]at hx0;subst hx0
 refine Q0d (Z13 h ha hs) λx hx=>w_br (λ_=>h) (λhb=> ?_)
 have hl:=hx (by simpa using hb)
 have hl:a<128*P:=by omega
 exact w_br (λ_=>w_cn (idxP h ha hl) (Q0d (Z8f (Qg2 h.u _) _ _ _) λy hy=>w_cn (idxP h ha hl) (st _ _ hy))) (λ_=>w_cn (idxP h ha hl) (st _ _ hv))
end
theorem Z5e{r:Int}{used:Bool}(h:Q7w r used=true):0≤r∧r<16:=by
 simp only[Q7w,Qbe,Tree.m]at h
 cases used
 · have h:(r==0)=true:=h
   have:=eq_of_beq h;omega
 · cases h1:decide (r≥0)<;>rw[h1]at h
   · cases h
   · have h1:=of_decide_eq_true h1
     have h:=of_decide_eq_true h
     omega
theorem validP_ok{i:Q0e}(h:Qc5 i=true):Qbv i:=by
 have no:false=true→Qbv i:=λh=>by cases h
 refine(Tree.post (Qds i) (W:=λb=>b=true→Qbv i) ?_) h
 unfold Qds
 refine w_lv λx0 h0=>w_br (λ_=>w_lv λx1 h1=>w_br (λb1=>w_lv λx2 h2=>w_br (λb2=>w_lv λx3 h3=>w_br (λb3=>w_br (λb4=>λb5=> ?_) (λ_=>no)) (λ_=>no)) (λ_=>no)) (λ_=>no)) (λ_=>no)
 have b4:=of_decide_eq_true b4
 have b5:=of_decide_eq_true b5
 refine⟨Z5e (h1.symm.trans b1),Z5e (h2.symm.trans b2),Z5e (h3.symm.trans b3),λe=> ?_⟩
 rw[e]at h0
 have h0:x0=({a:=true,b:=false,c:=false,low:=0,D0:=7},true):=h0
 subst h0
 simp at b4 b5;omega
theorem Qt(w:Int):(Q4a w).w (λr=>r.2=true→Qbv r.1):=by
 have no: ∀{p:Prop},false=true→p:=λh=>by cases h
 have l: ∀i,(Tree.lv (Qc5 i) λx=> .br (!x) (.lf ((⟨0,0,0,0,0⟩:Q0e),false)) (.lf (i,true))).w (λr=>r.2=true→Qbv r.1):=λi=>w_lv λx hx=>w_br (λ_=>no) (λhb=>λ_=>validP_ok (hx.symm.trans (by simpa using hb)))
 unfold Q4a
 exact Q0d (Qoo _ _ _) λx0 _=>Q0d (Qoo _ _ _) λx1 _=>Q0d (Qoo _ _ _) λx2 _=>w_lv λx3 _=>w_br (λ_=>no) (λ_=>Q0d (Qoo _ _ _) λx4 h4=>w_br (λ_=>l _) (λ_=>w_br (λ_=>Q0d (Qnv h4 _) λx6 _=>l _) (λ_=>l _)))
section
variable {P:Nat} {m:List Int} (h:Q0q P m)
include h
theorem pageP_eq{f:Int}(hf:U f):Q88 m f=decide (f<P):=by
 have:=Qtp h
 obtain⟨h1,h2⟩:=hf
 have h3:=h.p2
 simp only[Q88,Qek,Tree.m,letv,this]
 congr 1
 rw[IntKind.wrap_u64,IntKind.wrap_u64,Int.emod_eq_of_lt h1 (by omega),Int.emod_eq_of_lt (by omega) (by omega)]
theorem walkP_w{root va:Int}(hv:U va)(access:Int):(Q5b m root va access).w (λt=>U t.Addr∧U t.E0):=by
 have bad:U (0:Int)∧U (0:Int):=⟨U_0,U_0⟩
 have fr: ∀x,(Q3w x).w U:=λx=>by
   unfold Q3w
   exact Q0d (Qoo _ _ _) λy hy=>hy
 unfold Q5b
 exact w_lv λx0 _=>w_br (λ_=>bad) (λ_=>w_br (λ_=>bad) (λ_=>w_lv λx1 _=>w_br (λ_=>bad) (λ_=>Q0d (Qld h (Q0g _) (.inr rfl)) λx2 _=>w_br (λ_=>bad) (λ_=>w_lv λx3 _=>w_br (λ_=>bad) (λ_=>Q0d (fr _) λx4 _=>w_lv λx5 _=>w_br (λ_=>bad) (λ_=>Q0d (fr _) λx6 _=>⟨Q0g _,Q0g _⟩))))))
theorem touchP_w{a:Int}(ha:U a)(access:Int):(Q4b m a access).w (Q0q P):=by
 have hcl:Q01 m=m:=rfl
 unfold Q4b
 exact Q0d (Qld h ha (.inr rfl)) λx0 _=>w_br (λ_=>w_an (Q7s h) (w_lv λx1 h1=>by rw[h1,hcl];exact h)) (λ_=>w_br (λ_=>Q0d (Qr h ha (.inr rfl) (U_or _ _)) λx hx=>hx) (λ_=>Q0d (Qr h ha (.inr rfl) (U_or _ _)) λx hx=>hx))
theorem Qgh{c:Q02}{va:Int}(hv:U va){size:Int}(hs:size=1∨size=4)(access:Int):(Q33 c m va size access).w (λr=>U r.1∧Q0q P r.2.1):=by
 have hcl:Q01 m=m:=rfl
 have e:decide (IntKind.wrap IntKind.u32 size≠0)=true:=by rcases hs with rfl|rfl<;>decide
 have cl: ∀(K:List Int→Int×List Int×Int),(∀x,x=m→U (K x).1∧Q0q P (K x).2.1)→(Tree.an (Q03 m) (.lv (Q01 m) λx=> .lf (K x))).w (λr=>U r.1∧Q0q P r.2.1):=λK hK=>w_an (Q7s h) (w_lv λx hx=>hK x (hx.trans hcl))
 have z: ∀(k:Nat) (x:List Int),x=m→U (0:Int)∧Q0q P x:=λ_ x hx=>⟨U_0,hx▸h⟩
 have v: ∀x,x=m→U va∧Q0q P x:=λx hx=>⟨hv,hx▸h⟩
 have main: ∀(x0:Int×Bool),(Tree.cn (decide (IntKind.wrap IntKind.u32 size≠0)) (.br (Int.tmod va (IntKind.wrap IntKind.u32 size) !=0) (.an (Q03 m) (.lv (Q01 m) λx3=> .lf ((0:Int),x3,(3:Int)))) (.lv (Q9f c) λx4=> .br (!x4) (.br (iand IntKind.u32 c.B3.a0 4 !=0) (.an (Q9v m c.B3.a6 va access) (.lv (Qel m c.B3.a6 va access) λx5=> .br (x5.D8 !=0) (.an (Q03 m) (.lv (Q01 m) λx6=> .lf (0,x6,x5.D8))) (.an (Q8x m x5.E0 access) (.lv (Q9c m x5.E0 access) λx7=> .lf (x5.Addr,x7,0))))) (.an (Q2b m va size) (.lv (Q3v m va size) λx8=> .br (!x8.2) (.an (Q03 m) (.lv (Q01 m) λx9=> .lf (0,x9,x0.1))) (.an (Q03 m) (.lv (Q01 m) λx10=> .lf (va,x10,0)))))) (.an (Q2b m va size) (.lv (Q3v m va size) λx11=> .br (!x11.2) (.an (Q03 m) (.lv (Q01 m) λx12=> .lf (0,x12,x0.1))) (.an (Q03 m) (.lv (Q01 m) λx13=> .lf (va,x13,0)))))))).w (λr=>U r.1∧Q0q P r.2.1):=λx0=>
   w_cn e (w_br (λ_=>cl _ (z 0)) (λ_=>w_lv λx4 _=>w_br (λ_=>w_br (λ_=>Q0d (walkP_w h hv access) λx5 hx=>w_br (λ_=>cl _ (z 0)) (λ_=>Q0d (touchP_w h hx.2 access) λx7 h7=>⟨hx.1,h7⟩)) (λ_=>Q0d (Qld h hv hs) λx8 _=>w_br (λ_=>cl _ (z 0)) (λ_=>cl _ v))) (λ_=>Q0d (Qld h hv hs) λx8 _=>w_br (λ_=>cl _ (z 0)) (λ_=>cl _ v))))
 unfold Q33
 exact w_lv λx0 _=>w_br (λ_=>cl _ (z 0)) (λ_=>w_br (λ_=>w_br (λ_=>cl _ (z 0)) (λ_=>main x0)) (λ_=>main x0))
theorem Qzq{c:Q02}(hc:Q2f c):(Q6d c m).w (λr=>U r.1∧Q0q P r.2.1):=by
 unfold Q6d
 exact Q0d (Qgh h hc.pc (.inr rfl) 1) λx0 h0=>w_br (λ_=>⟨U_0,h0.2⟩) (λ_=>Q0d (Qld h0.2 h0.1 (.inr rfl)) λx1 h1=>⟨h1.1,h0.2⟩)
end
theorem moveP_w{s a b:Int}:U (Q75 s a b):=by
 refine Tree.post (Qjl s a b) (W:=U) ?_
 unfold Qjl
 exact w_br (λ_=>Q0g _) (λ_=>Q0g _)
section
variable {c:Q02} (h:Q2f c)
include h
theorem Ql5(k:Int){b:Int}(hb:U b):Q2f (Q3r c k b):=by
 refine(Tree.post (Qgm c k b) (W:=Q2f) ?_)
 unfold Qgm
 refine w_lv λ_ _=>w_lv λ_ _=>⟨h.x,h.a1,?_⟩
 intro w hw
 simp only[A8.l,List.mem_cons,List.not_mem_nil,or_false]at hw
 rcases hw with rfl|rfl|rfl|rfl|rfl|rfl|rfl|rfl
 · exact Q0g _
 · exact h.a1
 · exact h.pc
 · exact Q0g _
 · exact hb
 · exact h.a5
 · exact h.a6
 · exact h.a7
theorem returnP_w:Q2f (Qb c):=by
 refine(Tree.post (Qbu c) (W:=Q2f) ?_)
 unfold Qbu
 refine w_lv λx0 _=>w_lv λx1 h1=>⟨h.x,h.a2,?_⟩
 intro w hw
 simp only[A8.l,List.mem_cons,List.not_mem_nil,or_false]at hw
 rcases hw with rfl|rfl|rfl|rfl|rfl|rfl|rfl|rfl
 · rw[h1];exact moveP_w
 · exact h.a1
 · exact h.a2
 · exact h.a3
 · exact h.a4
 · exact h.a5
 · exact h.a6
 · exact h.a7
theorem Qkn{r:Int}(hr:0≤r∧r<16){v:Int}(hv:U v):(Q7l c r v).w Q2f:=by
 unfold Q7l
 exact w_br (λ_=>w_cn (rc hr) ⟨Z4u h.x hv _,h.pc,h.csr⟩) (λ_=>h)
theorem Z7p(k:Int){v:Int}(hv:U v):(Q6j c k v).w Q2f:=by
 have ok: ∀i v,U v→Q2f {X:=c.X,Pc:=c.Pc,B3:=A8.of 0 (List.set (A8.l c.B3) i v)}:=λi v hv=>⟨h.x,h.pc,Z19 h.csr hv i⟩
 unfold Q6j
 repeat'(first
   |exact h
   |exact ok _ _ (Q0g _)
   |exact ok _ _ hv
   |refine w_br (λhk=> ?_) (λ_=> ?_)
   |refine w_cn (by rw[eq_of_beq (by assumption:(k==_)=true)];decide) ?_)
end
theorem Z23{a b:Int}(ha:U a)(hb:U b):(Q50 a b).w (λr=>U r.1∧U r.2):=by
 have u1:U 4294967295:=⟨by omega,by omega⟩
 unfold Q50
 refine w_br (λ_=>⟨u1,ha⟩) (λh=> ?_)
 have h: ¬b=0:=by simpa using h
 obtain⟨b1,b2⟩:=hb
 have hc:decide (IntKind.wrap IntKind.i32 b≠0)=true:=decide_eq_true (by rw[IntKind.wrap_i32];omega)
 exact w_br (λ_=>w_br (λ_=>⟨ha,U_0⟩) (λ_=>w_cn hc (w_cn hc ⟨Q0g _,Q0g _⟩))) (λ_=>w_cn hc (w_cn hc ⟨Q0g _,Q0g _⟩))
theorem truth_w(b:Bool):U (Qj8 b):=by cases b<;>exact⟨by decide,by decide⟩
theorem Qx9(op:Int){a b:Int}(ha:U a)(hb:U b):(Qen op a b).w (λr=>U r.1):=by
 unfold Qen
 repeat'(first
   |refine w_br (λ_=> ?_) (λ_=> ?_)
   |exact Q0d (Z23 ha hb) λx hx=>hx.1
   |exact Q0d (Z23 ha hb) λx hx=>hx.2
   |exact w_lv λx hx=>(by rw[hx];exact truth_w _)
   |refine w_lf ?_)
 all_goals(first
   |exact Q0g _
   |exact Qog ha _
   |exact U_0)
theorem Z00(op:Int):Qbp op=1∨Qbp op=4:=by
 simp only[Qbp,Qle,Tree.m]
 cases op==32<;>cases op==35<;>simp
section
variable {c:Q02} (h:Q2f c) {i:Q0e} (hi:Qbv i)
include h hi
theorem Za4:(Q2n c i).w (λr=>Q2f r.1∧U r.2.Value):=by
 have k: ∀{x:Q02} {p:Int},Q2f x→U p→Q2f {X:=x.X,Pc:=p,B3:=x.B3}:=λhx hp=>⟨hx.x,hp,hx.csr⟩
 unfold Q2n
 refine w_cn (rc hi.a) (w_cn (rc hi.b) ?_)
 repeat'(first
   |refine w_br (λ_=> ?_) (λ_=> ?_)
   |exact Q0d (Qkn h hi.a (Q0g _)) λx hx=>⟨k hx (Q0g _),U_0⟩
   |exact w_lv λx _=>w_br (λ_=>⟨k h (Q0g _),U_0⟩) (λ_=>⟨k h (Q0g _),U_0⟩)
   |exact w_lv λx hx=>⟨by rw[hx];exact Ql5 h _ U_0,U_0⟩
   |exact w_lv λx hx=>⟨by rw[hx];exact returnP_w h,U_0⟩
   |exact w_cn (by have:=hi.csr (by simp_all);simp [Nat.blt];omega) (Q0d (Qkn h hi.a (h.a _)) λx hx=>⟨k hx (Q0g _),U_0⟩)
   |exact Q0d (Z7p h _ (h.r _)) λx hx=>⟨k hx (Q0g _),U_0⟩
   |refine w_cn (rc hi.c) ?_
   |exact Q0d (Qx9 _ (h.r _) (Q0g _)) λy hy=>Q0d (Qkn h hi.a hy) λx hx=>⟨k hx (Q0g _),U_0⟩
   |exact Q0d (Qx9 _ (h.r _) (h.r _)) λy hy=>Q0d (Qkn h hi.a hy) λx hx=>⟨k hx (Q0g _),U_0⟩
   |refine w_lf ?_)
 all_goals(first
   |exact⟨k h (Q0g _),U_0⟩
   |exact⟨k h (Q0g _),h.r _⟩)
theorem Qri{P:Nat}{m:List Int}(hm:Q0q P m):(Q8a c m i).w (λr=>Q2f r.1∧Q0q P r.2):=by
 have w:=Z00 i.Op
 unfold Q8a
 refine w_cn (rc hi.b) (w_lv λx0 h0=> ?_)
 rw[←h0]at w
 refine Q0d (Qgh hm (Q0g _) w 2) λx1 h1=>w_br (λ_=>w_lv λy hy=>⟨by rw[hy];exact Ql5 h _ (Q0g _),h1.2⟩) (λ_=>w_lv λx3 h3=> ?_)
 rw[h0,←h3]at w
 exact Q0d (Qld h1.2 h1.1 w) λx4 h4=>w_br (λ_=>Q0d (Qnv h4.1 8) λy hy=>Q0d (Qkn h hi.a hy) λx hx=>⟨⟨hx.x,Q0g _,hx.csr⟩,h1.2⟩) (λ_=>Q0d (Qkn h hi.a h4.1) λx hx=>⟨⟨hx.x,Q0g _,hx.csr⟩,h1.2⟩)
theorem Qpw{P:Nat}{m:List Int}(hm:Q0q P m):(Q6f c m i).w (λr=>Q2f r.1∧Q0q P r.2):=by
 have w:=Z00 i.Op
 unfold Q6f
 refine w_cn (rc hi.b) (w_lv λx0 h0=> ?_)
 rw[←h0]at w
 refine Q0d (Qgh hm (Q0g _) w 3) λx1 h1=>w_br (λ_=>w_lv λy hy=>⟨by rw[hy];exact Ql5 h _ (Q0g _),h1.2⟩) (λ_=>w_lv λx3 h3=>w_cn (rc hi.a) ?_)
 rw[h0,←h3]at w
 exact Q0d (Qr h1.2 h1.1 w (h.r _)) λx hx=>⟨⟨h.x,Q0g _,h.csr⟩,hx⟩
end
theorem execP_w{c:Q02}(h:Q2f c){P:Nat}{m:List Int}(hm:Q0q P m):(Q4e c m).w (λr=>Q2f r.1∧Q0q P r.2.1∧U r.2.2.Value):=by
 unfold Q4e
 refine Q0d (Qzq hm h) λx0 h0=>w_br (λ_=>w_lv λy hy=>⟨by rw[hy];exact Ql5 h _ h.pc,h0.2,U_0⟩) (λ_=>Q0d (Qt _) λx2 h2=>w_br (λ_=>w_lv λy hy=>⟨by rw[hy];exact Ql5 h _ h0.1,h0.2,U_0⟩) (λhb=> ?_))
 have hi:=h2 (by simpa using hb)
 refine w_lv λx4 _=> ?_
 repeat'(first
   |refine w_br (λ_=> ?_) (λ_=> ?_)
   |exact Q0d (Qri h hi h0.2) λx hx=>⟨hx.1,hx.2,U_0⟩
   |exact Q0d (Qpw h hi h0.2) λx hx=>⟨hx.1,hx.2,U_0⟩
   |exact Q0d (Za4 h hi) λx hx=>⟨hx.1,h0.2,hx.2⟩
   |exact w_lv λy hy=>⟨by rw[hy];exact Ql5 h _ h0.1,h0.2,U_0⟩
   |refine w_lv λ_ _=> ?_)
theorem Z7h{a:Int}(h:U a)(k:Nat)(hk:k≤32):0≤ishr .u32 a k∧ishr .u32 a k*2^k≤a:=by
 obtain⟨h1,h2⟩:=h
 unfold ishr
 have e:min (k:Int).toNat IntKind.u32.bits=k:=by show min (k:Int).toNat 32=k;omega
 have hp:(0:Int)<2^k:=Int.pow_pos (by decide)
 rw[e,Int.fdiv_eq_ediv_of_nonneg _ (Int.le_of_lt hp)]
 exact⟨Int.ediv_nonneg h1 (Int.le_of_lt hp),Int.ediv_mul_le a (Int.ne_of_gt hp)⟩
theorem Z6j(x:Int):0≤IntKind.u8.wrap x∧IntKind.u8.wrap x<256:=by rw[IntKind.wrap_u8];omega
theorem len32_w{x:Int}(h:U x):(Q1f x).w (λ_=>True):=by
 have s16:=Z7h h 16 (by omega)
 have s8:=Z7h h 8 (by omega)
 have s24:=Z7h (Qog h 16) 8 (by omega)
 obtain⟨h1,h2⟩:=h
 unfold Q1f
 repeat'(first
   |refine w_br (λ_=> ?_) (λ_=> ?_)
   |refine w_cn (decide_eq_true ⟨?_,Int.lt_of_lt_of_le (b:=256) ?_ (Int.le_of_eq (by kernel_rfl))⟩) ?_
   |exact trivial
   |refine w_lf ?_)
 all_goals(first
   |trivial
   |exact(Z6j _).1
   |exact(Z6j _).2
   |(simp only[decide_eq_true_eq,decide_eq_false_iff_not]at*;simp at s16 s8 s24;omega))
theorem and255(a:Int):iand .u32 a 255<256:=by
 unfold iand
 rw[IntKind.wrap_u32]
 have:(BitVec.ofInt IntKind.u32.bits a&&&BitVec.ofInt IntKind.u32.bits 255).toNat≤255:=by
   show(BitVec.ofInt 32 a&&&BitVec.ofInt 32 255).toNat≤255
   rw[BitVec.toNat_and]
   exact Nat.le_trans Nat.and_le_right (by decide)
 omega
theorem ones_w{x:Int}(h:U x):(Q1o x).w (λ_=>True):=by
 have s24:=Z7h h 24 (by omega)
 obtain⟨h1,h2⟩:=h
 have i24:ishr .u32 x 24<256:=by simp at s24;omega
 unfold Q1o
 repeat'(first
   |refine w_cn (decide_eq_true ⟨?_,Int.lt_of_lt_of_le (b:=256) ?_ (Int.le_of_eq (by kernel_rfl))⟩) ?_
   |exact trivial
   |refine w_lf ?_)
 all_goals(first
   |trivial
   |exact(Q0g _).1
   |exact s24.1
   |exact i24
   |exact and255 _)
structure okS(P:Nat)(m:Q00):Prop where
 cpu:Q2f m.B1
 mem:Q0q P m.Mem
 disk:Q79 m.A7
 nic:Qf2 m.C3
 target:U m.A0.C4
 given:U m.A0.B9
theorem Z6g{b:Q06}(h:U b.B9):(Q4k b).w (λ_=>True):=by
 unfold Q4k
 exact Q0d (ones_w h) λ_ _=>trivial
theorem mayP_w{m:Q00}(h:U m.A0.B9):(Q44 m).w (λ_=>True):=by
 have b: ∀x,(Q2r m.A0 x).w (λ_=>True):=λx=>by
   unfold Q2r
   exact Q0d (len32_w h) λ_ _=>trivial
 have d:(Q1a m).w (λ_=>True):=by
   unfold Q1a
   exact w_lv λ_ _=>w_lv λ_ _=>w_br (λ_=>w_lv λ_ _=>w_br (λ_=>w_lv λ_ _=>w_br (λ_=>w_lv λ_ _=>w_br (λ_=>Q0d (b _) λ_ _=>trivial) (λ_=>trivial)) (λ_=>trivial)) (λ_=>trivial)) (λ_=>trivial)
 unfold Q44
 repeat'(first
   |refine w_br (λ_=> ?_) (λ_=> ?_)
   |exact Q0d d λ_ _=>trivial
   |refine w_lv λ_ _=> ?_
   |exact trivial)
theorem linesP_w{m:Q00}(h:U m.A0.B9):(Q3f m).w (λ_=>True):=by
 have p:(Q2h m.A0).w (λ_=>True):=by
   unfold Q2h
   exact Q0d (Z6g h) λ_ _=>trivial
 unfold Q3f
 refine w_lv λx0 _=>w_lv λx1 _=>w_lv λx2 _=>w_lv λx3 _=>Q0d p λx4 _=>w_lp (inv:=λz=>0≤z.2∧z.2≤5) (μ:=Qet m) ⟨by omega,by omega⟩ (Nat.lt_succ_self _) (λz hz=> ?_)
 obtain⟨z1,z2⟩:=hz
 have ew:z.2<5→IntKind.i64.wrap (z.2+1)=z.2+1:=λ_=>by rw[IntKind.wrap_i64];omega
 refine w_br (λhb=> ?_) (λ_=>trivial)
 have hb:=of_decide_eq_true hb
 have nx:(0≤IntKind.i64.wrap (z.2+1)∧IntKind.i64.wrap (z.2+1)≤5)∧(5-IntKind.i64.wrap (z.2+1)).toNat<(5-z.2).toNat:=by rw[ew hb];omega
 refine w_cn (by simp;omega) (w_br (λ_=>w_cn (decide_eq_true z1) (w_nx nx)) (λ_=>w_nx nx))
theorem Qwk{m:Q00}(h:U m.A0.B9):(Q2j m).w U:=by
 unfold Q2j
 exact Q0d (linesP_w h) λ_ _=>Z4z _ _
theorem runsP_w{m:Q00}(h:U m.A0.B9):(Q2a m).w (λ_=>True):=by
 have i:(Q2l m).w (λ_=>True):=by
   unfold Q2l
   exact w_br (λ_=>Q0d (Qwk h) λ_ _=>trivial) (λ_=>trivial)
 unfold Q2a
 exact Q0d (mayP_w h) λ_ _=>w_br (λ_=>w_br (λ_=>Q0d i λ_ _=>w_br (λ_=>trivial) (λ_=>trivial)) (λ_=>trivial)) (λ_=>trivial)
theorem Qbf{P:Nat}{m:List Int}(h:Q0q P m):Q3t m=P:=by
 obtain⟨h1,h2,h3,_⟩:=h
 simp only[Q3t,Qpx,Tree.m]
 have e:(m.length:Int)=32*P:=by omega
 rw[e]
 have e1:(Int.tmod (32*(P:Int)) 32 !=0)=false:=by simp [Int.mul_tmod_right]
 have e2:decide ((32*(P:Int))>1024)=false:=decide_eq_false (by omega)
 rw[e1,e2]
 simp only[cond_false]
 rw[Int.mul_tdiv_cancel_left _ (by decide),IntKind.wrap_i64];omega
theorem Qh4{P:Nat}{m:List Int}(h:Q0q P m){f:Int}(hf:U f):Q1s m f=decide (f<P):=by
 have:=Qbf h
 obtain⟨h1,h2⟩:=hf
 have h3:=h.p2
 simp only[Q1s,Qh2,Tree.m,letv,this]
 congr 1
 rw[IntKind.wrap_u64,IntKind.wrap_u64,Int.emod_eq_of_lt h1 (by omega),Int.emod_eq_of_lt (by omega) (by omega)]
theorem put_w{P:Nat}{m:List Int}(h:Q0q P m){addr size v:Int}(ha:U addr)(hl:addr<4*m.length)(hv:U v):(Qdj m addr size v).w (Q0q P):=by
 obtain⟨h1,h2,h3,h4⟩:=h
 obtain⟨a1,a2⟩:=ha
 have e:IntKind.wrap IntKind.u32 (Int.tdiv addr 4)=addr/4:=by rw[IntKind.wrap_u32,Int.tdiv_eq_ediv_of_nonneg a1];omega
 have hc:(Nat.beq 1 1&&Nat.blt 0 1&&decide (0≤IntKind.wrap IntKind.u32 (Int.tdiv addr 4)∧IntKind.wrap IntKind.u32 (Int.tdiv addr 4)<(m.length:Int)))=true:=by
   rw[e];simp [Nat.blt];omega
 have h0: ∀x,decide (0≤IntKind.wrap IntKind.u32 x)=true:=λx=>decide_eq_true (Q0g x).1
 have hs: ∀i v,U v→Q0q P (m.set i v):=λi v hv=>⟨by simp [h1],h2,h3,Qvk h4 hv i⟩
 unfold Qdj
 exact w_br (λ_=>w_cn hc (hs _ _ hv)) (λ_=>w_cn hc (w_cn (h0 _) (w_cn (h0 _) (w_cn hc (hs _ _ (U_or _ _))))))
theorem fill_w{P:Nat}{m:List Int}(h:Q0q P m){frame:Int}(f0:0≤frame)(f1:frame<P)(s:List UInt8):(Q93 m frame s).w (Q0q P):=by
 unfold Q93
 have h3:=h.p2
 refine w_lp (inv:=λz=>0≤z.1∧z.1≤128∧Q0q P z.2) (μ:=Qe3 m frame s) ⟨by omega,by omega,h⟩ (Nat.lt_succ_self _) (λv0 hv0=> ?_)
 obtain⟨i0,i1,hm⟩:=hv0
 refine w_br (λh1=>w_br (λh2=>w_cn ?_ ?_) (λ_=>hm)) (λ_=>hm)
 · have:=of_decide_eq_true h1
   simp [Nat.blt];omega
 · have h2:=of_decide_eq_true h2
   have e:IntKind.wrap IntKind.u32 (IntKind.wrap IntKind.i64 (IntKind.wrap IntKind.i64 (frame*128)+v0.1))=frame*128+v0.1:=by
     rw[IntKind.wrap_u32,IntKind.wrap_i64,IntKind.wrap_i64];omega
   rw[e]
   obtain⟨g1,g2⟩:=Tree.pp (put_w hm (size:=1) (addr:=frame*128+v0.1) ⟨by omega,by omega⟩ (by rw[hm.len];omega) (Q0g (UInt8.toNat (s.getD v0.1.toNat 0))))
   refine w_an g1 (w_lv λx0 hx0=> ?_)
   rw[hx0]
   have ew:IntKind.i64.wrap (v0.1+1)=v0.1+1:=by rw[IntKind.wrap_i64];omega
   refine w_nx ?_
   show(0≤IntKind.i64.wrap (v0.1+1)∧IntKind.i64.wrap (v0.1+1)≤128∧Q0q P _)∧(128-IntKind.i64.wrap (v0.1+1)).toNat<(128-v0.1).toNat
   rw[ew]
   exact⟨⟨by omega,by omega,g2⟩,by omega⟩
theorem finish_w{P:Nat}{m:List Int}(h:Q0q P m){d:Q09}(hd:Q79 d)(e:Q0m):(Qa3 d m e).w (λr=>Q79 r.1∧Q0q P r.2.2):=by
 have fl:Q1s m d.A9=true→(Q93 m (IntKind.i64.wrap d.A9) e.C7).w (Q0q P):=λhp=>by
   rw[Qh4 h hd.opFrame]at hp
   have:=of_decide_eq_true hp
   have h1:=hd.opFrame.1
   have h3:=h.p2
   have ew:IntKind.i64.wrap d.A9=d.A9:=by rw[IntKind.wrap_i64];omega
   rw[ew]
   exact fill_w h h1 this _
 have l0:Q79 d∧Q0q P m:=⟨hd,h⟩
 have l1: ∀st,Q79 {Blocks:=d.Blocks,B6:=d.B6,B0:=d.B0,B7:=st,D6:=0,B2:=0,A9:=0,C0:=[]}:=λst=>⟨hd.block,hd.frame,U_0,U_0⟩
 unfold Qa3
 repeat'(first
   |exact l0
   |exact⟨l1 _,h⟩
   |refine w_br (λ_=> ?_) (λ_=> ?_)
   |refine w_lv (λ_ _=> ?_))
 all_goals(
   first
     | (have hp:Q1s m d.A9=true:=by simp_all
        obtain⟨g1,g2⟩:=Tree.pp (fl hp)
        refine w_an g1 (w_lv λx hx=> ?_)
        rw[hx]
        exact w_br (λ_=>⟨l1 _,g2⟩) (λ_=>⟨l1 _,g2⟩))
     |(exfalso;simp_all;done))
section
variable {c:Q02} (h:Q2f c)
include h
theorem Qs7(k:Int){b:Int}(hb:U b):Q2f (Q2i c k b):=by
 refine(Tree.post (Qhe c k b) (W:=Q2f) ?_)
 unfold Qhe
 refine w_lv λ_ _=>w_lv λ_ _=>⟨h.x,h.a1,?_⟩
 intro w hw
 simp only[A8.l,List.mem_cons,List.not_mem_nil,or_false]at hw
 rcases hw with rfl|rfl|rfl|rfl|rfl|rfl|rfl|rfl
 · exact U_or _ _
 · exact h.a1
 · exact h.pc
 · exact Q0g _
 · exact hb
 · exact h.a5
 · exact h.a6
 · exact h.a7
theorem return_w:Q2f (Qhm c):=by
 refine(Tree.post (Qd8 c) (W:=Q2f) ?_)
 unfold Qd8
 refine w_lv λ_ _=>w_lv λ_ _=>⟨h.x,h.a2,?_⟩
 intro w hw
 simp only[A8.l,List.mem_cons,List.not_mem_nil,or_false]at hw
 rcases hw with rfl|rfl|rfl|rfl|rfl|rfl|rfl|rfl
 · exact U_or _ _
 · exact h.a1
 · exact h.a2
 · exact h.a3
 · exact h.a4
 · exact h.a5
 · exact h.a6
 · exact h.a7
theorem Z0h(r:Int){v:Int}(hv:U v):(Qdi c r v).w Q2f:=by
 unfold Qdi
 refine w_br (λh1=>w_br (λh2=>w_cn ?_ ⟨Z4u h.x hv _,h.pc,h.csr⟩) (λ_=>h)) (λ_=>h)
 have h1:=of_decide_eq_true h1
 have h2:=of_decide_eq_true h2
 simp [Nat.blt];omega
theorem write_w(k:Int){v:Int}(hv:U v):(Qbx c k v).w Q2f:=by
 have ok: ∀i v,U v→Q2f {X:=c.X,Pc:=c.Pc,B3:=A8.of 0 (List.set (A8.l c.B3) i v)}:=λi v hv=>⟨h.x,h.pc,Z19 h.csr hv i⟩
 unfold Qbx
 repeat'(first
   |exact h
   |exact ok _ _ (Q0g _)
   |exact ok _ _ hv
   |refine w_br (λhk=> ?_) (λ_=> ?_)
   |refine w_cn (by rw[eq_of_beq (by assumption:(k==_)=true)];decide) ?_)
end
section
variable {P:Nat} {m:List Int} (h:Q0q P m)
include h
theorem Qy7(a:Int){size:Int}(hs:size=1∨size=4):(Q80 m a size).w (λb=>b=true→a<128*P):=by
 have hp:=Qbf h
 have h2:=h.p2
 have e:decide (IntKind.wrap IntKind.u32 size≠0)=true:=by rcases hs with rfl|rfl<;>decide
 have l: ∀x,x=Q3t m→decide (a<IntKind.wrap IntKind.u32 (IntKind.wrap IntKind.i64 (128*x)))=true→a<128*P:=λx hx hd=>by
   rw[hx,hp,IntKind.wrap_u32,IntKind.wrap_i64]at hd
   have:=of_decide_eq_true hd
   omega
 unfold Q80
 refine w_br (λ_=>w_br (λ_=>λh=>by cases h) (λ_=> ?_)) (λ_=> ?_)<;>
 exact w_cn e (w_br (λ_=>w_lv λx hx=>l x hx) (λ_=>λh=>by cases h))
theorem idx{a:Int}(ha:U a)(hl:a<128*P):(Nat.beq 1 1&&Nat.blt 0 1&&decide (0≤IntKind.wrap IntKind.u32 (Int.tdiv a 4)∧IntKind.wrap IntKind.u32 (Int.tdiv a 4)<(m.length:Int)))=true:=by
 obtain⟨a1,a2⟩:=ha
 have e:IntKind.wrap IntKind.u32 (Int.tdiv a 4)=a/4:=by rw[IntKind.wrap_u32,Int.tdiv_eq_ediv_of_nonneg a1];omega
 have:=h.len
 rw[e];simp [Nat.blt];omega
theorem Z70{a:Int}(ha:U a){size:Int}(hs:size=1∨size=4):(Q6h m a size).w (λr=>U r.1):=by
 obtain⟨g1,g2⟩:=Tree.pp (Qy7 h a hs)
 unfold Q6h
 refine w_an g1 (w_lv λx hx=>w_br (λ_=>U_0) (λhb=> ?_))
 have hb:x=true:=by simpa using hb
 have hl:=g2 (hx.symm.trans hb)
 refine w_cn (idx h ha hl) (w_br (λ_=>w_cn (decide_eq_true (Q0g _).1) (Q0g _)) (λ_=>Qg2 h.u _))
theorem mark_w{a:Int}(ha:U a)(access:Int):(Qef m a access).w (Q0q P):=by
 obtain⟨g1,g2⟩:=Tree.pp (Qy7 h a (size:=4) (.inr rfl))
 have hs: ∀{m:List Int} i v,Q0q P m→U v→Q0q P (m.set i v):=λi v h hv=>⟨by simp [h.len],h.p1,h.p2,Qvk h.u hv i⟩
 unfold Qef
 refine w_an g1 (w_lv λx hx=>w_br (λ_=>h) (λhb=> ?_))
 have hb:x=true:=by simpa using hb
 have hl:=g2 (hx.symm.trans hb)
 have i0:=idx h ha hl
 have h':=hs (Int.toNat (IntKind.wrap IntKind.u32 (Int.tdiv a 4))) (ior IntKind.u32 (m.getD (Int.toNat (IntKind.wrap IntKind.u32 (Int.tdiv a 4))) 0) 8) h (U_or _ _)
 have i1:=idx h' ha hl
 exact w_cn i0 (w_cn i0 (w_br (λ_=>w_cn i1 (w_cn i1 (hs _ _ h' (U_or _ _)))) (λ_=>h')))
theorem walk_w{root va:Int}(hr:U root)(hv:U va)(access:Int):(Q8z m root va access).w (λt=>U t.Addr∧U t.E0∧(t.D8=0→t.Addr<128*P)):=by
 have hp:=Qbf h
 have h2:=h.p2
 have hlen:=h.len
 obtain⟨r1,r2⟩:=hr
 obtain⟨v1,v2⟩:=hv
 unfold Q8z
 refine w_lv λx0 hx0=>w_lv λx1 hx1=>w_lv λx2 _=> ?_
 have hc:x0≠0:=by
   rw[hx0]
   simp only[Q3o,Q8o,Tree.m]
   cases access==1<;>cases access==3<;>simp
 rw[hp]at hx1
 have bad:U (0:Int)∧U (0:Int)∧(x0=0→(0:Int)<128*P):=⟨U_0,U_0,λe=>absurd e hc⟩
 refine w_br (λ_=>bad) (λ_=>w_br (λ_=>bad) (λhva=>w_br (λ_=>bad) (λhro=> ?_)))
 have hva:=of_decide_eq_false hva
 have hro:=of_decide_eq_false hro
 have e1:IntKind.wrap IntKind.u32 x1=P:=by rw[hx1,IntKind.wrap_u32];omega
 rw[e1]at hro
 have e2:IntKind.wrap IntKind.u32 (IntKind.wrap IntKind.u32 (root*128)+IntKind.wrap IntKind.u32 (4*IntKind.wrap IntKind.u32 (Int.tdiv va 128)))=root*128+4*(va/128):=by
   rw[Int.tdiv_eq_ediv_of_nonneg v1,IntKind.wrap_u32,IntKind.wrap_u32,IntKind.wrap_u32,IntKind.wrap_u32];omega
 have hU:U (IntKind.wrap IntKind.u32 (IntKind.wrap IntKind.u32 (root*128)+IntKind.wrap IntKind.u32 (4*IntKind.wrap IntKind.u32 (Int.tdiv va 128)))):=Q0g _
 have ci:=idx h hU (by rw[e2];omega)
 have good: ∀w:Int,decide (iand IntKind.u32 w 255≥IntKind.wrap IntKind.u32 x1)=false→(U (IntKind.wrap IntKind.u32 (IntKind.wrap IntKind.u32 (iand IntKind.u32 w 255*128)+Int.tmod va 128))∧U (IntKind.wrap IntKind.u32 (IntKind.wrap IntKind.u32 (root*128)+IntKind.wrap IntKind.u32 (4*IntKind.wrap IntKind.u32 (Int.tdiv va 128))))∧((0:Int)=0→IntKind.wrap IntKind.u32 (IntKind.wrap IntKind.u32 (iand IntKind.u32 w 255*128)+Int.tmod va 128)<128*P)):=λw hw=>by
   have hw:=of_decide_eq_false hw
   rw[e1]at hw
   have hn:=(Z4z w 255).1
   refine⟨Q0g _,Q0g _,λ_=> ?_⟩
   rw[Int.tmod_eq_emod_of_nonneg v1,IntKind.wrap_u32,IntKind.wrap_u32]
   generalize iand IntKind.u32 w 255=q at*
   omega
 refine w_cn ci ?_
 repeat'(first
   |exact bad
   |exact good _ (by assumption)
   |refine w_br (λ_=> ?_) (λ_=> ?_)
   |refine w_cn ci ?_)
theorem Qye{c:Q02}(hc:Q2f c){va:Int}(hv:U va){size:Int}(hs:size=1∨size=4)(access:Int):(Q97 c m va size access).w (λr=>Q0q P r.2.2∧U r.1∧(r.2.1=0→r.1<128*P)):=by
 have e:decide (IntKind.wrap IntKind.u32 size≠0)=true:=by rcases hs with rfl|rfl<;>decide
 obtain⟨g1,g2⟩:=Tree.pp (Qy7 h va hs)
 obtain⟨k1,k2⟩:=Tree.pp (walk_w h hc.a6 hv access)
 have bad: ∀k:Int,k≠0→Q0q P m∧U (0:Int)∧(k=0→(0:Int)<128*P):=λk hk=>⟨h,U_0,λe=>absurd e hk⟩
 have hca:Q3o access≠0:=by
   simp only[Q3o,Q8o,Tree.m]
   cases access==1<;>cases access==3<;>simp
 unfold Q97
 refine w_lv λx0 _=>w_br (λ_=>bad 5 (by decide)) (λ_=>w_br (λh1=>w_br (λh2=> ?_) (λ_=> ?_)) (λ_=> ?_))
 · exact bad 5 (by decide)
 all_goals(
   refine w_cn e (w_br (λ_=>bad 3 (by decide)) (λ_=>w_lv λx1 _=>w_br (λ_=>w_an g1 (w_lv λx2 hx2=>w_br (λ_=>w_lv λx3 hx3=>bad x3 (by rw[hx3];exact hca)) (λhb=> ?_))) (λ_=>w_an k1 (w_lv λx4 hx4=>w_br (λhb=> ?_) (λhb=> ?_)))))
   · have hb:x2=true:=by simpa using hb
     exact⟨h,hv,λ_=>g2 (hx2.symm.trans hb)⟩
   · exact bad _ (by simpa using hb)
   · obtain⟨t1,t2,t3⟩:=k2
     rw[show(Q8z m c.B3.a6 va access).m=x4 from hx4.symm]at t1 t2 t3
     obtain⟨m1,m2⟩:=Tree.pp (mark_w h t2 access)
     refine w_an m1 (w_lv λx5 hx5=> ?_)
     exact⟨hx5▸m2,t1,λ_=>t3 (by simpa using hb)⟩)
end
theorem reg_ok{r:Int}(h:Q69 r=true):0≤r∧r<16:=by
 simp only[Q69,Qa1,Tree.m]at h
 cases h1:decide (r≥0)<;>rw[h1]at h
 · cases h
 · have h1:=of_decide_eq_true h1
   have h:=of_decide_eq_true h
   omega
theorem valid_ok{i:Q0e}(hi:IntKind.wrap .i64 i.Imm=i.Imm)(h:Q6y i=true):Qbv i:=by
 have no:false=true→Qbv i:=λh=>by cases h
 refine(Tree.post (Qbj i) (W:=λb=>b=true→Qbv i) ?_) h
 unfold Qbj
 refine w_lv λx0 h0=>w_br (λ_=>no) (λ_=>w_lv λx1 h1=>w_br (λ_=>no) (λb1=>w_lv λx2 h2=>w_br (λ_=>no) (λb2=>w_lv λx3 h3=>w_br (λ_=>no) (λb3=>w_lv λx4 h4=>w_br (λ_=>no) (λb4=>w_br (λ_=>no) (λb5=> ?_))))))
 have b1:x1=true:=by simpa using b1
 have b2:x2=true:=by simpa using b2
 have b3:x3=true:=by simpa using b3
 have b4:=of_decide_eq_false b4
 have b5:=of_decide_eq_false b5
 rw[hi]at b4 b5
 have ok:Qbv i:=⟨reg_ok (h1.symm.trans b1),reg_ok (h2.symm.trans b2),reg_ok (h3.symm.trans b3),λe=>by
   rw[e]at h0
   have h0:x0=8:=h0
   subst h0
   have h4:x4=(0,7):=h4
   subst h4
   simp at b4 b5;omega⟩
 repeat'(first
   |exact λ_=>ok
   |exact no
   |refine w_br (λ_=> ?_) (λ_=> ?_))
theorem Z80(w:Int):(Q9q w).w (λr=>r.2=true→Qbv r.1):=by
 have no: ∀{p:Prop},false=true→p:=λh=>by cases h
 have e: ∀x,IntKind.wrap .i64 (IntKind.wrap .i32 x)=IntKind.wrap .i32 x:=λx=>by rw[IntKind.wrap_i64,IntKind.wrap_i32];omega
 have ok: ∀i,IntKind.wrap .i64 i.Imm=i.Imm→ ∀x,x=Q6y i→(!x)=false→true=true→Qbv i:=λi hi x hx hb _=>valid_ok hi (hx.symm.trans (by simpa using hb))
 unfold Q9q
 refine w_lv λx0 _=> ?_
 have l: ∀i,IntKind.wrap .i64 i.Imm=i.Imm→(Tree.lv (Q6y i) λx=> .br (!x) (.lf ((⟨0,0,0,0,0⟩:Q0e),false)) (.lf (i,true))).w (λr=>r.2=true→Qbv r.1):=λi hi=>w_lv λx hx=>w_br (λ_=>no) (λhb=>ok i hi x hx hb)
 refine w_br (λ_=>no) (λ_=>w_br (λ_=>l _ rfl) (λ_=>w_br (λ_=>l _ (e _)) (λ_=>w_br (λ_=>l _ (e _)) (λ_=>l _ (e _)))))
theorem bit_w(b:Bool):U (Q9n b):=by cases b<;>exact⟨by decide,by decide⟩
theorem Z6y{a b:Int}(ha:U a)(hb:U b):(Q9m a b).w (λr=>U r.1∧U r.2):=by
 unfold Q9m
 refine w_br (λ_=>⟨⟨by omega,by omega⟩,ha⟩) (λh=> ?_)
 have h: ¬b=0:=by simpa using h
 obtain⟨b1,b2⟩:=hb
 have hc:decide (IntKind.wrap IntKind.i64 (IntKind.wrap IntKind.i32 b)≠0)=true:=decide_eq_true (by rw[IntKind.wrap_i64,IntKind.wrap_i32];omega)
 exact w_cn hc (w_cn hc ⟨Q0g _,Q0g _⟩)
theorem alu_w(op:Int){a b:Int}(ha:U a)(hb:U b):(Qjo op a b).w (λr=>U r.1):=by
 unfold Qjo
 refine w_lv λx0 _=> ?_
 repeat'(first
   |exact Q0g _
   |exact Qog ha _
   |exact U_0
   |refine w_br (λ_=> ?_) (λ_=> ?_)
   |exact Q0d (Z6y ha hb) λx hx=>hx.1
   |exact Q0d (Z6y ha hb) λx hx=>hx.2
   |exact w_lv λx hx=>(by rw[hx];exact bit_w _))
theorem signext_w{x:Int}(hx:U x):(Q85 x 8).w U:=by
 unfold Q85
 have h0:decide (0≤IntKind.wrap IntKind.u64 8)=true:=by decide
 refine w_br (λh=>absurd h (by decide)) λ_=>w_br (λh=>absurd h (by decide)) λ_=>w_cn h0 (w_cn (by decide) (w_br (λ_=>w_cn h0 (U_or _ _)) (λ_=>Z4z _ _)))
section
variable {c:Q02} (h:Q2f c) {i:Q0e} (hi:Qbv i)
include h hi
theorem system_w:(Qcw c i).w (λr=>Q2f r.1∧U r.2.Value):=by
 unfold Qcw
 refine w_br (λ_=>w_lv λx hx=>⟨hx▸Qs7 h _ U_0,U_0⟩) (λ_=>w_br (λ_=>w_lv λx hx=>⟨hx▸return_w h,U_0⟩) (λ_=>w_br (λe=>w_cn ?_ (Q0d (Z0h h _ (h.a _)) λx hx=>⟨hx.pcs (Q0g _),U_0⟩)) (λ_=>w_br (λ_=>w_cn (rc hi.a) (Q0d (write_w h _ (h.r _)) λx hx=>⟨hx.pcs (Q0g _),U_0⟩)) (λ_=> ?_))))
 · have:=hi.csr (by simpa using e)
   simp [Nat.blt];omega
 · have k:=h.pcs (Q0g (c.Pc+4))
   repeat'(first
     |exact⟨k,U_0⟩
     |exact⟨k,h.r _⟩
     |refine w_br (λ_=> ?_) (λ_=> ?_)
     |refine w_cn (rc hi.a) ?_)
theorem jump_w:(Qhd c i).w Q2f:=by
 unfold Qhd
 exact w_br (λ_=>Q0d (Z0h h _ (Q0g _)) λx hx=>hx.pcs (Q0g _)) (λ_=>w_br (λ_=>w_cn (rc hi.b) (Q0d (Z0h h _ (Q0g _)) λx hx=>hx.pcs (Q0g _))) (λ_=>w_cn (rc hi.a) (w_cn (rc hi.b) (w_lv λx _=>w_br (λ_=>h.pcs (Q0g _)) (λ_=>h.pcs (Q0g _))))))
theorem Z9r{P:Nat}{m:List Int}(hm:Q0q P m):(Qa8 c m i).w (λr=>Q2f r.1∧Q0q P r.2):=by
  unfold Qa8
  refine w_cn (rc hi.b) ?_
  have e1:(1:Int)=1∨(1:Int)=4:= .inl rfl
  have e4:(4:Int)=1∨(4:Int)=4:= .inr rfl
  repeat'(first
    |refine w_br (λ_=> ?_) (λ_=> ?_)
    | (refine Q0d (Qye hm h (Q0g _) e4 _) λx hx=> ?_
       obtain⟨m1,m2,m3⟩:=hx
       refine w_br (λ_=>w_lv λy hy=>⟨hy▸Qs7 h _ (Q0g _),m1⟩) (λhb=> ?_)
       have m3:=m3 (by simpa using hb)
       have m4:x.1<4*x.2.2.length:=by rw[m1.len];omega
       clear hb)
    | (refine Q0d (Qye hm h (Q0g _) e1 _) λx hx=> ?_
       obtain⟨m1,m2,m3⟩:=hx
       refine w_br (λ_=>w_lv λy hy=>⟨hy▸Qs7 h _ (Q0g _),m1⟩) (λhb=> ?_)
       have m3:=m3 (by simpa using hb)
       have m4:x.1<4*x.2.2.length:=by rw[m1.len];omega
       clear hb)
    |exact w_cn (rc hi.a) (Q0d (put_w (by assumption) (by assumption) (by assumption) (h.r _)) λy hy=>⟨h.pcs (Q0g _),hy⟩)
    |(refine Q0d (Z70 (by assumption) (by assumption) e4) λy hy=> ?_)
    |(refine Q0d (Z70 (by assumption) (by assumption) e1) λy hy=> ?_)
    |exact Q0d (signext_w (by assumption)) λz hz=>Q0d (Z0h h _ hz) λu hu=>⟨hu.pcs (Q0g _),by assumption⟩
    |exact Q0d (Z0h h _ (by assumption)) λu hu=>⟨hu.pcs (Q0g _),by assumption⟩)
end
theorem do_w{c:Q02}(h:Q2f c){P:Nat}{m:List Int}(hm:Q0q P m):(Qmc c m).w (λr=>Q2f r.1∧U r.2.1.Value∧Q0q P r.2.2):=by
 unfold Qmc
 refine Q0d (Qye hm h h.pc (.inr rfl) 1) λx0 hx=> ?_
 obtain⟨m1,m2,m3⟩:=hx
 refine w_br (λ_=>w_lv λy hy=>⟨hy▸Qs7 h _ h.pc,U_0,m1⟩) (λhb=> ?_)
 refine Q0d (Z70 m1 m2 (.inr rfl)) λx2 h2=>Z7g (Z80 _) λx3 h3=>w_br (λ_=>w_lv λy hy=>⟨hy▸Qs7 h _ h2,U_0,m1⟩) (λb3=> ?_)
 have hi:=h3 (by simpa using b3)
 refine w_lv λx5 _=> ?_
 repeat'(first
   |refine w_br (λ_=> ?_) (λ_=> ?_)
   |exact w_lv λy hy=>⟨hy▸Qs7 h _ h2,U_0,m1⟩
   |exact Q0d (system_w h hi) λy hy=>⟨hy.1,hy.2,m1⟩
   |exact Q0d (jump_w h hi) λy hy=>⟨hy,U_0,m1⟩
   |exact Q0d (Z9r h hi m1) λy hy=>⟨hy.1,U_0,hy.2⟩
   |exact Q0d (Z0h h _ (Q0g _)) λy hy=>⟨hy.pcs (Q0g _),U_0,m1⟩
   |refine w_cn (rc hi.c) ?_
   |refine w_cn (rc hi.b) ?_
   |exact Q0d (alu_w _ (h.r _) (h.r _)) λy hy=>Q0d (Z0h h _ hy) λz hz=>⟨hz.pcs (Q0g _),U_0,m1⟩
   |exact Q0d (alu_w _ (h.r _) (Q0g _)) λy hy=>Q0d (Z0h h _ hy) λz hz=>⟨hz.pcs (Q0g _),U_0,m1⟩)
theorem and1{q:Int}(h:U q):iand .u32 q 1=q%2:=by
 obtain⟨h1,h2⟩:=h
 unfold iand
 rw[IntKind.wrap_u32]
 have e1:(BitVec.ofInt 32 q).toNat=q.toNat:=by rw[BitVec.toNat_ofInt];omega
 have e2:(BitVec.ofInt 32 1).toNat=1:=by decide
 have:(BitVec.ofInt IntKind.u32.bits q&&&BitVec.ofInt IntKind.u32.bits 1).toNat=q.toNat%2:=by
   show(BitVec.ofInt 32 q&&&BitVec.ofInt 32 1).toNat=_
   rw[BitVec.toNat_and,e1,e2,Nat.and_one_is_mod]
 rw[this];omega
theorem Z2h(b:Bool)(n:Int):(Qhc b n).w (λ_=>True):=by
 unfold Qhc
 exact w_br (λ_=>w_cn (decide_eq_true (by rw[IntKind.wrap_u64];omega)) trivial) (λ_=>trivial)
theorem lines_w(m:Q00):(Qfg m).w (λ_=>True):=by
 unfold Qfg
 exact w_lv λ_ _=>Q0d (Z2h _ _) λ_ _=>w_lv λ_ _=>Q0d (Z2h _ _) λ_ _=>w_lv λ_ _=>Q0d (Z2h _ _) λ_ _=>w_lv λ_ _=>Q0d (Z2h _ _) λ_ _=>w_lv λ_ _=>Q0d (Z2h _ _) λ_ _=>trivial
theorem enabled_w(m:Q00):(Q8u m).w U:=by
 unfold Q8u
 exact Q0d (lines_w m) λ_ _=>Z4z _ _
theorem Qzb{m:Q00}(h:Q2f m.B1):(Q5a m).w Q2f:=by
 unfold Q5a
 refine Q0d (enabled_w m) λx0 hx=>w_br (λ_=>h) (λ_=>w_br (λ_=>h) (λhb=> ?_))
 have hb:x0≠0:=by simpa using hb
 have sh: ∀z:Int,0≤z→z≤31→ishr .u32 x0 (IntKind.wrap .u64 z)=x0/2^z.toNat:=λz h1 h2=>by
   unfold ishr
   have e:min (IntKind.wrap .u64 z).toNat IntKind.u32.bits=z.toNat:=by
     show min (IntKind.wrap .u64 z).toNat 32=z.toNat
     rw[IntKind.wrap_u64];omega
   rw[e,Int.fdiv_eq_ediv_of_nonneg _ (Int.le_of_lt (Int.pow_pos (by decide)))]
 refine w_lp (inv:=λz=>0≤z∧z≤31∧x0/2^z.toNat≠0) (μ:=Qae m) ⟨by omega,by omega,by simpa using hb⟩ (Nat.lt_succ_self _) (λz hz=> ?_)
 obtain⟨z1,z2,z3⟩:=hz
 refine w_cn (decide_eq_true (by rw[IntKind.wrap_u64];omega)) (w_br (λe=>w_nx ?_) (λ_=>w_lv λy hy=>hy▸Qs7 h _ U_0))
 have e:=eq_of_beq e
 have hq:=Qog hx (IntKind.wrap .u64 z)
 rw[and1 hq,sh z z1 z2]at e
 rw[sh z z1 z2]at hq
 have hlt:x0/2^z.toNat/2≠0:=by omega
 have z4:z≤30:=by
   rcases Int.lt_or_le z 31 with h|h
   · omega
   · have:z=31:=by omega
     subst this
     have:=hx.2
     have:=hx.1
     simp at z3 e hlt
     omega
 show(0≤IntKind.i64.wrap (z+1)∧IntKind.i64.wrap (z+1)≤31∧x0/2^(IntKind.i64.wrap (z+1)).toNat≠0)∧(32-IntKind.i64.wrap (z+1)).toNat<(32-z).toNat
 have ew:IntKind.i64.wrap (z+1)=z+1:=by rw[IntKind.wrap_i64];omega
 rw[ew]
 refine⟨⟨by omega,by omega,?_⟩,by omega⟩
 have et:(z+1).toNat=z.toNat+1:=by omega
 rw[et,Int.pow_succ,←Int.ediv_ediv_of_nonneg (Int.le_of_lt (Int.pow_pos (by decide)))]
 exact hlt
theorem Qej(l:List Int):(bytesOf l).length=l.length:=by simp [bytesOf]
theorem Qk2(l:List UInt8):(Q7h l).length=l.length:=by simp [Q7h]
theorem low_w(x:Int):(Qok x 4).w (λr=>r.length=4):=by
 unfold Qok
 refine w_lp (inv:=λz=>0≤z.1∧z.1≤4∧(z.2.length:Int)=z.1) (μ:=Qku x 4) ⟨by omega,by omega,rfl⟩ (Nat.lt_succ_self _) (λz hz=> ?_)
 obtain⟨z1,z2,z3⟩:=hz
 refine w_br (λh=>w_cn (decide_eq_true (by rw[IntKind.wrap_u64];omega)) (w_cn (decide_eq_true (by omega)) (w_nx ?_))) (λh=> ?_)
 · have h:=of_decide_eq_true h
   show(0≤IntKind.i64.wrap (z.1+1)∧IntKind.i64.wrap (z.1+1)≤4∧((z.2++[_]).length:Int)=IntKind.i64.wrap (z.1+1))∧(4-IntKind.i64.wrap (z.1+1)).toNat<(4-z.1).toNat
   have ew:IntKind.i64.wrap (z.1+1)=z.1+1:=by rw[IntKind.wrap_i64];omega
   rw[ew]
   refine⟨⟨by omega,by omega,by simp;omega⟩,by omega⟩
 · have h:=of_decide_eq_false h
   show(bytesOf z.2).length=4
   rw[Qej];omega
theorem page_w{P:Nat}{m:List Int}(hm:Q0q P m)(frame:Int):(Q91 m frame).w (λr=>0≤frame→frame<P→r.1.length=128):=by
 have hp:=Qbf hm
 have hl:=hm.len
 have h2:=hm.p2
 unfold Q91
 refine w_br (λh=>λh0 _=>by have:=of_decide_eq_true h;omega) (λh=>w_lv λx0 hx=>w_br (λh1=>λ_ h2=>by have:=of_decide_eq_true h1;rw[hx,hp]at this;omega) (λh1=> ?_))
 have h:=of_decide_eq_false h
 have h1:=of_decide_eq_false h1
 rw[hx,hp]at h1
 refine w_lp (inv:=λz=>0≤z.1∧z.1≤32∧(z.2.length:Int)=4*z.1) (μ:=Qe2 m frame) ⟨by omega,by omega,rfl⟩ (Nat.lt_succ_self _) (λz hz=> ?_)
 obtain⟨z1,z2,z3⟩:=hz
 refine w_br (λhb=> ?_) (λhb=> ?_)
 · have hb:=of_decide_eq_true hb
   have e:IntKind.wrap IntKind.i64 (IntKind.wrap IntKind.i64 (frame*32)+z.1)=frame*32+z.1:=by rw[IntKind.wrap_i64,IntKind.wrap_i64];omega
   refine w_cn (by rw[e];simp [Nat.blt];omega) (w_an (show(4:Int)≤1000000000000 by decide) (Z7g (low_w _) λx1 h4=>w_cn (decide_eq_true (by rw[Qk2,h4];omega)) (w_nx ?_)))
   show(0≤IntKind.i64.wrap (z.1+1)∧IntKind.i64.wrap (z.1+1)≤32∧((z.2++Q7h x1).length:Int)=4*IntKind.i64.wrap (z.1+1))∧(32-IntKind.i64.wrap (z.1+1)).toNat<(32-z.1).toNat
   have ew:IntKind.i64.wrap (z.1+1)=z.1+1:=by rw[IntKind.wrap_i64];omega
   rw[ew,List.length_append,Qk2,h4]
   exact⟨⟨by omega,by omega,by omega⟩,by omega⟩
 · have hb:=of_decide_eq_false hb
   intro _ _
   show(bytesOf z.2).length=128
   rw[Qej];omega
theorem diskOut_w{P:Nat}{m:List Int}(hm:Q0q P m){d:Q09}(hd:Q79 d)(port:Int){v:Int}(hv:U v)(at0:Int):(Q8r d m port v at0).w (λr=>Q79 r.1∧r.2.length≤1):=by
 have k: ∀st,Q79 {Blocks:=d.Blocks,B6:=d.B6,B0:=d.B0,B7:=st,D6:=d.D6,B2:=d.B2,A9:=d.A9,C0:=d.C0}:=λst=>⟨hd.block,hd.frame,hd.opBlock,hd.opFrame⟩
 have k2: ∀c o,Q79 {Blocks:=d.Blocks,B6:=d.B6,B0:=d.B0,B7:=1,D6:=c,B2:=d.B6,A9:=d.B0,C0:=o}:=λc o=>⟨hd.block,hd.frame,hd.block,hd.frame⟩
 have k3:Q79 {Blocks:=d.Blocks,B6:=v,B0:=d.B0,B7:=d.B7,D6:=d.D6,B2:=d.B2,A9:=d.A9,C0:=d.C0}:=⟨hv,hd.frame,hd.opBlock,hd.opFrame⟩
 have k4:Q79 {Blocks:=d.Blocks,B6:=d.B6,B0:=v,B7:=d.B7,D6:=d.D6,B2:=d.B2,A9:=d.A9,C0:=d.C0}:=⟨hd.block,hv,hd.opBlock,hd.opFrame⟩
 unfold Q8r
 repeat'(first
   |refine w_br (λ_=> ?_) (λ_=> ?_)
   |exact Q0d (page_w hm _) λ_ _=>w_lv λ_ _=>⟨k2 _ _,Nat.le_refl _⟩
   |refine w_lv (λ_ _=> ?_)
   |refine w_lf ?_)
 all_goals(first
   |exact⟨hd,Nat.zero_le _⟩
   |exact⟨k _,Nat.zero_le _⟩
   |exact⟨k2 _ _,Nat.le_refl _⟩
   |exact⟨k3,Nat.zero_le _⟩
   |exact⟨k4,Nat.zero_le _⟩)
theorem nicOut_w{P:Nat}{m:List Int}(hm:Q0q P m){n:Q0j}(hn:Qf2 n)(port:Int){v:Int}(hv:U v)(at0:Int):(Qa6 n m port v at0).w (λr=>Qf2 r.1∧r.2.length≤1):=by
 have k1:Qf2 {B0:=v,D9:=n.D9,C2:=n.C2,B8:=n.B8,B5:=n.B5,F0:=n.F0}:=⟨hv,hn.len,hn.buffer,hn.got⟩
 have k2:Qf2 {B0:=n.B0,D9:=v,C2:=n.C2,B8:=n.B8,B5:=n.B5,F0:=n.F0}:=⟨hn.frame,hv,hn.buffer,hn.got⟩
 have k3:Qf2 {B0:=n.B0,D9:=n.D9,C2:=n.C2,B8:=n.B8,B5:=false,F0:=0}:=⟨hn.frame,hn.len,hn.buffer,U_0⟩
 have k4: ∀p r,Qf2 {B0:=n.B0,D9:=n.D9,C2:=p,B8:=n.B0,B5:=r,F0:=n.F0}:=λp r=>⟨hn.frame,hn.len,hn.frame,hn.got⟩
 have send: ∀K:List UInt8×Bool→Tree (Q0j×List Q07),Q1s m n.B0=true→(∀x:List UInt8×Bool,x.1.length=128→(K x).w (λr=>Qf2 r.1∧r.2.length≤1))→(Tree.an (Qgw m (IntKind.wrap .i64 n.B0)) (.lv (Qgr m (IntKind.wrap .i64 n.B0)) K)).w (λr=>Qf2 r.1∧r.2.length≤1):=λK hp hK=>by
   rw[Qh4 hm hn.frame]at hp
   have hp:=of_decide_eq_true hp
   obtain⟨f1,f2⟩:=hn.frame
   have ew:IntKind.i64.wrap n.B0=n.B0:=by rw[IntKind.wrap_i64];omega
   exact Q0d (page_w hm _) λx hx=>hK x (hx (by rw[ew];exact f1) (by rw[ew];exact hp))
 unfold Qa6
 repeat'(first
   |refine w_br (λ_=> ?_) (λ_=> ?_)
   |refine send _ (by simp_all) (λx hx=>w_cn (by simp_all;exact hn.len.1) ?_)
   |refine w_lv (λ_ _=> ?_)
   |refine w_lf ?_)
 all_goals(first
   |exact⟨hn,Nat.zero_le _⟩
   |exact⟨hn,Nat.le_refl _⟩
   |exact⟨k1,Nat.zero_le _⟩
   |exact⟨k2,Nat.zero_le _⟩
   |exact⟨k3,Nat.zero_le _⟩
   |exact⟨k4 _ _,Nat.zero_le _⟩)
def okB(b:Q06):Prop:=U b.C4∧U b.B9
theorem give_w{P:Nat}{m:List Int}(hm:Q0q P m){b:Q06}(hb:okB b)(port:Int){v:Int}(hv:U v):(Q4p b m port v).w (λr=>okB r.1∧Q0q P r.2):=by
 have hv0:decide (0≤v)=true:=decide_eq_true hv.1
 have h2:=hm.p2
 have rest:(Tree.br (port==11) (.br (decide (v<32)) (.cn (decide (0≤v)) (.lf (({C4:=b.C4,B9:=Qdf .u32 b.B9 (ishl .u32 1 v)}:Q06),m))) (.lf (b,m))) (.lf (b,m))).w (λr=>okB r.1∧Q0q P r.2):=
   w_br (λ_=>w_br (λ_=>w_cn hv0 ⟨⟨hb.1,Q0g _⟩,hm⟩) (λ_=>⟨hb,hm⟩)) (λ_=>⟨hb,hm⟩)
 unfold Q4p
 refine w_br (λ_=>w_lv λx0 hx=>w_br (λhp=>w_cn hv0 (w_br (λ_=>w_cn hv0 ?_) (λ_=>rest))) (λ_=>rest)) (λ_=>rest)
 have hp:Q1s m v=true:=hx.symm.trans hp
 rw[Qh4 hm hv]at hp
 have hp:=of_decide_eq_true hp
 obtain⟨v1,v2⟩:=hv
 refine w_lp (inv:=λz=>0≤z.1∧z.1≤32∧Q0q P z.2) (μ:=Qdp b m port v) ⟨by omega,by omega,hm⟩ (Nat.lt_succ_self _) (λz hz=> ?_)
 obtain⟨z1,z2,z3⟩:=hz
 have hl:=z3.len
 refine w_br (λh=> ?_) (λ_=>⟨⟨hb.1,Q0g _⟩,z3⟩)
 have h:=of_decide_eq_true h
 have e:IntKind.wrap IntKind.i64 (IntKind.wrap IntKind.i64 (IntKind.wrap IntKind.i64 v*32)+z.1)=v*32+z.1:=by rw[IntKind.wrap_i64,IntKind.wrap_i64,IntKind.wrap_i64];omega
 refine w_cn (by rw[e];simp [Nat.blt];omega) (w_nx ?_)
 show(0≤IntKind.i64.wrap (z.1+1)∧IntKind.i64.wrap (z.1+1)≤32∧Q0q P (List.set _ _ _))∧(32-IntKind.i64.wrap (z.1+1)).toNat<(32-z.1).toNat
 have ew:IntKind.i64.wrap (z.1+1)=z.1+1:=by rw[IntKind.wrap_i64];omega
 rw[ew]
 exact⟨⟨by omega,by omega,⟨by simp [hl],z3.p1,z3.p2,Qvk z3.u U_0 _⟩⟩,by omega⟩
structure okM(P:Nat)(m:Q00):Prop where
 cpu:Q2f m.B1
 mem:Q0q P m.Mem
 disk:Q79 m.A7
 nic:Qf2 m.C3
 target:okB m.A0
 cnt:0≤m.A3
theorem Z5c(c:Q0a)(port:Int):U (Q6z c port).2:=by
 refine Tree.post (Q6l c port) (W:=λr=>U r.2) ?_
 have u1:U 4294967295:=⟨by omega,by omega⟩
 unfold Q6l
 refine w_br (λ_=>w_br (λ_=>u1) (λh=>w_br (λ_=>w_cn ?_ (w_cn ?_ (Q0g _))) (λ_=>w_br (λ_=>Q0g _) (λ_=>U_0)))) (λh1=>w_br (λh=>(by rw[h1]at h;cases h)) (λ_=>w_br (λ_=>Q0g _) (λ_=>U_0)))
 · have h: ¬(c.C9.length:Int)=0:=by simpa using h
   exact decide_eq_true ⟨by omega,by omega,by omega⟩
 · have h: ¬(c.C9.length:Int)=0:=by simpa using h
   simp [Nat.blt];omega
theorem nicIn_w{n:Q0j}(h:Qf2 n)(port:Int):U (Qjq n port):=by
 refine Tree.post (Qff n port) (W:=U) ?_
 have u1:U 1:=⟨by omega,by omega⟩
 unfold Qff
 exact w_br (λ_=>h.frame) (λ_=>w_br (λ_=>h.got) (λ_=>w_br (λ_=>w_br (λ_=>w_br (λ_=>Q0g _) (λ_=>u1)) (λ_=>w_br (λ_=>Q0g _) (λ_=>U_0))) (λ_=>U_0)))
theorem diskIn_w{d:Q09}(h:Q79 d)(port:Int):U (Ql7 d port):=by
 refine Tree.post (Qhs d port) (W:=U) ?_
 unfold Qhs
 exact w_br (λ_=>h.block) (λ_=>w_br (λ_=>h.frame) (λ_=>w_br (λ_=>Q0g _) (λ_=>U_0)))
theorem timerIn_w(t:Q0f):U (Qif t):=by
 refine Tree.post (Qg0 t) (W:=U) ?_
 unfold Qg0
 exact w_br (λ_=>⟨by omega,by omega⟩) (λ_=>U_0)
theorem Z52{b:Q06}(h:U b.C4)(port:Int):U (Q70 b port):=by
 refine Tree.post (Q6n b port) (W:=U) ?_
 unfold Q6n
 exact w_br (λ_=>h) (λ_=>w_br (λ_=>w_lv λ_ _=>Q0g _) (λ_=>U_0))
structure okR(P:Nat)(r:Q0v):Prop where
 m:okM P r.B4
 clock:U r.Clock
structure okL(P:Nat)(r x:Q0v):Prop where
 ok:okR P x
 log:x.Log=r.Log
 queue:x.Queue=r.Queue
theorem w0(x:Int):0≤IntKind.u64.wrap x:=by rw[IntKind.wrap_u64];omega
section
variable {P:Nat} {r:Q0v} (h:okR P r)
include h
end
theorem type_w(c:Q0a)(b:Int):(Qh1 c b).w (λ_=>True):=by
 unfold Qh1
 refine w_br (λ_=>trivial) (λh=>w_cn (decide_eq_true ?_) trivial)
 have h:=of_decide_eq_false h
 simp [maxLen];omega
theorem accept_w{P:Nat}{m:List Int}(hm:Q0q P m){n:Q0j}(hn:Qf2 n)(frame:List UInt8):(Q9j n m frame).w (λr=>Qf2 r.1∧Q0q P r.2.2):=by
 unfold Q9j
 refine w_br (λ_=>⟨hn,hm⟩) (λ_=>w_br (λ_=>⟨hn,hm⟩) (λ_=>w_br (λ_=>⟨hn,hm⟩) (λ_=>w_lv λx0 hx=>w_br (λ_=>⟨hn,hm⟩) (λhb=> ?_))))
 have hp:Q1s m n.B8=true:=hx.symm.trans (by simpa using hb)
 rw[Qh4 hm hn.buffer]at hp
 have hp:=of_decide_eq_true hp
 obtain⟨b1,b2⟩:=hn.buffer
 have ew:IntKind.i64.wrap n.B8=n.B8:=by rw[IntKind.wrap_i64];omega
 exact Q0d (fill_w hm (frame:=IntKind.i64.wrap n.B8) (by rw[ew];exact b1) (by rw[ew];exact hp) frame) λx hx=>⟨⟨hn.frame,hn.len,U_0,Q0g _⟩,hx⟩
section
variable {P:Nat} {r:Q0v} (h:okR P r)
include h
end
end Go.Proofs.YtjaifpiopmhmlaaGreat

/-
  A part of the proof.
-/
import Derived.Test.YtmalmklaonainaaGreatPrecopyCopiesYe
import Derived.Test.YtmalmklaonainaaGreatPrecopyCopiesZa
import Derived.Test.YtmalmklaonainaaGreatPrecopyCopiesZb
import Derived.Test.YtmalmklaonainaaGreatPrecopyCopiesZg
set_option maxRecDepth 100000
set_option linter.unusedVariables false
set_option linter.unusedSimpArgs false
namespace Go.Proofs.YtmalmklaonainaaGreat
open Go Go.GD
def U(x:Int):Prop:=0≤x∧x<4294967296
theorem Q0n(x:Int):U (IntKind.u32.wrap x):=by rw[IntKind.wrap_u32];unfold U;omega
theorem U_and(x y:Int):U (iand .u32 x y):=Q0n _
theorem U_or(x y:Int):U (ior .u32 x y):=Q0n _
theorem U_0:U 0:=⟨by omega,by omega⟩
theorem Z7e{m:List Int}(h: ∀w∈m,U w){v:Int}(hv:U v)(i:Nat): ∀w∈m.set i v,U w:=by
 intro w hw
 rcases List.mem_or_eq_of_mem_set hw with h1|h1
 · exact h w h1
 · rw[h1];exact hv
structure Q12(P:Nat)(m:List Int):Prop where
 len:m.length=32*P
 p1:0≤P
 p2:P≤32
 u: ∀w∈m,U w
structure Qi2(d:Q0b):Prop where
 block:U d.B6
 frame:U d.Frame
 opBlock:U d.B3
 opFrame:U d.B4
structure Qp1(n:Q0m):Prop where
 frame:U n.Frame
 len:U n.D9
 buffer:U n.B9
 got:U n.E0
theorem Qj4{l:List Int}(h: ∀w∈l,U w)(i:Nat):U (l.getD i 0):=by
 by_cases hi:i<l.length
 · have:l.getD i 0=l[i]:=by simp [List.getD,hi]
   rw[this];exact h _ (List.getElem_mem hi)
 · have:l.getD i 0=0:=by simp [List.getD,List.getElem?_eq_none (by omega:l.length≤i)]
   rw[this];exact U_0
structure Q1z(c:Q02):Prop where
 x: ∀w∈A16.l c.X,U w
 pc:U c.Pc
 csr: ∀w∈A8.l c.B5,U w
theorem Zbb{X:A16 Int}(h: ∀w∈A16.l X,U w){v:Int}(hv:U v)(i:Nat): ∀w∈A16.l (A16.of 0 (List.set (A16.l X) i v)),U w:=by
 have hs:=Z7e h hv i
 intro w hw
 simp only[A16.l,A16.of,List.mem_cons,List.not_mem_nil,or_false]at hw
 repeat(first|(rcases hw with rfl|hw; · exact Qj4 hs _)|(subst hw;exact Qj4 hs _))
theorem Z6h{X:A8 Int}(h: ∀w∈A8.l X,U w){v:Int}(hv:U v)(i:Nat): ∀w∈A8.l (A8.of 0 (List.set (A8.l X) i v)),U w:=by
 have hs:=Z7e h hv i
 intro w hw
 simp only[A8.l,A8.of,List.mem_cons,List.not_mem_nil,or_false]at hw
 repeat(first|(rcases hw with rfl|hw; · exact Qj4 hs _)|(subst hw;exact Qj4 hs _))
section
variable {c:Q02} (h:Q1z c)
include h
theorem Q1z.a(i:Nat):U ((A8.l c.B5).getD i 0):=Qj4 h.csr i
theorem Q1z.r(i:Nat):U ((A16.l c.X).getD i 0):=Qj4 h.x i
theorem Q1z.a0:U c.B5.a0:=h.a 0
theorem Q1z.a1:U c.B5.a1:=h.a 1
theorem Q1z.a2:U c.B5.a2:=h.a 2
theorem Q1z.a3:U c.B5.a3:=h.a 3
theorem Q1z.a4:U c.B5.a4:=h.a 4
theorem Q1z.a5:U c.B5.a5:=h.a 5
theorem Q1z.a6:U c.B5.a6:=h.a 6
theorem Q1z.a7:U c.B5.a7:=h.a 7
theorem Q1z.pcs{p:Int}(hp:U p):Q1z {X:=c.X,Pc:=p,B5:=c.B5}:=⟨h.x,hp,h.csr⟩
end
section
variable {α β:Type} {W:β→Prop} {t:Tree α} {Q:α→Prop} {k:α→Tree β}
theorem Q0d(hq:t.w Q)(g: ∀x,Q x→(k x).w W):(Tree.an t.p (Tree.lv t.m k)).w W:=⟨(Tree.pp hq).1,λy hy=>g y (by rw[hy];exact(Tree.pp hq).2)⟩
theorem Zdw(hq:t.w Q)(g: ∀x,Q x→(k x).w W):(Tree.lv t.m k).w W:=λy hy=>g y (by rw[hy];exact t.post hq)
end
theorem rc{r:Int}(h:0≤r∧r<16):(Nat.blt 0 1&&decide (0≤r∧r<((16:Nat):Int)))=true:=by simp [Nat.blt];omega
theorem U_shr{a:Int}(h:U a)(b:Int):U (ishr .u32 a b):=by
 unfold ishr U
 obtain⟨h1,h2⟩:=h
 have hp:(0:Int)<2^(min b.toNat IntKind.u32.bits):=Int.pow_pos (by decide)
 have:=Int.fdiv_nonneg h1 (Int.le_of_lt hp)
 refine⟨this,?_⟩
 rw[Int.fdiv_eq_ediv_of_nonneg _ (Int.le_of_lt hp)]
 have h3:=Int.ediv_le_self (2^(min b.toNat IntKind.u32.bits)) h1
 omega
structure Qbt(i:Q0h):Prop where
 a:0≤i.A∧i.A<16
 b:0≤i.B∧i.B<16
 c:0≤i.C∧i.C<16
 csr:i.Op=58→0≤i.D3∧i.D3<8
theorem pagesP_eq{P:Nat}{m:List Int}(h:Q12 P m):Q0f m=P:=by
 obtain⟨h1,h2,h3,_⟩:=h
 simp only[Q0f,Q3v,Tree.m]
 have e:(m.length:Int)=32*P:=by omega
 rw[e]
 have e1:(Int.tmod (32*(P:Int)) 32 !=0)=false:=by simp [Int.mul_tmod_right]
 have e2:decide ((32*(P:Int))>1024)=false:=decide_eq_false (by omega)
 rw[e1,e2]
 simp only[cond_false]
 rw[Int.mul_tdiv_cancel_left _ (by decide),IntKind.wrap_i64];omega
theorem mask_w(n:Int):(Qe0 n).w (λ_=>True):=by
 unfold Qe0
 exact w_br (λ_=>trivial) (λ_=>w_cn (decide_eq_true (by rw[IntKind.wrap_u64];omega)) trivial)
theorem Qrn(w low n:Int):(Qb7 w low n).w U:=by
 unfold Qb7
 exact w_br (λ_=>U_0) (λ_=>w_br (λ_=>U_0) (λ_=>w_br (λ_=>U_0) (λ_=>w_cn (decide_eq_true (by rw[IntKind.wrap_u64];omega)) (Q0d (mask_w n) λ_ _=>U_and _ _))))
theorem Zfm{w:Int}(hw:U w)(low n v:Int):(Q5g w low n v).w U:=by
 have h0:decide (0≤IntKind.wrap IntKind.u64 low)=true:=decide_eq_true (by rw[IntKind.wrap_u64];omega)
 unfold Q5g
 exact w_br (λ_=>hw) (λ_=>w_br (λ_=>hw) (λ_=>w_br (λ_=>hw) (λ_=>Q0d (mask_w n) λ_ _=>w_cn h0 (w_cn h0 (U_or _ _)))))
theorem Qrg{x:Int}(hx:U x)(n:Int):(Q46 x n).w U:=by
 have h0: ∀y,decide (0≤IntKind.wrap IntKind.u64 y)=true:=λy=>decide_eq_true (by rw[IntKind.wrap_u64];omega)
 unfold Q46
 exact w_br (λ_=>U_0) (λ_=>w_br (λ_=>hx) (λ_=>w_cn (h0 _) (w_cn (h0 _) (Q0n _))))
section
variable {P:Nat} {m:List Int} (h:Q12 P m)
include h
theorem Qk4:Q08 m:=by
 have:=h.len
 have:=h.p2
 show m.length≤35184372088832
 omega
theorem Z9r{a:Int}(ha:U a){size:Int}(hs:size=1∨size=4):(Q5n m a size).w (λb=>b=true→a+size≤128*P):=by
 have hp:=pagesP_eq h
 have h2:=h.p2
 obtain⟨a1,a2⟩:=ha
 have e:decide (IntKind.wrap IntKind.u32 size≠0)=true:=by rcases hs with rfl|rfl<;>decide
 have l: ∀x,x=Q0f m→decide (IntKind.wrap IntKind.u64 (IntKind.wrap IntKind.u64 a+IntKind.wrap IntKind.u64 size)≤IntKind.wrap IntKind.u64 (IntKind.wrap IntKind.u64 x*128))=true→a+size≤128*P:=λx hx hd=>by
   rw[hx,hp]at hd
   have:=of_decide_eq_true hd
   simp only[IntKind.wrap_u64]at this
   omega
 unfold Q5n
 refine w_br (λ_=>w_br (λ_=>λh=>by cases h) (λ_=> ?_)) (λ_=> ?_)<;>
 exact w_cn e (w_br (λ_=>λh=>by cases h) (λ_=>w_lv λx hx=>l x hx))
theorem idxP{a:Int}(ha:U a)(hl:a<128*P):(Nat.beq 1 1&&Nat.blt 0 1&&decide (0≤IntKind.wrap IntKind.u32 (Int.tdiv a 4)∧IntKind.wrap IntKind.u32 (Int.tdiv a 4)<(m.length:Int)))=true:=by
 obtain⟨a1,a2⟩:=ha
 have e:IntKind.wrap IntKind.u32 (Int.tdiv a 4)=a/4:=by rw[IntKind.wrap_u32,Int.tdiv_eq_ediv_of_nonneg a1];omega
 have:=h.len
 rw[e];simp [Nat.blt];omega
theorem Qmj{a:Int}(ha:U a){size:Int}(hs:size=1∨size=4):(Q8e m a size).w (λr=>U r.1∧(r.2=true→a<128*P)):=by
 unfold Q8e
 refine Q0d (Z9r h ha hs) λx hx=>w_br (λ_=>⟨U_0,λh=>by cases h⟩) (λhb=> ?_)
 have hl:=hx (by simpa using hb)
 have hl:a<128*P:=by omega
 exact w_cn (idxP h ha hl) (w_br (λ_=>Q0d (Qrn _ _ _) λy hy=>⟨hy,λ_=>hl⟩) (λ_=>⟨Qj4 h.u _,λ_=>hl⟩))
theorem Quj{a:Int}(ha:U a){size:Int}(hs:size=1∨size=4){v:Int}(hv:U v):(Q71 m a size v).w (λr=>Q12 P r.1):=by
 have st: ∀i v,U v→Q12 P (m.set i v):=λi v hv=>⟨by simp [h.len],h.p1,h.p2,Z7e h.u hv i⟩
 have hcl:Q05 m=m:=rfl
 unfold Q71
 refine w_an (Qk4 h) (w_lv λx0 hx0=> ?_)
 rw[hcl]at hx0;subst hx0
 refine Q0d (Z9r h ha hs) λx hx=>w_br (λ_=>h) (λhb=> ?_)
 have hl:=hx (by simpa using hb)
 have hl:a<128*P:=by omega
 exact w_br (λ_=>w_cn (idxP h ha hl) (Q0d (Zfm (Qj4 h.u _) _ _ _) λy hy=>w_cn (idxP h ha hl) (st _ _ hy))) (λ_=>w_cn (idxP h ha hl) (st _ _ hv))
end
theorem Zab{r:Int}{used:Bool}(h:Q7r r used=true):0≤r∧r<16:=by
 simp only[Q7r,Qez,Tree.m]at h
 cases used
 · have h:(r==0)=true:=h
   have:=eq_of_beq h;omega
 · cases h1:decide (r≥0)<;>rw[h1]at h
   · cases h
   · have h1:=of_decide_eq_true h1
     have h:=of_decide_eq_true h
     omega
theorem validP_ok{i:Q0h}(h:Qg8 i=true):Qbt i:=by
 have no:false=true→Qbt i:=λh=>by cases h
 refine(Tree.post (Qgs i) (W:=λb=>b=true→Qbt i) ?_) h
 unfold Qgs
 refine w_lv λx0 h0=>w_br (λ_=>w_lv λx1 h1=>w_br (λb1=>w_lv λx2 h2=>w_br (λb2=>w_lv λx3 h3=>w_br (λb3=>w_br (λb4=>λb5=> ?_) (λ_=>no)) (λ_=>no)) (λ_=>no)) (λ_=>no)) (λ_=>no)
 have b4:=of_decide_eq_true b4
 have b5:=of_decide_eq_true b5
 refine⟨Zab (h1.symm.trans b1),Zab (h2.symm.trans b2),Zab (h3.symm.trans b3),λe=> ?_⟩
 rw[e]at h0
 have h0:x0=({a:=true,b:=false,c:=false,low:=0,C9:=7},true):=h0
 subst h0
 simp at b4 b5;omega
theorem Qy(w:Int):(Qb1 w).w (λr=>r.2=true→Qbt r.1):=by
 have no: ∀{p:Prop},false=true→p:=λh=>by cases h
 have l: ∀i,(Tree.lv (Qg8 i) λx=> .br (!x) (.lf ((⟨0,0,0,0,0⟩:Q0h),false)) (.lf (i,true))).w (λr=>r.2=true→Qbt r.1):=λi=>w_lv λx hx=>w_br (λ_=>no) (λhb=>λ_=>validP_ok (hx.symm.trans (by simpa using hb)))
 unfold Qb1
 exact Q0d (Qrn _ _ _) λx0 _=>Q0d (Qrn _ _ _) λx1 _=>Q0d (Qrn _ _ _) λx2 _=>w_lv λx3 _=>w_br (λ_=>no) (λ_=>Q0d (Qrn _ _ _) λx4 h4=>w_br (λ_=>l _) (λ_=>w_br (λ_=>Q0d (Qrg h4 _) λx6 _=>l _) (λ_=>l _)))
section
variable {P:Nat} {m:List Int} (h:Q12 P m)
include h
theorem walkP_w{root va:Int}(hv:U va)(access:Int):(Q8x m root va access).w (λt=>U t.Addr∧U t.F0):=by
 have bad:U (0:Int)∧U (0:Int):=⟨U_0,U_0⟩
 have fr: ∀x,(Q4q x).w U:=λx=>by
   unfold Q4q
   exact Q0d (Qrn _ _ _) λy hy=>hy
 unfold Q8x
 exact w_lv λx0 _=>w_br (λ_=>bad) (λ_=>w_br (λ_=>bad) (λ_=>w_lv λx1 _=>w_br (λ_=>bad) (λ_=>Q0d (Qmj h (Q0n _) (.inr rfl)) λx2 _=>w_br (λ_=>bad) (λ_=>w_lv λx3 _=>w_br (λ_=>bad) (λ_=>Q0d (fr _) λx4 _=>w_lv λx5 _=>w_br (λ_=>bad) (λ_=>Q0d (fr _) λx6 _=>⟨Q0n _,Q0n _⟩))))))
theorem touchP_w{a:Int}(ha:U a)(access:Int):(Q6w m a access).w (Q12 P):=by
 have hcl:Q05 m=m:=rfl
 unfold Q6w
 exact Q0d (Qmj h ha (.inr rfl)) λx0 _=>w_br (λ_=>w_an (Qk4 h) (w_lv λx1 h1=>by rw[h1,hcl];exact h)) (λ_=>w_br (λ_=>Q0d (Quj h ha (.inr rfl) (U_or _ _)) λx hx=>hx) (λ_=>Q0d (Quj h ha (.inr rfl) (U_or _ _)) λx hx=>hx))
theorem Qfl{c:Q02}{va:Int}(hv:U va){size:Int}(hs:size=1∨size=4)(access:Int):(Q92 c m va size access).w (λr=>U r.1∧Q12 P r.2.1):=by
 have hcl:Q05 m=m:=rfl
 have e:decide (IntKind.wrap IntKind.u32 size≠0)=true:=by rcases hs with rfl|rfl<;>decide
 have cl: ∀(K:List Int→Int×List Int×Int),(∀x,x=m→U (K x).1∧Q12 P (K x).2.1)→(Tree.an (Q08 m) (.lv (Q05 m) λx=> .lf (K x))).w (λr=>U r.1∧Q12 P r.2.1):=λK hK=>w_an (Qk4 h) (w_lv λx hx=>hK x (hx.trans hcl))
 have z: ∀(k:Nat) (x:List Int),x=m→U (0:Int)∧Q12 P x:=λ_ x hx=>⟨U_0,hx▸h⟩
 have v: ∀x,x=m→U va∧Q12 P x:=λx hx=>⟨hv,hx▸h⟩
 have main: ∀(x0:Int×Bool),(Tree.cn (decide (IntKind.wrap IntKind.u32 size≠0)) (.br (Int.tmod va (IntKind.wrap IntKind.u32 size) !=0) (.an (Q08 m) (.lv (Q05 m) λx3=> .lf ((0:Int),x3,(3:Int)))) (.lv (Qk6 c) λx4=> .br (!x4) (.br (iand IntKind.u32 c.B5.a0 4 !=0) (.an (Qch m c.B5.a6 va access) (.lv (Qn m c.B5.a6 va access) λx5=> .br (x5.Cause !=0) (.an (Q08 m) (.lv (Q05 m) λx6=> .lf (0,x6,x5.Cause))) (.an (Qbl m x5.F0 access) (.lv (Qj0 m x5.F0 access) λx7=> .lf (x5.Addr,x7,0))))) (.an (Q2a m va size) (.lv (Q5o m va size) λx8=> .br (!x8.2) (.an (Q08 m) (.lv (Q05 m) λx9=> .lf (0,x9,x0.1))) (.an (Q08 m) (.lv (Q05 m) λx10=> .lf (va,x10,0)))))) (.an (Q2a m va size) (.lv (Q5o m va size) λx11=> .br (!x11.2) (.an (Q08 m) (.lv (Q05 m) λx12=> .lf (0,x12,x0.1))) (.an (Q08 m) (.lv (Q05 m) λx13=> .lf (va,x13,0)))))))).w (λr=>U r.1∧Q12 P r.2.1):=λx0=>
   w_cn e (w_br (λ_=>cl _ (z 0)) (λ_=>w_lv λx4 _=>w_br (λ_=>w_br (λ_=>Q0d (walkP_w h hv access) λx5 hx=>w_br (λ_=>cl _ (z 0)) (λ_=>Q0d (touchP_w h hx.2 access) λx7 h7=>⟨hx.1,h7⟩)) (λ_=>Q0d (Qmj h hv hs) λx8 _=>w_br (λ_=>cl _ (z 0)) (λ_=>cl _ v))) (λ_=>Q0d (Qmj h hv hs) λx8 _=>w_br (λ_=>cl _ (z 0)) (λ_=>cl _ v))))
 unfold Q92
 exact w_lv λx0 _=>w_br (λ_=>cl _ (z 0)) (λ_=>w_br (λ_=>w_br (λ_=>cl _ (z 0)) (λ_=>main x0)) (λ_=>main x0))
theorem Z3a{c:Q02}(hc:Q1z c):(Qdt c m).w (λr=>U r.1∧Q12 P r.2.1):=by
 unfold Qdt
 exact Q0d (Qfl h hc.pc (.inr rfl) 1) λx0 h0=>w_br (λ_=>⟨U_0,h0.2⟩) (λ_=>Q0d (Qmj h0.2 h0.1 (.inr rfl)) λx1 h1=>⟨h1.1,h0.2⟩)
end
theorem moveP_w{s a b:Int}:U (Qa3 s a b):=by
 refine Tree.post (Qkk s a b) (W:=U) ?_
 unfold Qkk
 exact w_br (λ_=>Q0n _) (λ_=>Q0n _)
section
variable {c:Q02} (h:Q1z c)
include h
theorem Qm5(k:Int){b:Int}(hb:U b):Q1z (Qa2 c k b):=by
 refine(Tree.post (Qkn c k b) (W:=Q1z) ?_)
 unfold Qkn
 refine w_lv λ_ _=>w_lv λ_ _=>⟨h.x,h.a1,?_⟩
 intro w hw
 simp only[A8.l,List.mem_cons,List.not_mem_nil,or_false]at hw
 rcases hw with rfl|rfl|rfl|rfl|rfl|rfl|rfl|rfl
 · exact Q0n _
 · exact h.a1
 · exact h.pc
 · exact Q0n _
 · exact hb
 · exact h.a5
 · exact h.a6
 · exact h.a7
theorem returnP_w:Q1z (Qk8 c):=by
 refine(Tree.post (Qeq c) (W:=Q1z) ?_)
 unfold Qeq
 refine w_lv λx0 _=>w_lv λx1 h1=>⟨h.x,h.a2,?_⟩
 intro w hw
 simp only[A8.l,List.mem_cons,List.not_mem_nil,or_false]at hw
 rcases hw with rfl|rfl|rfl|rfl|rfl|rfl|rfl|rfl
 · rw[h1];exact moveP_w
 · exact h.a1
 · exact h.a2
 · exact h.a3
 · exact h.a4
 · exact h.a5
 · exact h.a6
 · exact h.a7
theorem Qla{r:Int}(hr:0≤r∧r<16){v:Int}(hv:U v):(Qd6 c r v).w Q1z:=by
 unfold Qd6
 exact w_br (λ_=>w_cn (rc hr) ⟨Zbb h.x hv _,h.pc,h.csr⟩) (λ_=>h)
theorem Zdy(k:Int){v:Int}(hv:U v):(Q7c c k v).w Q1z:=by
 have ok: ∀i v,U v→Q1z {X:=c.X,Pc:=c.Pc,B5:=A8.of 0 (List.set (A8.l c.B5) i v)}:=λi v hv=>⟨h.x,h.pc,Z6h h.csr hv i⟩
 unfold Q7c
 repeat'(first
   |exact h
   |exact ok _ _ (Q0n _)
   |exact ok _ _ hv
   |refine w_br (λhk=> ?_) (λ_=> ?_)
   |refine w_cn (by rw[eq_of_beq (by assumption:(k==_)=true)];decide) ?_)
end
theorem Z6e{a b:Int}(ha:U a)(hb:U b):(Q8k a b).w (λr=>U r.1∧U r.2):=by
 have u1:U 4294967295:=⟨by omega,by omega⟩
 unfold Q8k
 refine w_br (λ_=>⟨u1,ha⟩) (λh=> ?_)
 have h: ¬b=0:=by simpa using h
 obtain⟨b1,b2⟩:=hb
 have hc:decide (IntKind.wrap IntKind.i32 b≠0)=true:=decide_eq_true (by rw[IntKind.wrap_i32];omega)
 exact w_br (λ_=>w_br (λ_=>⟨ha,U_0⟩) (λ_=>w_cn hc (w_cn hc ⟨Q0n _,Q0n _⟩))) (λ_=>w_cn hc (w_cn hc ⟨Q0n _,Q0n _⟩))
theorem truth_w(b:Bool):U (Qjn b):=by cases b<;>exact⟨by decide,by decide⟩
theorem Z0m(op:Int){a b:Int}(ha:U a)(hb:U b):(Qj3 op a b).w (λr=>U r.1):=by
 unfold Qj3
 repeat'(first
   |refine w_br (λ_=> ?_) (λ_=> ?_)
   |exact Q0d (Z6e ha hb) λx hx=>hx.1
   |exact Q0d (Z6e ha hb) λx hx=>hx.2
   |exact w_lv λx hx=>(by rw[hx];exact truth_w _)
   |refine w_lf ?_)
 all_goals(first
   |exact Q0n _
   |exact U_shr ha _
   |exact U_0)
theorem Z59(op:Int):Qb4 op=1∨Qb4 op=4:=by
 simp only[Qb4,Qmf,Tree.m]
 cases op==32<;>cases op==35<;>simp
section
variable {c:Q02} (h:Q1z c) {i:Q0h} (hi:Qbt i)
include h hi
theorem Zga:(Q2s c i).w (λr=>Q1z r.1∧U r.2.Value):=by
 have k: ∀{x:Q02} {p:Int},Q1z x→U p→Q1z {X:=x.X,Pc:=p,B5:=x.B5}:=λhx hp=>⟨hx.x,hp,hx.csr⟩
 unfold Q2s
 refine w_cn (rc hi.a) (w_cn (rc hi.b) ?_)
 repeat'(first
   |refine w_br (λ_=> ?_) (λ_=> ?_)
   |exact Q0d (Qla h hi.a (Q0n _)) λx hx=>⟨k hx (Q0n _),U_0⟩
   |exact w_lv λx _=>w_br (λ_=>⟨k h (Q0n _),U_0⟩) (λ_=>⟨k h (Q0n _),U_0⟩)
   |exact w_lv λx hx=>⟨by rw[hx];exact Qm5 h _ U_0,U_0⟩
   |exact w_lv λx hx=>⟨by rw[hx];exact returnP_w h,U_0⟩
   |exact w_cn (by have:=hi.csr (by simp_all);simp [Nat.blt];omega) (Q0d (Qla h hi.a (h.a _)) λx hx=>⟨k hx (Q0n _),U_0⟩)
   |exact Q0d (Zdy h _ (h.r _)) λx hx=>⟨k hx (Q0n _),U_0⟩
   |refine w_cn (rc hi.c) ?_
   |exact Q0d (Z0m _ (h.r _) (Q0n _)) λy hy=>Q0d (Qla h hi.a hy) λx hx=>⟨k hx (Q0n _),U_0⟩
   |exact Q0d (Z0m _ (h.r _) (h.r _)) λy hy=>Q0d (Qla h hi.a hy) λx hx=>⟨k hx (Q0n _),U_0⟩
   |refine w_lf ?_)
 all_goals(first
   |exact⟨k h (Q0n _),U_0⟩
   |exact⟨k h (Q0n _),h.r _⟩)
theorem Quq{P:Nat}{m:List Int}(hm:Q12 P m):(Q9l c m i).w (λr=>Q1z r.1∧Q12 P r.2):=by
 have w:=Z59 i.Op
 unfold Q9l
 refine w_cn (rc hi.b) (w_lv λx0 h0=> ?_)
 rw[←h0]at w
 refine Q0d (Qfl hm (Q0n _) w 2) λx1 h1=>w_br (λ_=>w_lv λy hy=>⟨by rw[hy];exact Qm5 h _ (Q0n _),h1.2⟩) (λ_=>w_lv λx3 h3=> ?_)
 rw[h0,←h3]at w
 exact Q0d (Qmj h1.2 h1.1 w) λx4 h4=>w_br (λ_=>Q0d (Qrg h4.1 8) λy hy=>Q0d (Qla h hi.a hy) λx hx=>⟨⟨hx.x,Q0n _,hx.csr⟩,h1.2⟩) (λ_=>Q0d (Qla h hi.a h4.1) λx hx=>⟨⟨hx.x,Q0n _,hx.csr⟩,h1.2⟩)
theorem Qsy{P:Nat}{m:List Int}(hm:Q12 P m):(Q7g c m i).w (λr=>Q1z r.1∧Q12 P r.2):=by
 have w:=Z59 i.Op
 unfold Q7g
 refine w_cn (rc hi.b) (w_lv λx0 h0=> ?_)
 rw[←h0]at w
 refine Q0d (Qfl hm (Q0n _) w 3) λx1 h1=>w_br (λ_=>w_lv λy hy=>⟨by rw[hy];exact Qm5 h _ (Q0n _),h1.2⟩) (λ_=>w_lv λx3 h3=>w_cn (rc hi.a) ?_)
 rw[h0,←h3]at w
 exact Q0d (Quj h1.2 h1.1 w (h.r _)) λx hx=>⟨⟨h.x,Q0n _,h.csr⟩,hx⟩
end
theorem execP_w{c:Q02}(h:Q1z c){P:Nat}{m:List Int}(hm:Q12 P m):(Q65 c m).w (λr=>Q1z r.1∧Q12 P r.2.1∧U r.2.2.Value):=by
 unfold Q65
 refine Q0d (Z3a hm h) λx0 h0=>w_br (λ_=>w_lv λy hy=>⟨by rw[hy];exact Qm5 h _ h.pc,h0.2,U_0⟩) (λ_=>Q0d (Qy _) λx2 h2=>w_br (λ_=>w_lv λy hy=>⟨by rw[hy];exact Qm5 h _ h0.1,h0.2,U_0⟩) (λhb=> ?_))
 have hi:=h2 (by simpa using hb)
 refine w_lv λx4 _=> ?_
 repeat'(first
   |refine w_br (λ_=> ?_) (λ_=> ?_)
   |exact Q0d (Quq h hi h0.2) λx hx=>⟨hx.1,hx.2,U_0⟩
   |exact Q0d (Qsy h hi h0.2) λx hx=>⟨hx.1,hx.2,U_0⟩
   |exact Q0d (Zga h hi) λx hx=>⟨hx.1,h0.2,hx.2⟩
   |exact w_lv λy hy=>⟨by rw[hy];exact Qm5 h _ h0.1,h0.2,U_0⟩
   |refine w_lv λ_ _=> ?_)
theorem Zdp{a:Int}(h:U a)(k:Nat)(hk:k≤32):0≤ishr .u32 a k∧ishr .u32 a k*2^k≤a:=by
 obtain⟨h1,h2⟩:=h
 unfold ishr
 have e:min (k:Int).toNat IntKind.u32.bits=k:=by show min (k:Int).toNat 32=k;omega
 have hp:(0:Int)<2^k:=Int.pow_pos (by decide)
 rw[e,Int.fdiv_eq_ediv_of_nonneg _ (Int.le_of_lt hp)]
 exact⟨Int.ediv_nonneg h1 (Int.le_of_lt hp),Int.ediv_mul_le a (Int.ne_of_gt hp)⟩
theorem Ze5(x:Int):0≤IntKind.u8.wrap x∧IntKind.u8.wrap x<256:=by rw[IntKind.wrap_u8];omega
theorem len32_w{x:Int}(h:U x):(Q1p x).w (λ_=>True):=by
 have s16:=Zdp h 16 (by omega)
 have s8:=Zdp h 8 (by omega)
 have s24:=Zdp (U_shr h 16) 8 (by omega)
 obtain⟨h1,h2⟩:=h
 unfold Q1p
 repeat'(first
   |refine w_br (λ_=> ?_) (λ_=> ?_)
   |refine w_cn (decide_eq_true ⟨?_,Int.lt_of_lt_of_le (b:=256) ?_ (Int.le_of_eq (by kernel_rfl))⟩) ?_
   |exact trivial
   |refine w_lf ?_)
 all_goals(first
   |trivial
   |exact(Ze5 _).1
   |exact(Ze5 _).2
   |(simp only[decide_eq_true_eq,decide_eq_false_iff_not]at*;simp at s16 s8 s24;omega))
theorem and255(a:Int):iand .u32 a 255<256:=by
 unfold iand
 rw[IntKind.wrap_u32]
 have:(BitVec.ofInt IntKind.u32.bits a&&&BitVec.ofInt IntKind.u32.bits 255).toNat≤255:=by
   show(BitVec.ofInt 32 a&&&BitVec.ofInt 32 255).toNat≤255
   rw[BitVec.toNat_and]
   exact Nat.le_trans Nat.and_le_right (by decide)
 omega
theorem ones_w{x:Int}(h:U x):(Q1w x).w (λ_=>True):=by
 have s24:=Zdp h 24 (by omega)
 obtain⟨h1,h2⟩:=h
 have i24:ishr .u32 x 24<256:=by simp at s24;omega
 unfold Q1w
 repeat'(first
   |refine w_cn (decide_eq_true ⟨?_,Int.lt_of_lt_of_le (b:=256) ?_ (Int.le_of_eq (by kernel_rfl))⟩) ?_
   |exact trivial
   |refine w_lf ?_)
 all_goals(first
   |trivial
   |exact(Q0n _).1
   |exact s24.1
   |exact i24
   |exact and255 _)
structure okS(P:Nat)(m:Q00):Prop where
 cpu:Q1z m.B1
 mem:Q12 P m.Mem
 disk:Qi2 m.B0
 nic:Qp1 m.C2
 target:U m.A0.C3
 given:U m.A0.C5
theorem Ze4{b:Q07}(h:U b.C5):(Q5r b).w (λ_=>True):=by
 unfold Q5r
 exact Q0d (ones_w h) λ_ _=>trivial
theorem mayP_w{m:Q00}(h:U m.A0.C5):(Q95 m).w (λ_=>True):=by
 have b: ∀x,(Q69 m.A0 x).w (λ_=>True):=λx=>by
   unfold Q69
   exact Q0d (len32_w h) λ_ _=>trivial
 have d:(Q1y m).w (λ_=>True):=by
   unfold Q1y
   exact w_lv λ_ _=>w_lv λ_ _=>w_br (λ_=>w_lv λ_ _=>w_br (λ_=>w_lv λ_ _=>w_br (λ_=>w_lv λ_ _=>w_br (λ_=>Q0d (b _) λ_ _=>trivial) (λ_=>trivial)) (λ_=>trivial)) (λ_=>trivial)) (λ_=>trivial)
 unfold Q95
 repeat'(first
   |refine w_br (λ_=> ?_) (λ_=> ?_)
   |exact Q0d d λ_ _=>trivial
   |refine w_lv λ_ _=> ?_
   |exact trivial)
theorem linesP_w{m:Q00}(h:U m.A0.C5):(Q59 m).w (λ_=>True):=by
 have p:(Q4e m.A0).w (λ_=>True):=by
   unfold Q4e
   exact Q0d (Ze4 h) λ_ _=>trivial
 unfold Q59
 refine w_lv λx0 _=>w_lv λx1 _=>w_lv λx2 _=>w_lv λx3 _=>Q0d p λx4 _=>w_lp (inv:=λz=>0≤z.2∧z.2≤5) (μ:=Qd0 m) ⟨by omega,by omega⟩ (Nat.lt_succ_self _) (λz hz=> ?_)
 obtain⟨z1,z2⟩:=hz
 have ew:z.2<5→IntKind.i64.wrap (z.2+1)=z.2+1:=λ_=>by rw[IntKind.wrap_i64];omega
 refine w_br (λhb=> ?_) (λ_=>trivial)
 have hb:=of_decide_eq_true hb
 have nx:(0≤IntKind.i64.wrap (z.2+1)∧IntKind.i64.wrap (z.2+1)≤5)∧(5-IntKind.i64.wrap (z.2+1)).toNat<(5-z.2).toNat:=by rw[ew hb];omega
 refine w_cn (by simp;omega) (w_br (λ_=>w_cn (decide_eq_true z1) (w_nx nx)) (λ_=>w_nx nx))
theorem Z28{m:Q00}(h:U m.A0.C5):(Q4b m).w U:=by
 unfold Q4b
 exact Q0d (linesP_w h) λ_ _=>U_and _ _
theorem runsP_w{m:Q00}(h:U m.A0.C5):(Q4y m).w (λ_=>True):=by
 have i:(Q6q m).w (λ_=>True):=by
   unfold Q6q
   exact w_br (λ_=>Q0d (Z28 h) λ_ _=>trivial) (λ_=>trivial)
 unfold Q4y
 exact Q0d (mayP_w h) λ_ _=>w_br (λ_=>w_br (λ_=>Q0d i λ_ _=>w_br (λ_=>trivial) (λ_=>trivial)) (λ_=>trivial)) (λ_=>trivial)
theorem Qup{P:Nat}{m:List Int}(h:Q12 P m):Q6a m=P:=by
 obtain⟨h1,h2,h3,_⟩:=h
 simp only[Q6a,Qij,Tree.m]
 have e:(m.length:Int)=32*P:=by omega
 rw[e]
 have e1:(Int.tmod (32*(P:Int)) 32 !=0)=false:=by simp [Int.mul_tmod_right]
 have e2:decide ((32*(P:Int))>1024)=false:=decide_eq_false (by omega)
 rw[e1,e2]
 simp only[cond_false]
 rw[Int.mul_tdiv_cancel_left _ (by decide),IntKind.wrap_i64];omega
theorem page_eq{P:Nat}{m:List Int}(h:Q12 P m){f:Int}(hf:U f):Q5b m f=decide (f<P):=by
 have:=Qup h
 obtain⟨h1,h2⟩:=hf
 have h3:=h.p2
 simp only[Q5b,Qmw,Tree.m,letv,this]
 congr 1
 rw[IntKind.wrap_u64,IntKind.wrap_u64,Int.emod_eq_of_lt h1 (by omega),Int.emod_eq_of_lt (by omega) (by omega)]
theorem copy_w{P:Nat}{m:List Int}(h:Q12 P m):(Qcz m).w (λr=>r=m):=by
 obtain⟨h1,h2,h3,_⟩:=h
 unfold Qcz
 refine w_cn ?_ ?_
 · simp [Nat.blt,D.plain];omega
 · show _=_
   simp
theorem put_w{P:Nat}{m:List Int}(h:Q12 P m){addr size v:Int}(ha:U addr)(hl:addr<4*m.length)(hv:U v):(Qfm m addr size v).w (Q12 P):=by
 obtain⟨h1,h2,h3,h4⟩:=h
 obtain⟨a1,a2⟩:=ha
 have e:IntKind.wrap IntKind.u32 (Int.tdiv addr 4)=addr/4:=by rw[IntKind.wrap_u32,Int.tdiv_eq_ediv_of_nonneg a1];omega
 have hc:(Nat.beq 1 1&&Nat.blt 0 1&&decide (0≤IntKind.wrap IntKind.u32 (Int.tdiv addr 4)∧IntKind.wrap IntKind.u32 (Int.tdiv addr 4)<(m.length:Int)))=true:=by
   rw[e];simp [Nat.blt];omega
 have h0: ∀x,decide (0≤IntKind.wrap IntKind.u32 x)=true:=λx=>decide_eq_true (Q0n x).1
 have hs: ∀i v,U v→Q12 P (m.set i v):=λi v hv=>⟨by simp [h1],h2,h3,Z7e h4 hv i⟩
 unfold Qfm
 exact w_br (λ_=>w_cn hc (hs _ _ hv)) (λ_=>w_cn hc (w_cn (h0 _) (w_cn (h0 _) (w_cn hc (hs _ _ (U_or _ _))))))
section
variable {c:Q02} (h:Q1z c)
include h
theorem Qwy(k:Int){b:Int}(hb:U b):Q1z (Q5l c k b):=by
 refine(Tree.post (Qgu c k b) (W:=Q1z) ?_)
 unfold Qgu
 refine w_lv λ_ _=>w_lv λ_ _=>⟨h.x,h.a1,?_⟩
 intro w hw
 simp only[A8.l,List.mem_cons,List.not_mem_nil,or_false]at hw
 rcases hw with rfl|rfl|rfl|rfl|rfl|rfl|rfl|rfl
 · exact U_or _ _
 · exact h.a1
 · exact h.pc
 · exact Q0n _
 · exact hb
 · exact h.a5
 · exact h.a6
 · exact h.a7
theorem return_w:Q1z (Qma c):=by
 refine(Tree.post (Qbx c) (W:=Q1z) ?_)
 unfold Qbx
 refine w_lv λ_ _=>w_lv λ_ _=>⟨h.x,h.a2,?_⟩
 intro w hw
 simp only[A8.l,List.mem_cons,List.not_mem_nil,or_false]at hw
 rcases hw with rfl|rfl|rfl|rfl|rfl|rfl|rfl|rfl
 · exact U_or _ _
 · exact h.a1
 · exact h.a2
 · exact h.a3
 · exact h.a4
 · exact h.a5
 · exact h.a6
 · exact h.a7
theorem Z3(r:Int){v:Int}(hv:U v):(Qg c r v).w Q1z:=by
 unfold Qg
 refine w_br (λh1=>w_br (λh2=>w_cn ?_ ⟨Zbb h.x hv _,h.pc,h.csr⟩) (λ_=>h)) (λ_=>h)
 have h1:=of_decide_eq_true h1
 have h2:=of_decide_eq_true h2
 simp [Nat.blt];omega
theorem write_w(k:Int){v:Int}(hv:U v):(Qb5 c k v).w Q1z:=by
 have ok: ∀i v,U v→Q1z {X:=c.X,Pc:=c.Pc,B5:=A8.of 0 (List.set (A8.l c.B5) i v)}:=λi v hv=>⟨h.x,h.pc,Z6h h.csr hv i⟩
 unfold Qb5
 repeat'(first
   |exact h
   |exact ok _ _ (Q0n _)
   |exact ok _ _ hv
   |refine w_br (λhk=> ?_) (λ_=> ?_)
   |refine w_cn (by rw[eq_of_beq (by assumption:(k==_)=true)];decide) ?_)
end
section
variable {P:Nat} {m:List Int} (h:Q12 P m)
include h
theorem Z2u(a:Int){size:Int}(hs:size=1∨size=4):(Q8t m a size).w (λb=>b=true→a<128*P):=by
 have hp:=Qup h
 have h2:=h.p2
 have e:decide (IntKind.wrap IntKind.u32 size≠0)=true:=by rcases hs with rfl|rfl<;>decide
 have l: ∀x,x=Q6a m→decide (a<IntKind.wrap IntKind.u32 (IntKind.wrap IntKind.i64 (128*x)))=true→a<128*P:=λx hx hd=>by
   rw[hx,hp,IntKind.wrap_u32,IntKind.wrap_i64]at hd
   have:=of_decide_eq_true hd
   omega
 unfold Q8t
 refine w_br (λ_=>w_br (λ_=>λh=>by cases h) (λ_=> ?_)) (λ_=> ?_)<;>
 exact w_cn e (w_br (λ_=>w_lv λx hx=>l x hx) (λ_=>λh=>by cases h))
theorem idx{a:Int}(ha:U a)(hl:a<128*P):(Nat.beq 1 1&&Nat.blt 0 1&&decide (0≤IntKind.wrap IntKind.u32 (Int.tdiv a 4)∧IntKind.wrap IntKind.u32 (Int.tdiv a 4)<(m.length:Int)))=true:=by
 obtain⟨a1,a2⟩:=ha
 have e:IntKind.wrap IntKind.u32 (Int.tdiv a 4)=a/4:=by rw[IntKind.wrap_u32,Int.tdiv_eq_ediv_of_nonneg a1];omega
 have:=h.len
 rw[e];simp [Nat.blt];omega
theorem Zds{a:Int}(ha:U a){size:Int}(hs:size=1∨size=4):(Qcs m a size).w (λr=>U r.1):=by
 obtain⟨g1,g2⟩:=Tree.pp (Z2u h a hs)
 unfold Qcs
 refine w_an g1 (w_lv λx hx=>w_br (λ_=>U_0) (λhb=> ?_))
 have hb:x=true:=by simpa using hb
 have hl:=g2 (hx.symm.trans hb)
 refine w_cn (idx h ha hl) (w_br (λ_=>w_cn (decide_eq_true (Q0n _).1) (Q0n _)) (λ_=>Qj4 h.u _))
theorem mark_w{a:Int}(ha:U a)(access:Int):(Qdp m a access).w (Q12 P):=by
 obtain⟨g1,g2⟩:=Tree.pp (Z2u h a (size:=4) (.inr rfl))
 have hs: ∀{m:List Int} i v,Q12 P m→U v→Q12 P (m.set i v):=λi v h hv=>⟨by simp [h.len],h.p1,h.p2,Z7e h.u hv i⟩
 unfold Qdp
 refine w_an g1 (w_lv λx hx=>w_br (λ_=>h) (λhb=> ?_))
 have hb:x=true:=by simpa using hb
 have hl:=g2 (hx.symm.trans hb)
 have i0:=idx h ha hl
 have h':=hs (Int.toNat (IntKind.wrap IntKind.u32 (Int.tdiv a 4))) (ior IntKind.u32 (m.getD (Int.toNat (IntKind.wrap IntKind.u32 (Int.tdiv a 4))) 0) 8) h (U_or _ _)
 have i1:=idx h' ha hl
 exact w_cn i0 (w_cn i0 (w_br (λ_=>w_cn i1 (w_cn i1 (hs _ _ h' (U_or _ _)))) (λ_=>h')))
theorem walk_w{root va:Int}(hr:U root)(hv:U va)(access:Int):(Q9s m root va access).w (λt=>U t.Addr∧U t.F0∧(t.Cause=0→t.Addr<128*P)):=by
 have hp:=Qup h
 have h2:=h.p2
 have hlen:=h.len
 obtain⟨r1,r2⟩:=hr
 obtain⟨v1,v2⟩:=hv
 unfold Q9s
 refine w_lv λx0 hx0=>w_lv λx1 hx1=>w_lv λx2 _=> ?_
 have hc:x0≠0:=by
   rw[hx0]
   simp only[Q7v,Qa6,Tree.m]
   cases access==1<;>cases access==3<;>simp
 rw[hp]at hx1
 have bad:U (0:Int)∧U (0:Int)∧(x0=0→(0:Int)<128*P):=⟨U_0,U_0,λe=>absurd e hc⟩
 refine w_br (λ_=>bad) (λ_=>w_br (λ_=>bad) (λhva=>w_br (λ_=>bad) (λhro=> ?_)))
 have hva:=of_decide_eq_false hva
 have hro:=of_decide_eq_false hro
 have e1:IntKind.wrap IntKind.u32 x1=P:=by rw[hx1,IntKind.wrap_u32];omega
 rw[e1]at hro
 have e2:IntKind.wrap IntKind.u32 (IntKind.wrap IntKind.u32 (root*128)+IntKind.wrap IntKind.u32 (4*IntKind.wrap IntKind.u32 (Int.tdiv va 128)))=root*128+4*(va/128):=by
   rw[Int.tdiv_eq_ediv_of_nonneg v1,IntKind.wrap_u32,IntKind.wrap_u32,IntKind.wrap_u32,IntKind.wrap_u32];omega
 have hU:U (IntKind.wrap IntKind.u32 (IntKind.wrap IntKind.u32 (root*128)+IntKind.wrap IntKind.u32 (4*IntKind.wrap IntKind.u32 (Int.tdiv va 128)))):=Q0n _
 have ci:=idx h hU (by rw[e2];omega)
 have good: ∀w:Int,decide (iand IntKind.u32 w 255≥IntKind.wrap IntKind.u32 x1)=false→(U (IntKind.wrap IntKind.u32 (IntKind.wrap IntKind.u32 (iand IntKind.u32 w 255*128)+Int.tmod va 128))∧U (IntKind.wrap IntKind.u32 (IntKind.wrap IntKind.u32 (root*128)+IntKind.wrap IntKind.u32 (4*IntKind.wrap IntKind.u32 (Int.tdiv va 128))))∧((0:Int)=0→IntKind.wrap IntKind.u32 (IntKind.wrap IntKind.u32 (iand IntKind.u32 w 255*128)+Int.tmod va 128)<128*P)):=λw hw=>by
   have hw:=of_decide_eq_false hw
   rw[e1]at hw
   have hn:=(U_and w 255).1
   refine⟨Q0n _,Q0n _,λ_=> ?_⟩
   rw[Int.tmod_eq_emod_of_nonneg v1,IntKind.wrap_u32,IntKind.wrap_u32]
   generalize iand IntKind.u32 w 255=q at*
   omega
 refine w_cn ci ?_
 repeat'(first
   |exact bad
   |exact good _ (by assumption)
   |refine w_br (λ_=> ?_) (λ_=> ?_)
   |refine w_cn ci ?_)
theorem Zba{c:Q02}(hc:Q1z c){va:Int}(hv:U va){size:Int}(hs:size=1∨size=4)(access:Int):(Qaw c m va size access).w (λr=>Q12 P r.2.2∧U r.1∧(r.2.1=0→r.1<128*P)):=by
 have e:decide (IntKind.wrap IntKind.u32 size≠0)=true:=by rcases hs with rfl|rfl<;>decide
 obtain⟨g1,g2⟩:=Tree.pp (Z2u h va hs)
 obtain⟨k1,k2⟩:=Tree.pp (walk_w h hc.a6 hv access)
 have bad: ∀k:Int,k≠0→Q12 P m∧U (0:Int)∧(k=0→(0:Int)<128*P):=λk hk=>⟨h,U_0,λe=>absurd e hk⟩
 have hca:Q7v access≠0:=by
   simp only[Q7v,Qa6,Tree.m]
   cases access==1<;>cases access==3<;>simp
 unfold Qaw
 refine w_lv λx0 _=>w_br (λ_=>bad 5 (by decide)) (λ_=>w_br (λh1=>w_br (λh2=> ?_) (λ_=> ?_)) (λ_=> ?_))
 · exact bad 5 (by decide)
 all_goals(
   refine w_cn e (w_br (λ_=>bad 3 (by decide)) (λ_=>w_lv λx1 _=>w_br (λ_=>w_an g1 (w_lv λx2 hx2=>w_br (λ_=>w_lv λx3 hx3=>bad x3 (by rw[hx3];exact hca)) (λhb=> ?_))) (λ_=>w_an k1 (w_lv λx4 hx4=>w_br (λhb=> ?_) (λhb=> ?_)))))
   · have hb:x2=true:=by simpa using hb
     exact⟨h,hv,λ_=>g2 (hx2.symm.trans hb)⟩
   · exact bad _ (by simpa using hb)
   · obtain⟨t1,t2,t3⟩:=k2
     rw[show(Q9s m c.B5.a6 va access).m=x4 from hx4.symm]at t1 t2 t3
     obtain⟨m1,m2⟩:=Tree.pp (mark_w h t2 access)
     refine w_an m1 (w_lv λx5 hx5=> ?_)
     exact⟨hx5▸m2,t1,λ_=>t3 (by simpa using hb)⟩)
end
theorem reg_ok{r:Int}(h:Q5u r=true):0≤r∧r<16:=by
 simp only[Q5u,Qdl,Tree.m]at h
 cases h1:decide (r≥0)<;>rw[h1]at h
 · cases h
 · have h1:=of_decide_eq_true h1
   have h:=of_decide_eq_true h
   omega
theorem valid_ok{i:Q0h}(hi:IntKind.wrap .i64 i.D3=i.D3)(h:Q7q i=true):Qbt i:=by
 have no:false=true→Qbt i:=λh=>by cases h
 refine(Tree.post (Qes i) (W:=λb=>b=true→Qbt i) ?_) h
 unfold Qes
 refine w_lv λx0 h0=>w_br (λ_=>no) (λ_=>w_lv λx1 h1=>w_br (λ_=>no) (λb1=>w_lv λx2 h2=>w_br (λ_=>no) (λb2=>w_lv λx3 h3=>w_br (λ_=>no) (λb3=>w_lv λx4 h4=>w_br (λ_=>no) (λb4=>w_br (λ_=>no) (λb5=> ?_))))))
 have b1:x1=true:=by simpa using b1
 have b2:x2=true:=by simpa using b2
 have b3:x3=true:=by simpa using b3
 have b4:=of_decide_eq_false b4
 have b5:=of_decide_eq_false b5
 rw[hi]at b4 b5
 have ok:Qbt i:=⟨reg_ok (h1.symm.trans b1),reg_ok (h2.symm.trans b2),reg_ok (h3.symm.trans b3),λe=>by
   rw[e]at h0
   have h0:x0=8:=h0
   subst h0
   have h4:x4=(0,7):=h4
   subst h4
   simp at b4 b5;omega⟩
 repeat'(first
   |exact λ_=>ok
   |exact no
   |refine w_br (λ_=> ?_) (λ_=> ?_))
theorem decode_w(w:Int):(Qc2 w).w (λr=>r.2=true→Qbt r.1):=by
 have no: ∀{p:Prop},false=true→p:=λh=>by cases h
 have e: ∀x,IntKind.wrap .i64 (IntKind.wrap .i32 x)=IntKind.wrap .i32 x:=λx=>by rw[IntKind.wrap_i64,IntKind.wrap_i32];omega
 have ok: ∀i,IntKind.wrap .i64 i.D3=i.D3→ ∀x,x=Q7q i→(!x)=false→true=true→Qbt i:=λi hi x hx hb _=>valid_ok hi (hx.symm.trans (by simpa using hb))
 unfold Qc2
 refine w_lv λx0 _=> ?_
 have l: ∀i,IntKind.wrap .i64 i.D3=i.D3→(Tree.lv (Q7q i) λx=> .br (!x) (.lf ((⟨0,0,0,0,0⟩:Q0h),false)) (.lf (i,true))).w (λr=>r.2=true→Qbt r.1):=λi hi=>w_lv λx hx=>w_br (λ_=>no) (λhb=>ok i hi x hx hb)
 refine w_br (λ_=>no) (λ_=>w_br (λ_=>l _ rfl) (λ_=>w_br (λ_=>l _ (e _)) (λ_=>w_br (λ_=>l _ (e _)) (λ_=>l _ (e _)))))
theorem bit_w(b:Bool):U (Qe6 b):=by cases b<;>exact⟨by decide,by decide⟩
theorem Zcr{a b:Int}(ha:U a)(hb:U b):(Q83 a b).w (λr=>U r.1∧U r.2):=by
 unfold Q83
 refine w_br (λ_=>⟨⟨by omega,by omega⟩,ha⟩) (λh=> ?_)
 have h: ¬b=0:=by simpa using h
 obtain⟨b1,b2⟩:=hb
 have hc:decide (IntKind.wrap IntKind.i64 (IntKind.wrap IntKind.i32 b)≠0)=true:=decide_eq_true (by rw[IntKind.wrap_i64,IntKind.wrap_i32];omega)
 exact w_cn hc (w_cn hc ⟨Q0n _,Q0n _⟩)
theorem alu_w(op:Int){a b:Int}(ha:U a)(hb:U b):(Qfo op a b).w (λr=>U r.1):=by
 unfold Qfo
 refine w_lv λx0 _=> ?_
 repeat'(first
   |exact Q0n _
   |exact U_shr ha _
   |exact U_0
   |refine w_br (λ_=> ?_) (λ_=> ?_)
   |exact Q0d (Zcr ha hb) λx hx=>hx.1
   |exact Q0d (Zcr ha hb) λx hx=>hx.2
   |exact w_lv λx hx=>(by rw[hx];exact bit_w _))
theorem signext_w{x:Int}(hx:U x):(Q44 x 8).w U:=by
 unfold Q44
 have h0:decide (0≤IntKind.wrap IntKind.u64 8)=true:=by decide
 refine w_br (λh=>absurd h (by decide)) λ_=>w_br (λh=>absurd h (by decide)) λ_=>w_cn h0 (w_cn (by decide) (w_br (λ_=>w_cn h0 (U_or _ _)) (λ_=>U_and _ _)))
section
variable {c:Q02} (h:Q1z c) {i:Q0h} (hi:Qbt i)
include h hi
theorem system_w:(Q8l c i).w (λr=>Q1z r.1∧U r.2.Value):=by
 unfold Q8l
 refine w_br (λ_=>w_lv λx hx=>⟨hx▸Qwy h _ U_0,U_0⟩) (λ_=>w_br (λ_=>w_lv λx hx=>⟨hx▸return_w h,U_0⟩) (λ_=>w_br (λe=>w_cn ?_ (Q0d (Z3 h _ (h.a _)) λx hx=>⟨hx.pcs (Q0n _),U_0⟩)) (λ_=>w_br (λ_=>w_cn (rc hi.a) (Q0d (write_w h _ (h.r _)) λx hx=>⟨hx.pcs (Q0n _),U_0⟩)) (λ_=> ?_))))
 · have:=hi.csr (by simpa using e)
   simp [Nat.blt];omega
 · have k:=h.pcs (Q0n (c.Pc+4))
   repeat'(first
     |exact⟨k,U_0⟩
     |exact⟨k,h.r _⟩
     |refine w_br (λ_=> ?_) (λ_=> ?_)
     |refine w_cn (rc hi.a) ?_)
theorem jump_w:(Qck c i).w Q1z:=by
 unfold Qck
 exact w_br (λ_=>Q0d (Z3 h _ (Q0n _)) λx hx=>hx.pcs (Q0n _)) (λ_=>w_br (λ_=>w_cn (rc hi.b) (Q0d (Z3 h _ (Q0n _)) λx hx=>hx.pcs (Q0n _))) (λ_=>w_cn (rc hi.a) (w_cn (rc hi.b) (w_lv λx _=>w_br (λ_=>h.pcs (Q0n _)) (λ_=>h.pcs (Q0n _))))))
theorem Zer{P:Nat}{m:List Int}(hm:Q12 P m):(Q5q c m i).w (λr=>Q1z r.1∧Q12 P r.2):=by
  unfold Q5q
  refine w_cn (rc hi.b) ?_
  have e1:(1:Int)=1∨(1:Int)=4:= .inl rfl
  have e4:(4:Int)=1∨(4:Int)=4:= .inr rfl
  repeat'(first
    |refine w_br (λ_=> ?_) (λ_=> ?_)
    | (refine Q0d (Zba hm h (Q0n _) e4 _) λx hx=> ?_
       obtain⟨m1,m2,m3⟩:=hx
       refine w_br (λ_=>w_lv λy hy=>⟨hy▸Qwy h _ (Q0n _),m1⟩) (λhb=> ?_)
       have m3:=m3 (by simpa using hb)
       have m4:x.1<4*x.2.2.length:=by rw[m1.len];omega
       clear hb)
    | (refine Q0d (Zba hm h (Q0n _) e1 _) λx hx=> ?_
       obtain⟨m1,m2,m3⟩:=hx
       refine w_br (λ_=>w_lv λy hy=>⟨hy▸Qwy h _ (Q0n _),m1⟩) (λhb=> ?_)
       have m3:=m3 (by simpa using hb)
       have m4:x.1<4*x.2.2.length:=by rw[m1.len];omega
       clear hb)
    |exact w_cn (rc hi.a) (Q0d (put_w (by assumption) (by assumption) (by assumption) (h.r _)) λy hy=>⟨h.pcs (Q0n _),hy⟩)
    |(refine Q0d (Zds (by assumption) (by assumption) e4) λy hy=> ?_)
    |(refine Q0d (Zds (by assumption) (by assumption) e1) λy hy=> ?_)
    |exact Q0d (signext_w (by assumption)) λz hz=>Q0d (Z3 h _ hz) λu hu=>⟨hu.pcs (Q0n _),by assumption⟩
    |exact Q0d (Z3 h _ (by assumption)) λu hu=>⟨hu.pcs (Q0n _),by assumption⟩)
end
theorem do_w{c:Q02}(h:Q1z c){P:Nat}{m:List Int}(hm:Q12 P m):(Qj9 c m).w (λr=>Q1z r.1∧U r.2.1.Value∧Q12 P r.2.2):=by
 unfold Qj9
 refine Q0d (Zba hm h h.pc (.inr rfl) 1) λx0 hx=> ?_
 obtain⟨m1,m2,m3⟩:=hx
 refine w_br (λ_=>w_lv λy hy=>⟨hy▸Qwy h _ h.pc,U_0,m1⟩) (λhb=> ?_)
 refine Q0d (Zds m1 m2 (.inr rfl)) λx2 h2=>Zdw (decode_w _) λx3 h3=>w_br (λ_=>w_lv λy hy=>⟨hy▸Qwy h _ h2,U_0,m1⟩) (λb3=> ?_)
 have hi:=h3 (by simpa using b3)
 refine w_lv λx5 _=> ?_
 repeat'(first
   |refine w_br (λ_=> ?_) (λ_=> ?_)
   |exact w_lv λy hy=>⟨hy▸Qwy h _ h2,U_0,m1⟩
   |exact Q0d (system_w h hi) λy hy=>⟨hy.1,hy.2,m1⟩
   |exact Q0d (jump_w h hi) λy hy=>⟨hy,U_0,m1⟩
   |exact Q0d (Zer h hi m1) λy hy=>⟨hy.1,U_0,hy.2⟩
   |exact Q0d (Z3 h _ (Q0n _)) λy hy=>⟨hy.pcs (Q0n _),U_0,m1⟩
   |refine w_cn (rc hi.c) ?_
   |refine w_cn (rc hi.b) ?_
   |exact Q0d (alu_w _ (h.r _) (h.r _)) λy hy=>Q0d (Z3 h _ hy) λz hz=>⟨hz.pcs (Q0n _),U_0,m1⟩
   |exact Q0d (alu_w _ (h.r _) (Q0n _)) λy hy=>Q0d (Z3 h _ hy) λz hz=>⟨hz.pcs (Q0n _),U_0,m1⟩)
theorem and1{q:Int}(h:U q):iand .u32 q 1=q%2:=by
 obtain⟨h1,h2⟩:=h
 unfold iand
 rw[IntKind.wrap_u32]
 have e1:(BitVec.ofInt 32 q).toNat=q.toNat:=by rw[BitVec.toNat_ofInt];omega
 have e2:(BitVec.ofInt 32 1).toNat=1:=by decide
 have:(BitVec.ofInt IntKind.u32.bits q&&&BitVec.ofInt IntKind.u32.bits 1).toNat=q.toNat%2:=by
   show(BitVec.ofInt 32 q&&&BitVec.ofInt 32 1).toNat=_
   rw[BitVec.toNat_and,e1,e2,Nat.and_one_is_mod]
 rw[this];omega
theorem Z7g(b:Bool)(n:Int):(Qdr b n).w (λ_=>True):=by
 unfold Qdr
 exact w_br (λ_=>w_cn (decide_eq_true (by rw[IntKind.wrap_u64];omega)) trivial) (λ_=>trivial)
theorem lines_w(m:Q00):(Qar m).w (λ_=>True):=by
 unfold Qar
 exact w_lv λ_ _=>Q0d (Z7g _ _) λ_ _=>w_lv λ_ _=>Q0d (Z7g _ _) λ_ _=>w_lv λ_ _=>Q0d (Z7g _ _) λ_ _=>w_lv λ_ _=>Q0d (Z7g _ _) λ_ _=>w_lv λ_ _=>Q0d (Z7g _ _) λ_ _=>trivial
theorem Z7j(m:Q00):(Q6z m).w U:=by
 unfold Q6z
 exact Q0d (lines_w m) λ_ _=>U_and _ _
theorem idle_w(m:Q00):(Qda m).w (λ_=>True):=by
 unfold Qda
 exact w_br (λ_=>Q0d (Z7j m) λ_ _=>trivial) (λ_=>trivial)
theorem Qoi{m:Q00}(h:Q1z m.B1):(Q3i m).w Q1z:=by
 unfold Q3i
 refine Q0d (Z7j m) λx0 hx=>w_br (λ_=>h) (λ_=>w_br (λ_=>h) (λhb=> ?_))
 have hb:x0≠0:=by simpa using hb
 have sh: ∀z:Int,0≤z→z≤31→ishr .u32 x0 (IntKind.wrap .u64 z)=x0/2^z.toNat:=λz h1 h2=>by
   unfold ishr
   have e:min (IntKind.wrap .u64 z).toNat IntKind.u32.bits=z.toNat:=by
     show min (IntKind.wrap .u64 z).toNat 32=z.toNat
     rw[IntKind.wrap_u64];omega
   rw[e,Int.fdiv_eq_ediv_of_nonneg _ (Int.le_of_lt (Int.pow_pos (by decide)))]
 refine w_lp (inv:=λz=>0≤z∧z≤31∧x0/2^z.toNat≠0) (μ:=Q9b m) ⟨by omega,by omega,by simpa using hb⟩ (Nat.lt_succ_self _) (λz hz=> ?_)
 obtain⟨z1,z2,z3⟩:=hz
 refine w_cn (decide_eq_true (by rw[IntKind.wrap_u64];omega)) (w_br (λe=>w_nx ?_) (λ_=>w_lv λy hy=>hy▸Qwy h _ U_0))
 have e:=eq_of_beq e
 have hq:=U_shr hx (IntKind.wrap .u64 z)
 rw[and1 hq,sh z z1 z2]at e
 rw[sh z z1 z2]at hq
 have hlt:x0/2^z.toNat/2≠0:=by omega
 have z4:z≤30:=by
   rcases Int.lt_or_le z 31 with h|h
   · omega
   · have:z=31:=by omega
     subst this
     have:=hx.2
     have:=hx.1
     simp at z3 e hlt
     omega
 show(0≤IntKind.i64.wrap (z+1)∧IntKind.i64.wrap (z+1)≤31∧x0/2^(IntKind.i64.wrap (z+1)).toNat≠0)∧(32-IntKind.i64.wrap (z+1)).toNat<(32-z).toNat
 have ew:IntKind.i64.wrap (z+1)=z+1:=by rw[IntKind.wrap_i64];omega
 rw[ew]
 refine⟨⟨by omega,by omega,?_⟩,by omega⟩
 have et:(z+1).toNat=z.toNat+1:=by omega
 rw[et,Int.pow_succ,←Int.ediv_ediv_of_nonneg (Int.le_of_lt (Int.pow_pos (by decide)))]
 exact hlt
theorem reads_w{P:Nat}{m:Q00}(h:Q1z m.B1)(hm:Q12 P m.Mem):(Qb8 m).w (λ_=>True):=by
 unfold Qb8
 refine Q0d (Qoi h) λx0 hx=>w_br (λ_=>trivial) (λ_=>Q0d (Zds hm hx.pc (.inr rfl)) λx1 _=>w_lv λx2 _=> ?_)
 exact w_br (λ_=>w_br (λ_=>w_br (λ_=>trivial) (λ_=>trivial)) (λ_=>trivial)) (λ_=>trivial)
theorem Qh6(l:List Int):(bytesOf l).length=l.length:=by simp [bytesOf]
theorem Z1y(l:List UInt8):(Qae l).length=l.length:=by simp [Qae]
theorem low_w(x:Int):(Qc9 x 4).w (λr=>r.length=4):=by
 unfold Qc9
 refine w_lp (inv:=λz=>0≤z.1∧z.1≤4∧(z.2.length:Int)=z.1) (μ:=Qa9 x 4) ⟨by omega,by omega,rfl⟩ (Nat.lt_succ_self _) (λz hz=> ?_)
 obtain⟨z1,z2,z3⟩:=hz
 refine w_br (λh=>w_cn (decide_eq_true (by rw[IntKind.wrap_u64];omega)) (w_cn (decide_eq_true (by omega)) (w_nx ?_))) (λh=> ?_)
 · have h:=of_decide_eq_true h
   show(0≤IntKind.i64.wrap (z.1+1)∧IntKind.i64.wrap (z.1+1)≤4∧((z.2++[_]).length:Int)=IntKind.i64.wrap (z.1+1))∧(4-IntKind.i64.wrap (z.1+1)).toNat<(4-z.1).toNat
   have ew:IntKind.i64.wrap (z.1+1)=z.1+1:=by rw[IntKind.wrap_i64];omega
   rw[ew]
   refine⟨⟨by omega,by omega,by simp;omega⟩,by omega⟩
 · have h:=of_decide_eq_false h
   show(bytesOf z.2).length=4
   rw[Qh6];omega
theorem page_w{P:Nat}{m:List Int}(hm:Q12 P m)(frame:Int):(Qdy m frame).w (λr=>0≤frame→frame<P→r.1.length=128):=by
 have hp:=Qup hm
 have hl:=hm.len
 have h2:=hm.p2
 unfold Qdy
 refine w_br (λh=>λh0 _=>by have:=of_decide_eq_true h;omega) (λh=>w_lv λx0 hx=>w_br (λh1=>λ_ h2=>by have:=of_decide_eq_true h1;rw[hx,hp]at this;omega) (λh1=> ?_))
 have h:=of_decide_eq_false h
 have h1:=of_decide_eq_false h1
 rw[hx,hp]at h1
 refine w_lp (inv:=λz=>0≤z.1∧z.1≤32∧(z.2.length:Int)=4*z.1) (μ:=Qim m frame) ⟨by omega,by omega,rfl⟩ (Nat.lt_succ_self _) (λz hz=> ?_)
 obtain⟨z1,z2,z3⟩:=hz
 refine w_br (λhb=> ?_) (λhb=> ?_)
 · have hb:=of_decide_eq_true hb
   have e:IntKind.wrap IntKind.i64 (IntKind.wrap IntKind.i64 (frame*32)+z.1)=frame*32+z.1:=by rw[IntKind.wrap_i64,IntKind.wrap_i64];omega
   refine w_cn (by rw[e];simp [Nat.blt];omega) (w_an (show(4:Int)≤1000000000000 by decide) (Zdw (low_w _) λx1 h4=>w_cn (decide_eq_true (by rw[Z1y,h4];omega)) (w_nx ?_)))
   show(0≤IntKind.i64.wrap (z.1+1)∧IntKind.i64.wrap (z.1+1)≤32∧((z.2++Qae x1).length:Int)=4*IntKind.i64.wrap (z.1+1))∧(32-IntKind.i64.wrap (z.1+1)).toNat<(32-z.1).toNat
   have ew:IntKind.i64.wrap (z.1+1)=z.1+1:=by rw[IntKind.wrap_i64];omega
   rw[ew,List.length_append,Z1y,h4]
   exact⟨⟨by omega,by omega,by omega⟩,by omega⟩
 · have hb:=of_decide_eq_false hb
   intro _ _
   show(bytesOf z.2).length=128
   rw[Qh6];omega
theorem diskOut_w{P:Nat}{m:List Int}(hm:Q12 P m){d:Q0b}(hd:Qi2 d)(port:Int){v:Int}(hv:U v)(at0:Int):(Q7 d m port v at0).w (λr=>Qi2 r.1∧r.2.length≤1):=by
 have k: ∀st,Qi2 {Blocks:=d.Blocks,B6:=d.B6,Frame:=d.Frame,C0:=st,D7:=d.D7,B3:=d.B3,B4:=d.B4,B7:=d.B7}:=λst=>⟨hd.block,hd.frame,hd.opBlock,hd.opFrame⟩
 have k2: ∀c o,Qi2 {Blocks:=d.Blocks,B6:=d.B6,Frame:=d.Frame,C0:=1,D7:=c,B3:=d.B6,B4:=d.Frame,B7:=o}:=λc o=>⟨hd.block,hd.frame,hd.block,hd.frame⟩
 have k3:Qi2 {Blocks:=d.Blocks,B6:=v,Frame:=d.Frame,C0:=d.C0,D7:=d.D7,B3:=d.B3,B4:=d.B4,B7:=d.B7}:=⟨hv,hd.frame,hd.opBlock,hd.opFrame⟩
 have k4:Qi2 {Blocks:=d.Blocks,B6:=d.B6,Frame:=v,C0:=d.C0,D7:=d.D7,B3:=d.B3,B4:=d.B4,B7:=d.B7}:=⟨hd.block,hv,hd.opBlock,hd.opFrame⟩
 unfold Q7
 repeat'(first
   |refine w_br (λ_=> ?_) (λ_=> ?_)
   |exact Q0d (page_w hm _) λ_ _=>w_lv λ_ _=>⟨k2 _ _,Nat.le_refl _⟩
   |refine w_lv (λ_ _=> ?_)
   |refine w_lf ?_)
 all_goals(first
   |exact⟨hd,Nat.zero_le _⟩
   |exact⟨k _,Nat.zero_le _⟩
   |exact⟨k2 _ _,Nat.le_refl _⟩
   |exact⟨k3,Nat.zero_le _⟩
   |exact⟨k4,Nat.zero_le _⟩)
theorem nicOut_w{P:Nat}{m:List Int}(hm:Q12 P m){n:Q0m}(hn:Qp1 n)(port:Int){v:Int}(hv:U v)(at0:Int):(Q87 n m port v at0).w (λr=>Qp1 r.1∧r.2.length≤1):=by
 have k1:Qp1 {Frame:=v,D9:=n.D9,B8:=n.B8,B9:=n.B9,B2:=n.B2,E0:=n.E0}:=⟨hv,hn.len,hn.buffer,hn.got⟩
 have k2:Qp1 {Frame:=n.Frame,D9:=v,B8:=n.B8,B9:=n.B9,B2:=n.B2,E0:=n.E0}:=⟨hn.frame,hv,hn.buffer,hn.got⟩
 have k3:Qp1 {Frame:=n.Frame,D9:=n.D9,B8:=n.B8,B9:=n.B9,B2:=false,E0:=0}:=⟨hn.frame,hn.len,hn.buffer,U_0⟩
 have k4: ∀p r,Qp1 {Frame:=n.Frame,D9:=n.D9,B8:=p,B9:=n.Frame,B2:=r,E0:=n.E0}:=λp r=>⟨hn.frame,hn.len,hn.frame,hn.got⟩
 have send: ∀K:List UInt8×Bool→Tree (Q0m×List Q0e),Q5b m n.Frame=true→(∀x:List UInt8×Bool,x.1.length=128→(K x).w (λr=>Qp1 r.1∧r.2.length≤1))→(Tree.an (Qc3 m (IntKind.wrap .i64 n.Frame)) (.lv (Qnw m (IntKind.wrap .i64 n.Frame)) K)).w (λr=>Qp1 r.1∧r.2.length≤1):=λK hp hK=>by
   rw[page_eq hm hn.frame]at hp
   have hp:=of_decide_eq_true hp
   obtain⟨f1,f2⟩:=hn.frame
   have ew:IntKind.i64.wrap n.Frame=n.Frame:=by rw[IntKind.wrap_i64];omega
   exact Q0d (page_w hm _) λx hx=>hK x (hx (by rw[ew];exact f1) (by rw[ew];exact hp))
 unfold Q87
 repeat'(first
   |refine w_br (λ_=> ?_) (λ_=> ?_)
   |refine send _ (by simp_all) (λx hx=>w_cn (by simp_all;exact hn.len.1) ?_)
   |refine w_lv (λ_ _=> ?_)
   |refine w_lf ?_)
 all_goals(first
   |exact⟨hn,Nat.zero_le _⟩
   |exact⟨hn,Nat.le_refl _⟩
   |exact⟨k1,Nat.zero_le _⟩
   |exact⟨k2,Nat.zero_le _⟩
   |exact⟨k3,Nat.zero_le _⟩
   |exact⟨k4 _ _,Nat.zero_le _⟩)
def okB(b:Q07):Prop:=U b.C3∧U b.C5
theorem give_w{P:Nat}{m:List Int}(hm:Q12 P m){b:Q07}(hb:okB b)(port:Int){v:Int}(hv:U v):(Qe b m port v).w (λr=>okB r.1∧Q12 P r.2):=by
 have hv0:decide (0≤v)=true:=decide_eq_true hv.1
 have h2:=hm.p2
 have rest:(Tree.br (port==11) (.br (decide (v<32)) (.cn (decide (0≤v)) (.lf (({C3:=b.C3,C5:=Ql9 .u32 b.C5 (ishl .u32 1 v)}:Q07),m))) (.lf (b,m))) (.lf (b,m))).w (λr=>okB r.1∧Q12 P r.2):=
   w_br (λ_=>w_br (λ_=>w_cn hv0 ⟨⟨hb.1,Q0n _⟩,hm⟩) (λ_=>⟨hb,hm⟩)) (λ_=>⟨hb,hm⟩)
 unfold Qe
 refine w_br (λ_=>w_lv λx0 hx=>w_br (λhp=>w_cn hv0 (w_br (λ_=>w_cn hv0 ?_) (λ_=>rest))) (λ_=>rest)) (λ_=>rest)
 have hp:Q5b m v=true:=hx.symm.trans hp
 rw[page_eq hm hv]at hp
 have hp:=of_decide_eq_true hp
 obtain⟨v1,v2⟩:=hv
 refine w_lp (inv:=λz=>0≤z.1∧z.1≤32∧Q12 P z.2) (μ:=Qji b m port v) ⟨by omega,by omega,hm⟩ (Nat.lt_succ_self _) (λz hz=> ?_)
 obtain⟨z1,z2,z3⟩:=hz
 have hl:=z3.len
 refine w_br (λh=> ?_) (λ_=>⟨⟨hb.1,Q0n _⟩,z3⟩)
 have h:=of_decide_eq_true h
 have e:IntKind.wrap IntKind.i64 (IntKind.wrap IntKind.i64 (IntKind.wrap IntKind.i64 v*32)+z.1)=v*32+z.1:=by rw[IntKind.wrap_i64,IntKind.wrap_i64,IntKind.wrap_i64];omega
 refine w_cn (by rw[e];simp [Nat.blt];omega) (w_nx ?_)
 show(0≤IntKind.i64.wrap (z.1+1)∧IntKind.i64.wrap (z.1+1)≤32∧Q12 P (List.set _ _ _))∧(32-IntKind.i64.wrap (z.1+1)).toNat<(32-z.1).toNat
 have ew:IntKind.i64.wrap (z.1+1)=z.1+1:=by rw[IntKind.wrap_i64];omega
 rw[ew]
 exact⟨⟨by omega,by omega,⟨by simp [hl],z3.p1,z3.p2,Z7e z3.u U_0 _⟩⟩,by omega⟩
structure okM(P:Nat)(m:Q00):Prop where
 cpu:Q1z m.B1
 mem:Q12 P m.Mem
 disk:Qi2 m.B0
 nic:Qp1 m.C2
 target:okB m.A0
 cnt:0≤m.A4
theorem Zau(c:Q0a)(port:Int):U (Qf6 c port).2:=by
 refine Tree.post (Q3b c port) (W:=λr=>U r.2) ?_
 have u1:U 4294967295:=⟨by omega,by omega⟩
 unfold Q3b
 refine w_br (λ_=>w_br (λ_=>u1) (λh=>w_br (λ_=>w_cn ?_ (w_cn ?_ (Q0n _))) (λ_=>w_br (λ_=>Q0n _) (λ_=>U_0)))) (λh1=>w_br (λh=>(by rw[h1]at h;cases h)) (λ_=>w_br (λ_=>Q0n _) (λ_=>U_0)))
 · have h: ¬(c.D0.length:Int)=0:=by simpa using h
   exact decide_eq_true ⟨by omega,by omega,by omega⟩
 · have h: ¬(c.D0.length:Int)=0:=by simpa using h
   simp [Nat.blt];omega
theorem nicIn_w{n:Q0m}(h:Qp1 n)(port:Int):U (Qql n port):=by
 refine Tree.post (Qea n port) (W:=U) ?_
 have u1:U 1:=⟨by omega,by omega⟩
 unfold Qea
 exact w_br (λ_=>h.frame) (λ_=>w_br (λ_=>h.got) (λ_=>w_br (λ_=>w_br (λ_=>w_br (λ_=>Q0n _) (λ_=>u1)) (λ_=>w_br (λ_=>Q0n _) (λ_=>U_0))) (λ_=>U_0)))
theorem diskIn_w{d:Q0b}(h:Qi2 d)(port:Int):U (Qmr d port):=by
 refine Tree.post (Qc1 d port) (W:=U) ?_
 unfold Qc1
 exact w_br (λ_=>h.block) (λ_=>w_br (λ_=>h.frame) (λ_=>w_br (λ_=>Q0n _) (λ_=>U_0)))
theorem timerIn_w(t:Q0k):U (Qj8 t):=by
 refine Tree.post (Qa4 t) (W:=U) ?_
 unfold Qa4
 exact w_br (λ_=>⟨by omega,by omega⟩) (λ_=>U_0)
theorem Zbw{b:Q07}(h:U b.C3)(port:Int):U (Qf4 b port):=by
 refine Tree.post (Q78 b port) (W:=U) ?_
 unfold Q78
 exact w_br (λ_=>h) (λ_=>w_br (λ_=>w_lv λ_ _=>Q0n _) (λ_=>U_0))
structure okR(P:Nat)(r:Q1c):Prop where
 m:okM P r.A3
 clock:U r.Clock
structure okL(P:Nat)(r x:Q1c):Prop where
 ok:okR P x
 log:x.Log=r.Log
 queue:x.Queue=r.Queue
theorem w0(x:Int):0≤IntKind.u64.wrap x:=by rw[IntKind.wrap_u64];omega
section
variable {P:Nat} {r:Q1c} (h:okR P r)
include h
end
section
variable {P:Nat} {r:Q1c} (h:okR P r)
include h
end
end Go.Proofs.YtmalmklaonainaaGreat

import Derived.Test.YtmalmklaonainaaGreatRecordCutsYe
import Derived.Test.YtmalmklaonainaaGreatRecordCutsZa
import Derived.Test.YtmalmklaonainaaGreatRecordCutsZb
import Derived.Test.YtmalmklaonainaaGreatRecordCutsZg
set_option maxRecDepth 100000
set_option linter.all false
namespace Go.Proofs.YtmalmklaonainaaGreat
open Go Go.GD
def U(x:Int):Prop:=0<=x/\x<4294967296
theorem Q0o(x:Int):U (IntKind.u32.wrap x):=by rw[IntKind.wrap_u32];unfold U;omega
theorem Zfc(x y:Int):U (iand .u32 x y):=Q0o _
theorem U_or(x y:Int):U (ior .u32 x y):=Q0o _
theorem U_0:U 0:=⟨by omega,by omega⟩
theorem Z2y{m:List Int}(h: ∀w∈m,U w){v:Int}(hv:U v)(i:Nat): ∀w∈m.set i v,U w:=by
 intro w hw
 rcases List.mem_or_eq_of_mem_set hw with h1|h1
 . exact h w h1
 . rw[h1];exact hv
structure Q0y(P:Nat)(m:List Int):Prop where
 len:m.length=32*P
 p1:0<=P
 p2:P<=32
 u: ∀w∈m,U w
structure Q8j(d:Q0d):Prop where
 block:U d.C1
 frame:U d.Frame
 opBlock:U d.B5
 opFrame:U d.B3
structure Qih(n:Q0l):Prop where
 frame:U n.Frame
 len:U n.D9
 buffer:U n.B8
 got:U n.F0
theorem Qjp{l:List Int}(h: ∀w∈l,U w)(i:Nat):U (l.getD i 0):=by
 by_cases hi:i<l.length
 . have:l.getD i 0=l[i]:=by simp [List.getD,hi]
   rw[this];exact h _ (List.getElem_mem hi)
 . have:l.getD i 0=0:=by simp [List.getD,List.getElem?_eq_none (by omega:l.length<=i)]
   rw[this];exact U_0
structure Q2i(c:Q02):Prop where
 x: ∀w∈A16.l c.X,U w
 pc:U c.Pc
 csr: ∀w∈A8.l c.B4,U w
theorem Zfq{X:A16 Int}(h: ∀w∈A16.l X,U w){v:Int}(hv:U v)(i:Nat): ∀w∈A16.l (A16.of 0 (List.set (A16.l X) i v)),U w:=by
 have hs:=Z2y h hv i
 intro w hw
 simp only[A16.l,A16.of,List.mem_cons,List.not_mem_nil,or_false]at hw
 repeat(first|(rcases hw with rfl|hw; · exact Qjp hs _)|(subst hw;exact Qjp hs _))
theorem Zb7{X:A8 Int}(h: ∀w∈A8.l X,U w){v:Int}(hv:U v)(i:Nat): ∀w∈A8.l (A8.of 0 (List.set (A8.l X) i v)),U w:=by
 have hs:=Z2y h hv i
 intro w hw
 simp only[A8.l,A8.of,List.mem_cons,List.not_mem_nil,or_false]at hw
 repeat(first|(rcases hw with rfl|hw; · exact Qjp hs _)|(subst hw;exact Qjp hs _))
section
variable {c:Q02} (h:Q2i c)
include h
theorem Q2i.a(i:Nat):U ((A8.l c.B4).getD i 0):=Qjp h.csr i
theorem Q2i.r(i:Nat):U ((A16.l c.X).getD i 0):=Qjp h.x i
theorem Q2i.a0:U c.B4.a0:=h.a 0
theorem Q2i.a1:U c.B4.a1:=h.a 1
theorem Q2i.a2:U c.B4.a2:=h.a 2
theorem Q2i.a3:U c.B4.a3:=h.a 3
theorem Q2i.a4:U c.B4.a4:=h.a 4
theorem Q2i.a5:U c.B4.a5:=h.a 5
theorem Q2i.a6:U c.B4.a6:=h.a 6
theorem Q2i.a7:U c.B4.a7:=h.a 7
theorem Q2i.pcs{p:Int}(hp:U p):Q2i {X:=c.X,Pc:=p,B4:=c.B4}:=⟨h.x,hp,h.csr⟩
end
section
variable {α β:Type} {W:β->Prop} {t:Tree α} {Q:α->Prop} {k:α->Tree β}
theorem Q0e(hq:t.w Q)(g: ∀x,Q x->(k x).w W):(Tree.an t.p (Tree.lv t.m k)).w W:=⟨(Tree.pp hq).1,λy hy=>g y (by rw[hy];exact(Tree.pp hq).2)⟩
theorem Zdg(hq:t.w Q)(g: ∀x,Q x->(k x).w W):(Tree.lv t.m k).w W:=λy hy=>g y (by rw[hy];exact t.post hq)
end
theorem rc{r:Int}(h:0<=r/\r<16):(Nat.blt 0 1&&decide (0<=r/\r<((16:Nat):Int)))=true:=by simp [Nat.blt];omega
theorem Qtl{a:Int}(h:U a)(b:Int):U (ishr .u32 a b):=by
 unfold ishr U
 obtain⟨h1,h2⟩:=h
 have hp:(0:Int)<2^(min b.toNat IntKind.u32.bits):=Int.pow_pos (by decide)
 have:=Int.fdiv_nonneg h1 (Int.le_of_lt hp)
 refine⟨this,?_⟩
 rw[Int.fdiv_eq_ediv_of_nonneg _ (Int.le_of_lt hp)]
 have h3:=Int.ediv_le_self (2^(min b.toNat IntKind.u32.bits)) h1
 omega
structure Qex(i:Q0i):Prop where
 a:0<=i.A/\i.A<16
 b:0<=i.B/\i.B<16
 c:0<=i.C/\i.C<16
 csr:i.Op=58->0<=i.Imm/\i.Imm<8
theorem Z0c{P:Nat}{m:List Int}(h:Q0y P m):Q0q m=P:=by
 obtain⟨h1,h2,h3,_⟩:=h
 simp only[Q0q,Q89,Tree.m]
 have e:(m.length:Int)=32*P:=by omega
 rw[e]
 have e1:(Int.tmod (32*(P:Int)) 32 !=0)=false:=by simp [Int.mul_tmod_right]
 have e2:decide ((32*(P:Int))>1024)=false:=decide_eq_false (by omega)
 rw[e1,e2]
 simp only[cond_false]
 rw[Int.mul_tdiv_cancel_left _ (by decide),IntKind.wrap_i64];omega
theorem yY(n:Int):(Qbw n).w (λ_=>True):=by
 unfold Qbw
 exact w_br (λ_=>trivial) (λ_=>w_cn (decide_eq_true (by rw[IntKind.wrap_u64];omega)) trivial)
theorem Qus(w low n:Int):(Q8p w low n).w U:=by
 unfold Q8p
 exact w_br (λ_=>U_0) (λ_=>w_br (λ_=>U_0) (λ_=>w_br (λ_=>U_0) (λ_=>w_cn (decide_eq_true (by rw[IntKind.wrap_u64];omega)) (Q0e (yY n) λ_ _=>Zfc _ _))))
theorem Zjh{w:Int}(hw:U w)(low n v:Int):(Q5c w low n v).w U:=by
 have h0:decide (0<=IntKind.wrap IntKind.u64 low)=true:=decide_eq_true (by rw[IntKind.wrap_u64];omega)
 unfold Q5c
 exact w_br (λ_=>hw) (λ_=>w_br (λ_=>hw) (λ_=>w_br (λ_=>hw) (λ_=>Q0e (yY n) λ_ _=>w_cn h0 (w_cn h0 (U_or _ _)))))
theorem Qte{x:Int}(hx:U x)(n:Int):(Q3e x n).w U:=by
 have h0: ∀y,decide (0<=IntKind.wrap IntKind.u64 y)=true:=λy=>decide_eq_true (by rw[IntKind.wrap_u64];omega)
 unfold Q3e
 exact w_br (λ_=>U_0) (λ_=>w_br (λ_=>hx) (λ_=>w_cn (h0 _) (w_cn (h0 _) (Q0o _))))
section
variable {P:Nat} {m:List Int} (h:Q0y P m)
include h
theorem Q94:Q07 m:=by
 have:=h.len
 have:=h.p2
 show m.length<=35184372088832
 omega
theorem Ze5{a:Int}(ha:U a){size:Int}(hs:size=1\/size=4):(Q30 m a size).w (λb=>b=true->a+size<=128*P):=by
 have hp:=Z0c h
 have h2:=h.p2
 obtain⟨a1,a2⟩:=ha
 have e:decide (IntKind.wrap IntKind.u32 size≠0)=true:=by rcases hs with rfl|rfl<;>decide
 have l: ∀x,x=Q0q m->decide (IntKind.wrap IntKind.u64 (IntKind.wrap IntKind.u64 a+IntKind.wrap IntKind.u64 size)<=IntKind.wrap IntKind.u64 (IntKind.wrap IntKind.u64 x*128))=true->a+size<=128*P:=λx hx hd=>by
   rw[hx,hp]at hd
   have:=of_decide_eq_true hd
   simp only[IntKind.wrap_u64]at this
   omega
 unfold Q30
 refine w_br (λ_=>w_br (λ_=>λh=>by cases h) (λ_=> ?_)) (λ_=> ?_)<;>
 exact w_cn e (w_br (λ_=>λh=>by cases h) (λ_=>w_lv λx hx=>l x hx))
theorem idxP{a:Int}(ha:U a)(hl:a<128*P):(Nat.beq 1 1&&Nat.blt 0 1&&decide (0<=IntKind.wrap IntKind.u32 (Int.tdiv a 4)/\IntKind.wrap IntKind.u32 (Int.tdiv a 4)<(m.length:Int)))=true:=by
 obtain⟨a1,a2⟩:=ha
 have e:IntKind.wrap IntKind.u32 (Int.tdiv a 4)=a/4:=by rw[IntKind.wrap_u32,Int.tdiv_eq_ediv_of_nonneg a1];omega
 have:=h.len
 rw[e];simp [Nat.blt];omega
theorem Qpx{a:Int}(ha:U a){size:Int}(hs:size=1\/size=4):(Q6c m a size).w (λr=>U r.1/\(r.2=true->a<128*P)):=by
 unfold Q6c
 refine Q0e (Ze5 h ha hs) λx hx=>w_br (λ_=>⟨U_0,λh=>by cases h⟩) (λhb=> ?_)
 have hl:=hx (by simpa using hb)
 have hl:a<128*P:=by omega
 exact w_cn (idxP h ha hl) (w_br (λ_=>Q0e (Qus _ _ _) λy hy=>⟨hy,λ_=>hl⟩) (λ_=>⟨Qjp h.u _,λ_=>hl⟩))
theorem Qy9{a:Int}(ha:U a){size:Int}(hs:size=1\/size=4){v:Int}(hv:U v):(Q4t m a size v).w (λr=>Q0y P r.1):=by
 have st: ∀i v,U v->Q0y P (m.set i v):=λi v hv=>⟨by simp [h.len],h.p1,h.p2,Z2y h.u hv i⟩
 have hcl:Q03 m=m:=rfl
 unfold Q4t
 refine w_an (Q94 h) (w_lv λx0 hx0=> ?_)
 rw[hcl]at hx0;subst hx0
 refine Q0e (Ze5 h ha hs) λx hx=>w_br (λ_=>h) (λhb=> ?_)
 have hl:=hx (by simpa using hb)
 have hl:a<128*P:=by omega
 exact w_br (λ_=>w_cn (idxP h ha hl) (Q0e (Zjh (Qjp h.u _) _ _ _) λy hy=>w_cn (idxP h ha hl) (st _ _ hy))) (λ_=>w_cn (idxP h ha hl) (st _ _ hv))
end
theorem Zgs{r:Int}{used:Bool}(h:Q9 r used=true):0<=r/\r<16:=by
 simp only[Q9,Qel,Tree.m]at h
 cases used
 . have h:(r==0)=true:=h
   have:=eq_of_beq h;omega
 . cases h1:decide (r>=0)<;>rw[h1]at h
   . cases h
   . have h1:=of_decide_eq_true h1
     have h:=of_decide_eq_true h
     omega
theorem qu{i:Q0i}(h:Qeu i=true):Qex i:=by
 have no:false=true->Qex i:=λh=>by cases h
 refine(Tree.post (Qh6 i) (W:=λb=>b=true->Qex i) ?_) h
 unfold Qh6
 refine w_lv λx0 h0=>w_br (λ_=>w_lv λx1 h1=>w_br (λb1=>w_lv λx2 h2=>w_br (λb2=>w_lv λx3 h3=>w_br (λb3=>w_br (λb4=>λb5=> ?_) (λ_=>no)) (λ_=>no)) (λ_=>no)) (λ_=>no)) (λ_=>no)
 have b4:=of_decide_eq_true b4
 have b5:=of_decide_eq_true b5
 refine⟨Zgs (h1.symm.trans b1),Zgs (h2.symm.trans b2),Zgs (h3.symm.trans b3),λe=> ?_⟩
 rw[e]at h0
 have h0:x0=({a:=true,b:=false,c:=false,low:=0,D5:=7},true):=h0
 subst h0
 simp at b4 b5;omega
theorem Z00(w:Int):(Q7d w).w (λr=>r.2=true->Qex r.1):=by
 have no: ∀{p:Prop},false=true->p:=λh=>by cases h
 have l: ∀i,(Tree.lv (Qeu i) λx=> .br (!x) (.lf ((⟨0,0,0,0,0⟩:Q0i),false)) (.lf (i,true))).w (λr=>r.2=true->Qex r.1):=λi=>w_lv λx hx=>w_br (λ_=>no) (λhb=>λ_=>qu (hx.symm.trans (by simpa using hb)))
 unfold Q7d
 exact Q0e (Qus _ _ _) λx0 _=>Q0e (Qus _ _ _) λx1 _=>Q0e (Qus _ _ _) λx2 _=>w_lv λx3 _=>w_br (λ_=>no) (λ_=>Q0e (Qus _ _ _) λx4 h4=>w_br (λ_=>l _) (λ_=>w_br (λ_=>Q0e (Qte h4 _) λx6 _=>l _) (λ_=>l _)))
section
variable {P:Nat} {m:List Int} (h:Q0y P m)
include h
theorem zR{f:Int}(hf:U f):Qa7 m f=decide (f<P):=by
 have:=Z0c h
 obtain⟨h1,h2⟩:=hf
 have h3:=h.p2
 simp only[Qa7,Qh5,Tree.m,letv,this]
 congr 1
 rw[IntKind.wrap_u64,IntKind.wrap_u64,Int.emod_eq_of_lt h1 (by omega),Int.emod_eq_of_lt (by omega) (by omega)]
theorem zat{root va:Int}(hv:U va)(access:Int):(Q6 m root va access).w (λt=>U t.Addr/\U t.F1):=by
 have bad:U (0:Int)/\U (0:Int):=⟨U_0,U_0⟩
 have fr: ∀x,(Q4d x).w U:=λx=>by
   unfold Q4d
   exact Q0e (Qus _ _ _) λy hy=>hy
 unfold Q6
 exact w_lv λx0 _=>w_br (λ_=>bad) (λ_=>w_br (λ_=>bad) (λ_=>w_lv λx1 _=>w_br (λ_=>bad) (λ_=>Q0e (Qpx h (Q0o _) (.inr rfl)) λx2 _=>w_br (λ_=>bad) (λ_=>w_lv λx3 _=>w_br (λ_=>bad) (λ_=>Q0e (fr _) λx4 _=>w_lv λx5 _=>w_br (λ_=>bad) (λ_=>Q0e (fr _) λx6 _=>⟨Q0o _,Q0o _⟩))))))
theorem yR{a:Int}(ha:U a)(access:Int):(Q4z m a access).w (Q0y P):=by
 have hcl:Q03 m=m:=rfl
 unfold Q4z
 exact Q0e (Qpx h ha (.inr rfl)) λx0 _=>w_br (λ_=>w_an (Q94 h) (w_lv λx1 h1=>by rw[h1,hcl];exact h)) (λ_=>w_br (λ_=>Q0e (Qy9 h ha (.inr rfl) (U_or _ _)) λx hx=>hx) (λ_=>Q0e (Qy9 h ha (.inr rfl) (U_or _ _)) λx hx=>hx))
theorem Qkg{c:Q02}{va:Int}(hv:U va){size:Int}(hs:size=1\/size=4)(access:Int):(Q67 c m va size access).w (λr=>U r.1/\Q0y P r.2.1):=by
 have hcl:Q03 m=m:=rfl
 have e:decide (IntKind.wrap IntKind.u32 size≠0)=true:=by rcases hs with rfl|rfl<;>decide
 have cl: ∀(K:List Int->Int×List Int×Int),(∀x,x=m->U (K x).1/\Q0y P (K x).2.1)->(Tree.an (Q07 m) (.lv (Q03 m) λx=> .lf (K x))).w (λr=>U r.1/\Q0y P r.2.1):=λK hK=>w_an (Q94 h) (w_lv λx hx=>hK x (hx.trans hcl))
 have z: ∀(k:Nat) (x:List Int),x=m->U (0:Int)/\Q0y P x:=λ_ x hx=>⟨U_0,hx▸h⟩
 have v: ∀x,x=m->U va/\Q0y P x:=λx hx=>⟨hv,hx▸h⟩
 have main: ∀(x0:Int×Bool),(Tree.cn (decide (IntKind.wrap IntKind.u32 size≠0)) (.br (Int.tmod va (IntKind.wrap IntKind.u32 size) !=0) (.an (Q07 m) (.lv (Q03 m) λx3=> .lf ((0:Int),x3,(3:Int)))) (.lv (Qc3 c) λx4=> .br (!x4) (.br (iand IntKind.u32 c.B4.a0 4 !=0) (.an (Qde m c.B4.a6 va access) (.lv (Qic m c.B4.a6 va access) λx5=> .br (x5.E0 !=0) (.an (Q07 m) (.lv (Q03 m) λx6=> .lf (0,x6,x5.E0))) (.an (Qba m x5.F1 access) (.lv (Qc4 m x5.F1 access) λx7=> .lf (x5.Addr,x7,0))))) (.an (Q32 m va size) (.lv (Q4f m va size) λx8=> .br (!x8.2) (.an (Q07 m) (.lv (Q03 m) λx9=> .lf (0,x9,x0.1))) (.an (Q07 m) (.lv (Q03 m) λx10=> .lf (va,x10,0)))))) (.an (Q32 m va size) (.lv (Q4f m va size) λx11=> .br (!x11.2) (.an (Q07 m) (.lv (Q03 m) λx12=> .lf (0,x12,x0.1))) (.an (Q07 m) (.lv (Q03 m) λx13=> .lf (va,x13,0)))))))).w (λr=>U r.1/\Q0y P r.2.1):=λx0=>
   w_cn e (w_br (λ_=>cl _ (z 0)) (λ_=>w_lv λx4 _=>w_br (λ_=>w_br (λ_=>Q0e (zat h hv access) λx5 hx=>w_br (λ_=>cl _ (z 0)) (λ_=>Q0e (yR h hx.2 access) λx7 h7=>⟨hx.1,h7⟩)) (λ_=>Q0e (Qpx h hv hs) λx8 _=>w_br (λ_=>cl _ (z 0)) (λ_=>cl _ v))) (λ_=>Q0e (Qpx h hv hs) λx8 _=>w_br (λ_=>cl _ (z 0)) (λ_=>cl _ v))))
 unfold Q67
 exact w_lv λx0 _=>w_br (λ_=>cl _ (z 0)) (λ_=>w_br (λ_=>w_br (λ_=>cl _ (z 0)) (λ_=>main x0)) (λ_=>main x0))
theorem Za{c:Q02}(hc:Q2i c):(Qc1 c m).w (λr=>U r.1/\Q0y P r.2.1):=by
 unfold Qc1
 exact Q0e (Qkg h hc.pc (.inr rfl) 1) λx0 h0=>w_br (λ_=>⟨U_0,h0.2⟩) (λ_=>Q0e (Qpx h0.2 h0.1 (.inr rfl)) λx1 h1=>⟨h1.1,h0.2⟩)
end
theorem xat{s a b:Int}:U (Q8l s a b):=by
 refine Tree.post (Qo7 s a b) (W:=U) ?_
 unfold Qo7
 exact w_br (λ_=>Q0o _) (λ_=>Q0o _)
section
variable {c:Q02} (h:Q2i c)
include h
theorem Qqs(k:Int){b:Int}(hb:U b):Q2i (Q47 c k b):=by
 refine(Tree.post (Qjx c k b) (W:=Q2i) ?_)
 unfold Qjx
 refine w_lv λ_ _=>w_lv λ_ _=>⟨h.x,h.a1,?_⟩
 intro w hw
 simp only[A8.l,List.mem_cons,List.not_mem_nil,or_false]at hw
 rcases hw with rfl|rfl|rfl|rfl|rfl|rfl|rfl|rfl
 . exact Q0o _
 . exact h.a1
 . exact h.pc
 . exact Q0o _
 . exact hb
 . exact h.a5
 . exact h.a6
 . exact h.a7
theorem xu:Q2i (Qdx c):=by
 refine(Tree.post (Qf2 c) (W:=Q2i) ?_)
 unfold Qf2
 refine w_lv λx0 _=>w_lv λx1 h1=>⟨h.x,h.a2,?_⟩
 intro w hw
 simp only[A8.l,List.mem_cons,List.not_mem_nil,or_false]at hw
 rcases hw with rfl|rfl|rfl|rfl|rfl|rfl|rfl|rfl
 . rw[h1];exact xat
 . exact h.a1
 . exact h.a2
 . exact h.a3
 . exact h.a4
 . exact h.a5
 . exact h.a6
 . exact h.a7
theorem Qp1{r:Int}(hr:0<=r/\r<16){v:Int}(hv:U v):(Q8r c r v).w Q2i:=by
 unfold Q8r
 exact w_br (λ_=>w_cn (rc hr) ⟨Zfq h.x hv _,h.pc,h.csr⟩) (λ_=>h)
theorem Zj8(k:Int){v:Int}(hv:U v):(Q7u c k v).w Q2i:=by
 have ok: ∀i v,U v->Q2i {X:=c.X,Pc:=c.Pc,B4:=A8.of 0 (List.set (A8.l c.B4) i v)}:=λi v hv=>⟨h.x,h.pc,Zb7 h.csr hv i⟩
 unfold Q7u
 repeat'(first
   |exact h
   |exact ok _ _ (Q0o _)
   |exact ok _ _ hv
   |refine w_br (λhk=> ?_) (λ_=> ?_)
   |refine w_cn (by rw[eq_of_beq (by assumption:(k==_)=true)];decide) ?_)
end
theorem Zdc{a b:Int}(ha:U a)(hb:U b):(Q62 a b).w (λr=>U r.1/\U r.2):=by
 have u1:U 4294967295:=⟨by omega,by omega⟩
 unfold Q62
 refine w_br (λ_=>⟨u1,ha⟩) (λh=> ?_)
 have h: ¬b=0:=by simpa using h
 obtain⟨b1,b2⟩:=hb
 have hc:decide (IntKind.wrap IntKind.i32 b≠0)=true:=decide_eq_true (by rw[IntKind.wrap_i32];omega)
 exact w_br (λ_=>w_br (λ_=>⟨ha,U_0⟩) (λ_=>w_cn hc (w_cn hc ⟨Q0o _,Q0o _⟩))) (λ_=>w_cn hc (w_cn hc ⟨Q0o _,Q0o _⟩))
theorem qau(b:Bool):U (Qnc b):=by cases b<;>exact⟨by decide,by decide⟩
theorem Z66(op:Int){a b:Int}(ha:U a)(hb:U b):(Qgv op a b).w (λr=>U r.1):=by
 unfold Qgv
 repeat'(first
   |refine w_br (λ_=> ?_) (λ_=> ?_)
   |exact Q0e (Zdc ha hb) λx hx=>hx.1
   |exact Q0e (Zdc ha hb) λx hx=>hx.2
   |exact w_lv λx hx=>(by rw[hx];exact qau _)
   |refine w_lf ?_)
 all_goals(first
   |exact Q0o _
   |exact Qtl ha _
   |exact U_0)
theorem Z9b(op:Int):Qff op=1\/Qff op=4:=by
 simp only[Qff,Qq0,Tree.m]
 cases op==32<;>cases op==35<;>simp
section
variable {c:Q02} (h:Q2i c) {i:Q0i} (hi:Qex i)
include h hi
theorem Zm4:(Q35 c i).w (λr=>Q2i r.1/\U r.2.Value):=by
 have k: ∀{x:Q02} {p:Int},Q2i x->U p->Q2i {X:=x.X,Pc:=p,B4:=x.B4}:=λhx hp=>⟨hx.x,hp,hx.csr⟩
 unfold Q35
 refine w_cn (rc hi.a) (w_cn (rc hi.b) ?_)
 repeat'(first
   |refine w_br (λ_=> ?_) (λ_=> ?_)
   |exact Q0e (Qp1 h hi.a (Q0o _)) λx hx=>⟨k hx (Q0o _),U_0⟩
   |exact w_lv λx _=>w_br (λ_=>⟨k h (Q0o _),U_0⟩) (λ_=>⟨k h (Q0o _),U_0⟩)
   |exact w_lv λx hx=>⟨by rw[hx];exact Qqs h _ U_0,U_0⟩
   |exact w_lv λx hx=>⟨by rw[hx];exact xu h,U_0⟩
   |exact w_cn (by have:=hi.csr (by simp_all);simp [Nat.blt];omega) (Q0e (Qp1 h hi.a (h.a _)) λx hx=>⟨k hx (Q0o _),U_0⟩)
   |exact Q0e (Zj8 h _ (h.r _)) λx hx=>⟨k hx (Q0o _),U_0⟩
   |refine w_cn (rc hi.c) ?_
   |exact Q0e (Z66 _ (h.r _) (Q0o _)) λy hy=>Q0e (Qp1 h hi.a hy) λx hx=>⟨k hx (Q0o _),U_0⟩
   |exact Q0e (Z66 _ (h.r _) (h.r _)) λy hy=>Q0e (Qp1 h hi.a hy) λx hx=>⟨k hx (Q0o _),U_0⟩
   |refine w_lf ?_)
 all_goals(first
   |exact⟨k h (Q0o _),U_0⟩
   |exact⟨k h (Q0o _),h.r _⟩)
theorem Z0m{P:Nat}{m:List Int}(hm:Q0y P m):(Qa1 c m i).w (λr=>Q2i r.1/\Q0y P r.2):=by
 have w:=Z9b i.Op
 unfold Qa1
 refine w_cn (rc hi.b) (w_lv λx0 h0=> ?_)
 rw[<-h0]at w
 refine Q0e (Qkg hm (Q0o _) w 2) λx1 h1=>w_br (λ_=>w_lv λy hy=>⟨by rw[hy];exact Qqs h _ (Q0o _),h1.2⟩) (λ_=>w_lv λx3 h3=> ?_)
 rw[h0,<-h3]at w
 exact Q0e (Qpx h1.2 h1.1 w) λx4 h4=>w_br (λ_=>Q0e (Qte h4.1 8) λy hy=>Q0e (Qp1 h hi.a hy) λx hx=>⟨⟨hx.x,Q0o _,hx.csr⟩,h1.2⟩) (λ_=>Q0e (Qp1 h hi.a h4.1) λx hx=>⟨⟨hx.x,Q0o _,hx.csr⟩,h1.2⟩)
theorem Qvp{P:Nat}{m:List Int}(hm:Q0y P m):(Q7e c m i).w (λr=>Q2i r.1/\Q0y P r.2):=by
 have w:=Z9b i.Op
 unfold Q7e
 refine w_cn (rc hi.b) (w_lv λx0 h0=> ?_)
 rw[<-h0]at w
 refine Q0e (Qkg hm (Q0o _) w 3) λx1 h1=>w_br (λ_=>w_lv λy hy=>⟨by rw[hy];exact Qqs h _ (Q0o _),h1.2⟩) (λ_=>w_lv λx3 h3=>w_cn (rc hi.a) ?_)
 rw[h0,<-h3]at w
 exact Q0e (Qy9 h1.2 h1.1 w (h.r _)) λx hx=>⟨⟨h.x,Q0o _,h.csr⟩,hx⟩
end
theorem zau{c:Q02}(h:Q2i c){P:Nat}{m:List Int}(hm:Q0y P m):(Q70 c m).w (λr=>Q2i r.1/\Q0y P r.2.1/\U r.2.2.Value):=by
 unfold Q70
 refine Q0e (Za hm h) λx0 h0=>w_br (λ_=>w_lv λy hy=>⟨by rw[hy];exact Qqs h _ h.pc,h0.2,U_0⟩) (λ_=>Q0e (Z00 _) λx2 h2=>w_br (λ_=>w_lv λy hy=>⟨by rw[hy];exact Qqs h _ h0.1,h0.2,U_0⟩) (λhb=> ?_))
 have hi:=h2 (by simpa using hb)
 refine w_lv λx4 _=> ?_
 repeat'(first
   |refine w_br (λ_=> ?_) (λ_=> ?_)
   |exact Q0e (Z0m h hi h0.2) λx hx=>⟨hx.1,hx.2,U_0⟩
   |exact Q0e (Qvp h hi h0.2) λx hx=>⟨hx.1,hx.2,U_0⟩
   |exact Q0e (Zm4 h hi) λx hx=>⟨hx.1,h0.2,hx.2⟩
   |exact w_lv λy hy=>⟨by rw[hy];exact Qqs h _ h0.1,h0.2,U_0⟩
   |refine w_lv λ_ _=> ?_)
theorem Zi7{a:Int}(h:U a)(k:Nat)(hk:k<=32):0<=ishr .u32 a k/\ishr .u32 a k*2^k<=a:=by
 obtain⟨h1,h2⟩:=h
 unfold ishr
 have e:min (k:Int).toNat IntKind.u32.bits=k:=by show min (k:Int).toNat 32=k;omega
 have hp:(0:Int)<2^k:=Int.pow_pos (by decide)
 rw[e,Int.fdiv_eq_ediv_of_nonneg _ (Int.le_of_lt hp)]
 exact⟨Int.ediv_nonneg h1 (Int.le_of_lt hp),Int.ediv_mul_le a (Int.ne_of_gt hp)⟩
theorem Ziy(x:Int):0<=IntKind.u8.wrap x/\IntKind.u8.wrap x<256:=by rw[IntKind.wrap_u8];omega
theorem xau{x:Int}(h:U x):(Q1o x).w (λ_=>True):=by
 have s16:=Zi7 h 16 (by omega)
 have s8:=Zi7 h 8 (by omega)
 have s24:=Zi7 (Qtl h 16) 8 (by omega)
 obtain⟨h1,h2⟩:=h
 unfold Q1o
 repeat'(first
   |refine w_br (λ_=> ?_) (λ_=> ?_)
   |refine w_cn (decide_eq_true ⟨?_,Int.lt_of_lt_of_le (b:=256) ?_ (Int.le_of_eq (by kernel_rfl))⟩) ?_
   |exact trivial
   |refine w_lf ?_)
 all_goals(first
   |trivial
   |exact(Ziy _).1
   |exact(Ziy _).2
   |(simp only[decide_eq_true_eq,decide_eq_false_iff_not]at*;simp at s16 s8 s24;omega))
theorem and255(a:Int):iand .u32 a 255<256:=by
 unfold iand
 rw[IntKind.wrap_u32]
 have:(BitVec.ofInt IntKind.u32.bits a&&&BitVec.ofInt IntKind.u32.bits 255).toNat<=255:=by
   show(BitVec.ofInt 32 a&&&BitVec.ofInt 32 255).toNat<=255
   rw[BitVec.toNat_and]
   exact Nat.le_trans Nat.and_le_right (by decide)
 omega
theorem xaJ{x:Int}(h:U x):(Q1x x).w (λ_=>True):=by
 have s24:=Zi7 h 24 (by omega)
 obtain⟨h1,h2⟩:=h
 have i24:ishr .u32 x 24<256:=by simp at s24;omega
 unfold Q1x
 repeat'(first
   |refine w_cn (decide_eq_true ⟨?_,Int.lt_of_lt_of_le (b:=256) ?_ (Int.le_of_eq (by kernel_rfl))⟩) ?_
   |exact trivial
   |refine w_lf ?_)
 all_goals(first
   |trivial
   |exact(Q0o _).1
   |exact s24.1
   |exact i24
   |exact and255 _)
structure okS(P:Nat)(m:Q01):Prop where
 cpu:Q2i m.B2
 mem:Q0y P m.Mem
 disk:Q8j m.B1
 nic:Qih m.C4
 target:U m.A1.C8
 given:U m.A1.C2
theorem Zhw{b:Q05}(h:U b.C2):(Q56 b).w (λ_=>True):=by
 unfold Q56
 exact Q0e (xaJ h) λ_ _=>trivial
theorem vY{m:Q01}(h:U m.A1.C2):(Q4m m).w (λ_=>True):=by
 have b: ∀x,(Q3s m.A1 x).w (λ_=>True):=λx=>by
   unfold Q3s
   exact Q0e (xau h) λ_ _=>trivial
 have d:(Q1m m).w (λ_=>True):=by
   unfold Q1m
   exact w_lv λ_ _=>w_lv λ_ _=>w_br (λ_=>w_lv λ_ _=>w_br (λ_=>w_lv λ_ _=>w_br (λ_=>w_lv λ_ _=>w_br (λ_=>Q0e (b _) λ_ _=>trivial) (λ_=>trivial)) (λ_=>trivial)) (λ_=>trivial)) (λ_=>trivial)
 unfold Q4m
 repeat'(first
   |refine w_br (λ_=> ?_) (λ_=> ?_)
   |exact Q0e d λ_ _=>trivial
   |refine w_lv λ_ _=> ?_
   |exact trivial)
theorem vR{m:Q01}(h:U m.A1.C2):(Q42 m).w (λ_=>True):=by
 have p:(Q2r m.A1).w (λ_=>True):=by
   unfold Q2r
   exact Q0e (Zhw h) λ_ _=>trivial
 unfold Q42
 refine w_lv λx0 _=>w_lv λx1 _=>w_lv λx2 _=>w_lv λx3 _=>Q0e p λx4 _=>w_lp (inv:=λz=>0<=z.2/\z.2<=5) (μ:=Qi9 m) ⟨by omega,by omega⟩ (Nat.lt_succ_self _) (λz hz=> ?_)
 obtain⟨z1,z2⟩:=hz
 have ew:z.2<5->IntKind.i64.wrap (z.2+1)=z.2+1:=λ_=>by rw[IntKind.wrap_i64];omega
 refine w_br (λhb=> ?_) (λ_=>trivial)
 have hb:=of_decide_eq_true hb
 have nx:(0<=IntKind.i64.wrap (z.2+1)/\IntKind.i64.wrap (z.2+1)<=5)/\(5-IntKind.i64.wrap (z.2+1)).toNat<(5-z.2).toNat:=by rw[ew hb];omega
 refine w_cn (by simp;omega) (w_br (λ_=>w_cn (decide_eq_true z1) (w_nx nx)) (λ_=>w_nx nx))
theorem Z6f{m:Q01}(h:U m.A1.C2):(Q2s m).w U:=by
 unfold Q2s
 exact Q0e (vR h) λ_ _=>Zfc _ _
theorem qav{m:Q01}(h:U m.A1.C2):(Q3q m).w (λ_=>True):=by
 have i:(Q4u m).w (λ_=>True):=by
   unfold Q4u
   exact w_br (λ_=>Q0e (Z6f h) λ_ _=>trivial) (λ_=>trivial)
 unfold Q3q
 exact Q0e (vY h) λ_ _=>w_br (λ_=>w_br (λ_=>Q0e i λ_ _=>w_br (λ_=>trivial) (λ_=>trivial)) (λ_=>trivial)) (λ_=>trivial)
theorem Qeg{P:Nat}{m:List Int}(h:Q0y P m):Q3l m=P:=by
 obtain⟨h1,h2,h3,_⟩:=h
 simp only[Q3l,Qn4,Tree.m]
 have e:(m.length:Int)=32*P:=by omega
 rw[e]
 have e1:(Int.tmod (32*(P:Int)) 32 !=0)=false:=by simp [Int.mul_tmod_right]
 have e2:decide ((32*(P:Int))>1024)=false:=decide_eq_false (by omega)
 rw[e1,e2]
 simp only[cond_false]
 rw[Int.mul_tdiv_cancel_left _ (by decide),IntKind.wrap_i64];omega
theorem Qkt{P:Nat}{m:List Int}(h:Q0y P m){f:Int}(hf:U f):Q1z m f=decide (f<P):=by
 have:=Qeg h
 obtain⟨h1,h2⟩:=hf
 have h3:=h.p2
 simp only[Q1z,Qgx,Tree.m,letv,this]
 congr 1
 rw[IntKind.wrap_u64,IntKind.wrap_u64,Int.emod_eq_of_lt h1 (by omega),Int.emod_eq_of_lt (by omega) (by omega)]
theorem qZ{P:Nat}{m:List Int}(h:Q0y P m):(Qe m).w (λr=>r=m):=by
 obtain⟨h1,h2,h3,_⟩:=h
 unfold Qe
 refine w_cn ?_ ?_
 . simp [Nat.blt,D.plain];omega
 . show _=_
   simp
theorem put_w{P:Nat}{m:List Int}(h:Q0y P m){addr size v:Int}(ha:U addr)(hl:addr<4*m.length)(hv:U v):(Qe5 m addr size v).w (Q0y P):=by
 obtain⟨h1,h2,h3,h4⟩:=h
 obtain⟨a1,a2⟩:=ha
 have e:IntKind.wrap IntKind.u32 (Int.tdiv addr 4)=addr/4:=by rw[IntKind.wrap_u32,Int.tdiv_eq_ediv_of_nonneg a1];omega
 have hc:(Nat.beq 1 1&&Nat.blt 0 1&&decide (0<=IntKind.wrap IntKind.u32 (Int.tdiv addr 4)/\IntKind.wrap IntKind.u32 (Int.tdiv addr 4)<(m.length:Int)))=true:=by
   rw[e];simp [Nat.blt];omega
 have h0: ∀x,decide (0<=IntKind.wrap IntKind.u32 x)=true:=λx=>decide_eq_true (Q0o x).1
 have hs: ∀i v,U v->Q0y P (m.set i v):=λi v hv=>⟨by simp [h1],h2,h3,Z2y h4 hv i⟩
 unfold Qe5
 exact w_br (λ_=>w_cn hc (hs _ _ hv)) (λ_=>w_cn hc (w_cn (h0 _) (w_cn (h0 _) (w_cn hc (hs _ _ (U_or _ _))))))
theorem xZ{P:Nat}{m:List Int}(h:Q0y P m){frame:Int}(f0:0<=frame)(f1:frame<P)(s:List UInt8):(Q9d m frame s).w (Q0y P):=by
 unfold Q9d
 have h3:=h.p2
 refine w_lp (inv:=λz=>0<=z.1/\z.1<=128/\Q0y P z.2) (μ:=Qhw m frame s) ⟨by omega,by omega,h⟩ (Nat.lt_succ_self _) (λv0 hv0=> ?_)
 obtain⟨i0,i1,hm⟩:=hv0
 refine w_br (λh1=>w_br (λh2=>w_cn ?_ ?_) (λ_=>hm)) (λ_=>hm)
 . have:=of_decide_eq_true h1
   simp [Nat.blt];omega
 . have h2:=of_decide_eq_true h2
   have e:IntKind.wrap IntKind.u32 (IntKind.wrap IntKind.i64 (IntKind.wrap IntKind.i64 (frame*128)+v0.1))=frame*128+v0.1:=by
     rw[IntKind.wrap_u32,IntKind.wrap_i64,IntKind.wrap_i64];omega
   rw[e]
   obtain⟨g1,g2⟩:=Tree.pp (put_w hm (size:=1) (addr:=frame*128+v0.1) ⟨by omega,by omega⟩ (by rw[hm.len];omega) (Q0o (UInt8.toNat (s.getD v0.1.toNat 0))))
   refine w_an g1 (w_lv λx0 hx0=> ?_)
   rw[hx0]
   have ew:IntKind.i64.wrap (v0.1+1)=v0.1+1:=by rw[IntKind.wrap_i64];omega
   refine w_nx ?_
   show(0<=IntKind.i64.wrap (v0.1+1)/\IntKind.i64.wrap (v0.1+1)<=128/\Q0y P _)/\(128-IntKind.i64.wrap (v0.1+1)).toNat<(128-v0.1).toNat
   rw[ew]
   exact⟨⟨by omega,by omega,g2⟩,by omega⟩
theorem Zil{P:Nat}{m:List Int}(h:Q0y P m){d:Q0d}(hd:Q8j d)(e:Q08):(Qaa d m e).w (λr=>Q8j r.1/\Q0y P r.2.2):=by
 have fl:Q1z m d.B3=true->(Q9d m (IntKind.i64.wrap d.B3) e.C6).w (Q0y P):=λhp=>by
   rw[Qkt h hd.opFrame]at hp
   have:=of_decide_eq_true hp
   have h1:=hd.opFrame.1
   have h3:=h.p2
   have ew:IntKind.i64.wrap d.B3=d.B3:=by rw[IntKind.wrap_i64];omega
   rw[ew]
   exact xZ h h1 this _
 have l0:Q8j d/\Q0y P m:=⟨hd,h⟩
 have l1: ∀st,Q8j {Blocks:=d.Blocks,C1:=d.C1,Frame:=d.Frame,C0:=st,D7:=0,B5:=0,B3:=0,C3:=[]}:=λst=>⟨hd.block,hd.frame,U_0,U_0⟩
 unfold Qaa
 repeat'(first
   |exact l0
   |exact⟨l1 _,h⟩
   |refine w_br (λ_=> ?_) (λ_=> ?_)
   |refine w_lv (λ_ _=> ?_))
 all_goals(
   first
     | (have hp:Q1z m d.B3=true:=by simp_all
        obtain⟨g1,g2⟩:=Tree.pp (fl hp)
        refine w_an g1 (w_lv λx hx=> ?_)
        rw[hx]
        exact w_br (λ_=>⟨l1 _,g2⟩) (λ_=>⟨l1 _,g2⟩))
     |(exfalso;simp_all;done))
section
variable {c:Q02} (h:Q2i c)
include h
theorem Qyw(k:Int){b:Int}(hb:U b):Q2i (Q2m c k b):=by
 refine(Tree.post (Qhk c k b) (W:=Q2i) ?_)
 unfold Qhk
 refine w_lv λ_ _=>w_lv λ_ _=>⟨h.x,h.a1,?_⟩
 intro w hw
 simp only[A8.l,List.mem_cons,List.not_mem_nil,or_false]at hw
 rcases hw with rfl|rfl|rfl|rfl|rfl|rfl|rfl|rfl
 . exact U_or _ _
 . exact h.a1
 . exact h.pc
 . exact Q0o _
 . exact hb
 . exact h.a5
 . exact h.a6
 . exact h.a7
theorem qS:Q2i (Qhu c):=by
 refine(Tree.post (Qd8 c) (W:=Q2i) ?_)
 unfold Qd8
 refine w_lv λ_ _=>w_lv λ_ _=>⟨h.x,h.a2,?_⟩
 intro w hw
 simp only[A8.l,List.mem_cons,List.not_mem_nil,or_false]at hw
 rcases hw with rfl|rfl|rfl|rfl|rfl|rfl|rfl|rfl
 . exact U_or _ _
 . exact h.a1
 . exact h.a2
 . exact h.a3
 . exact h.a4
 . exact h.a5
 . exact h.a6
 . exact h.a7
theorem Z39(r:Int){v:Int}(hv:U v):(Qdp c r v).w Q2i:=by
 unfold Qdp
 refine w_br (λh1=>w_br (λh2=>w_cn ?_ ⟨Zfq h.x hv _,h.pc,h.csr⟩) (λ_=>h)) (λ_=>h)
 have h1:=of_decide_eq_true h1
 have h2:=of_decide_eq_true h2
 simp [Nat.blt];omega
theorem zav(k:Int){v:Int}(hv:U v):(Qc8 c k v).w Q2i:=by
 have ok: ∀i v,U v->Q2i {X:=c.X,Pc:=c.Pc,B4:=A8.of 0 (List.set (A8.l c.B4) i v)}:=λi v hv=>⟨h.x,h.pc,Zb7 h.csr hv i⟩
 unfold Qc8
 repeat'(first
   |exact h
   |exact ok _ _ (Q0o _)
   |exact ok _ _ hv
   |refine w_br (λhk=> ?_) (λ_=> ?_)
   |refine w_cn (by rw[eq_of_beq (by assumption:(k==_)=true)];decide) ?_)
end
section
variable {P:Nat} {m:List Int} (h:Q0y P m)
include h
theorem Z78(a:Int){size:Int}(hs:size=1\/size=4):(Q7n m a size).w (λb=>b=true->a<128*P):=by
 have hp:=Qeg h
 have h2:=h.p2
 have e:decide (IntKind.wrap IntKind.u32 size≠0)=true:=by rcases hs with rfl|rfl<;>decide
 have l: ∀x,x=Q3l m->decide (a<IntKind.wrap IntKind.u32 (IntKind.wrap IntKind.i64 (128*x)))=true->a<128*P:=λx hx hd=>by
   rw[hx,hp,IntKind.wrap_u32,IntKind.wrap_i64]at hd
   have:=of_decide_eq_true hd
   omega
 unfold Q7n
 refine w_br (λ_=>w_br (λ_=>λh=>by cases h) (λ_=> ?_)) (λ_=> ?_)<;>
 exact w_cn e (w_br (λ_=>w_lv λx hx=>l x hx) (λ_=>λh=>by cases h))
theorem idx{a:Int}(ha:U a)(hl:a<128*P):(Nat.beq 1 1&&Nat.blt 0 1&&decide (0<=IntKind.wrap IntKind.u32 (Int.tdiv a 4)/\IntKind.wrap IntKind.u32 (Int.tdiv a 4)<(m.length:Int)))=true:=by
 obtain⟨a1,a2⟩:=ha
 have e:IntKind.wrap IntKind.u32 (Int.tdiv a 4)=a/4:=by rw[IntKind.wrap_u32,Int.tdiv_eq_ediv_of_nonneg a1];omega
 have:=h.len
 rw[e];simp [Nat.blt];omega
theorem Zay{a:Int}(ha:U a){size:Int}(hs:size=1\/size=4):(Q6l m a size).w (λr=>U r.1):=by
 obtain⟨g1,g2⟩:=Tree.pp (Z78 h a hs)
 unfold Q6l
 refine w_an g1 (w_lv λx hx=>w_br (λ_=>U_0) (λhb=> ?_))
 have hb:x=true:=by simpa using hb
 have hl:=g2 (hx.symm.trans hb)
 refine w_cn (idx h ha hl) (w_br (λ_=>w_cn (decide_eq_true (Q0o _).1) (Q0o _)) (λ_=>Qjp h.u _))
theorem qaK{a:Int}(ha:U a)(access:Int):(Qe9 m a access).w (Q0y P):=by
 obtain⟨g1,g2⟩:=Tree.pp (Z78 h a (size:=4) (.inr rfl))
 have hs: ∀{m:List Int} i v,Q0y P m->U v->Q0y P (m.set i v):=λi v h hv=>⟨by simp [h.len],h.p1,h.p2,Z2y h.u hv i⟩
 unfold Qe9
 refine w_an g1 (w_lv λx hx=>w_br (λ_=>h) (λhb=> ?_))
 have hb:x=true:=by simpa using hb
 have hl:=g2 (hx.symm.trans hb)
 have i0:=idx h ha hl
 have h':=hs (Int.toNat (IntKind.wrap IntKind.u32 (Int.tdiv a 4))) (ior IntKind.u32 (m.getD (Int.toNat (IntKind.wrap IntKind.u32 (Int.tdiv a 4))) 0) 8) h (U_or _ _)
 have i1:=idx h' ha hl
 exact w_cn i0 (w_cn i0 (w_br (λ_=>w_cn i1 (w_cn i1 (hs _ _ h' (U_or _ _)))) (λ_=>h')))
theorem zZ{root va:Int}(hr:U root)(hv:U va)(access:Int):(Q9f m root va access).w (λt=>U t.Addr/\U t.F1/\(t.E0=0->t.Addr<128*P)):=by
 have hp:=Qeg h
 have h2:=h.p2
 have hlen:=h.len
 obtain⟨r1,r2⟩:=hr
 obtain⟨v1,v2⟩:=hv
 unfold Q9f
 refine w_lv λx0 hx0=>w_lv λx1 hx1=>w_lv λx2 _=> ?_
 have hc:x0≠0:=by
   rw[hx0]
   simp only[Q39,Q8a,Tree.m]
   cases access==1<;>cases access==3<;>simp
 rw[hp]at hx1
 have bad:U (0:Int)/\U (0:Int)/\(x0=0->(0:Int)<128*P):=⟨U_0,U_0,λe=>absurd e hc⟩
 refine w_br (λ_=>bad) (λ_=>w_br (λ_=>bad) (λhva=>w_br (λ_=>bad) (λhro=> ?_)))
 have hva:=of_decide_eq_false hva
 have hro:=of_decide_eq_false hro
 have e1:IntKind.wrap IntKind.u32 x1=P:=by rw[hx1,IntKind.wrap_u32];omega
 rw[e1]at hro
 have e2:IntKind.wrap IntKind.u32 (IntKind.wrap IntKind.u32 (root*128)+IntKind.wrap IntKind.u32 (4*IntKind.wrap IntKind.u32 (Int.tdiv va 128)))=root*128+4*(va/128):=by
   rw[Int.tdiv_eq_ediv_of_nonneg v1,IntKind.wrap_u32,IntKind.wrap_u32,IntKind.wrap_u32,IntKind.wrap_u32];omega
 have hU:U (IntKind.wrap IntKind.u32 (IntKind.wrap IntKind.u32 (root*128)+IntKind.wrap IntKind.u32 (4*IntKind.wrap IntKind.u32 (Int.tdiv va 128)))):=Q0o _
 have ci:=idx h hU (by rw[e2];omega)
 have good: ∀w:Int,decide (iand IntKind.u32 w 255>=IntKind.wrap IntKind.u32 x1)=false->(U (IntKind.wrap IntKind.u32 (IntKind.wrap IntKind.u32 (iand IntKind.u32 w 255*128)+Int.tmod va 128))/\U (IntKind.wrap IntKind.u32 (IntKind.wrap IntKind.u32 (root*128)+IntKind.wrap IntKind.u32 (4*IntKind.wrap IntKind.u32 (Int.tdiv va 128))))/\((0:Int)=0->IntKind.wrap IntKind.u32 (IntKind.wrap IntKind.u32 (iand IntKind.u32 w 255*128)+Int.tmod va 128)<128*P)):=λw hw=>by
   have hw:=of_decide_eq_false hw
   rw[e1]at hw
   have hn:=(Zfc w 255).1
   refine⟨Q0o _,Q0o _,λ_=> ?_⟩
   rw[Int.tmod_eq_emod_of_nonneg v1,IntKind.wrap_u32,IntKind.wrap_u32]
   generalize iand IntKind.u32 w 255=q at*
   omega
 refine w_cn ci ?_
 repeat'(first
   |exact bad
   |exact good _ (by assumption)
   |refine w_br (λ_=> ?_) (λ_=> ?_)
   |refine w_cn ci ?_)
theorem Z7b{c:Q02}(hc:Q2i c){va:Int}(hv:U va){size:Int}(hs:size=1\/size=4)(access:Int):(Q8x c m va size access).w (λr=>Q0y P r.2.2/\U r.1/\(r.2.1=0->r.1<128*P)):=by
 have e:decide (IntKind.wrap IntKind.u32 size≠0)=true:=by rcases hs with rfl|rfl<;>decide
 obtain⟨g1,g2⟩:=Tree.pp (Z78 h va hs)
 obtain⟨k1,k2⟩:=Tree.pp (zZ h hc.a6 hv access)
 have bad: ∀k:Int,k≠0->Q0y P m/\U (0:Int)/\(k=0->(0:Int)<128*P):=λk hk=>⟨h,U_0,λe=>absurd e hk⟩
 have hca:Q39 access≠0:=by
   simp only[Q39,Q8a,Tree.m]
   cases access==1<;>cases access==3<;>simp
 unfold Q8x
 refine w_lv λx0 _=>w_br (λ_=>bad 5 (by decide)) (λ_=>w_br (λh1=>w_br (λh2=> ?_) (λ_=> ?_)) (λ_=> ?_))
 . exact bad 5 (by decide)
 all_goals(
   refine w_cn e (w_br (λ_=>bad 3 (by decide)) (λ_=>w_lv λx1 _=>w_br (λ_=>w_an g1 (w_lv λx2 hx2=>w_br (λ_=>w_lv λx3 hx3=>bad x3 (by rw[hx3];exact hca)) (λhb=> ?_))) (λ_=>w_an k1 (w_lv λx4 hx4=>w_br (λhb=> ?_) (λhb=> ?_)))))
   . have hb:x2=true:=by simpa using hb
     exact⟨h,hv,λ_=>g2 (hx2.symm.trans hb)⟩
   . exact bad _ (by simpa using hb)
   . obtain⟨t1,t2,t3⟩:=k2
     rw[show(Q9f m c.B4.a6 va access).m=x4 from hx4.symm]at t1 t2 t3
     obtain⟨m1,m2⟩:=Tree.pp (qaK h t2 access)
     refine w_an m1 (w_lv λx5 hx5=> ?_)
     exact⟨hx5▸m2,t1,λ_=>t3 (by simpa using hb)⟩)
end
theorem zu{r:Int}(h:Q7t r=true):0<=r/\r<16:=by
 simp only[Q7t,Qcv,Tree.m]at h
 cases h1:decide (r>=0)<;>rw[h1]at h
 . cases h
 . have h1:=of_decide_eq_true h1
   have h:=of_decide_eq_true h
   omega
theorem xS{i:Q0i}(hi:IntKind.wrap .i64 i.Imm=i.Imm)(h:Q8b i=true):Qex i:=by
 have no:false=true->Qex i:=λh=>by cases h
 refine(Tree.post (Qet i) (W:=λb=>b=true->Qex i) ?_) h
 unfold Qet
 refine w_lv λx0 h0=>w_br (λ_=>no) (λ_=>w_lv λx1 h1=>w_br (λ_=>no) (λb1=>w_lv λx2 h2=>w_br (λ_=>no) (λb2=>w_lv λx3 h3=>w_br (λ_=>no) (λb3=>w_lv λx4 h4=>w_br (λ_=>no) (λb4=>w_br (λ_=>no) (λb5=> ?_))))))
 have b1:x1=true:=by simpa using b1
 have b2:x2=true:=by simpa using b2
 have b3:x3=true:=by simpa using b3
 have b4:=of_decide_eq_false b4
 have b5:=of_decide_eq_false b5
 rw[hi]at b4 b5
 have ok:Qex i:=⟨zu (h1.symm.trans b1),zu (h2.symm.trans b2),zu (h3.symm.trans b3),λe=>by
   rw[e]at h0
   have h0:x0=8:=h0
   subst h0
   have h4:x4=(0,7):=h4
   subst h4
   simp at b4 b5;omega⟩
 repeat'(first
   |exact λ_=>ok
   |exact no
   |refine w_br (λ_=> ?_) (λ_=> ?_))
theorem Zhp(w:Int):(Q9q w).w (λr=>r.2=true->Qex r.1):=by
 have no: ∀{p:Prop},false=true->p:=λh=>by cases h
 have e: ∀x,IntKind.wrap .i64 (IntKind.wrap .i32 x)=IntKind.wrap .i32 x:=λx=>by rw[IntKind.wrap_i64,IntKind.wrap_i32];omega
 have ok: ∀i,IntKind.wrap .i64 i.Imm=i.Imm-> ∀x,x=Q8b i->(!x)=false->true=true->Qex i:=λi hi x hx hb _=>xS hi (hx.symm.trans (by simpa using hb))
 unfold Q9q
 refine w_lv λx0 _=> ?_
 have l: ∀i,IntKind.wrap .i64 i.Imm=i.Imm->(Tree.lv (Q8b i) λx=> .br (!x) (.lf ((⟨0,0,0,0,0⟩:Q0i),false)) (.lf (i,true))).w (λr=>r.2=true->Qex r.1):=λi hi=>w_lv λx hx=>w_br (λ_=>no) (λhb=>ok i hi x hx hb)
 refine w_br (λ_=>no) (λ_=>w_br (λ_=>l _ rfl) (λ_=>w_br (λ_=>l _ (e _)) (λ_=>w_br (λ_=>l _ (e _)) (λ_=>l _ (e _)))))
theorem bit_w(b:Bool):U (Qbd b):=by cases b<;>exact⟨by decide,by decide⟩
theorem Zi0{a b:Int}(ha:U a)(hb:U b):(Q9r a b).w (λr=>U r.1/\U r.2):=by
 unfold Q9r
 refine w_br (λ_=>⟨⟨by omega,by omega⟩,ha⟩) (λh=> ?_)
 have h: ¬b=0:=by simpa using h
 obtain⟨b1,b2⟩:=hb
 have hc:decide (IntKind.wrap IntKind.i64 (IntKind.wrap IntKind.i32 b)≠0)=true:=decide_eq_true (by rw[IntKind.wrap_i64,IntKind.wrap_i32];omega)
 exact w_cn hc (w_cn hc ⟨Q0o _,Q0o _⟩)
theorem alu_w(op:Int){a b:Int}(ha:U a)(hb:U b):(Qjj op a b).w (λr=>U r.1):=by
 unfold Qjj
 refine w_lv λx0 _=> ?_
 repeat'(first
   |exact Q0o _
   |exact Qtl ha _
   |exact U_0
   |refine w_br (λ_=> ?_) (λ_=> ?_)
   |exact Q0e (Zi0 ha hb) λx hx=>hx.1
   |exact Q0e (Zi0 ha hb) λx hx=>hx.2
   |exact w_lv λx hx=>(by rw[hx];exact bit_w _))
theorem yu{x:Int}(hx:U x):(Q76 x 8).w U:=by
 unfold Q76
 have h0:decide (0<=IntKind.wrap IntKind.u64 8)=true:=by decide
 refine w_br (λh=>absurd h (by decide)) λ_=>w_br (λh=>absurd h (by decide)) λ_=>w_cn h0 (w_cn (by decide) (w_br (λ_=>w_cn h0 (U_or _ _)) (λ_=>Zfc _ _)))
section
variable {c:Q02} (h:Q2i c) {i:Q0i} (hi:Qex i)
include h hi
theorem zS:(Qct c i).w (λr=>Q2i r.1/\U r.2.Value):=by
 unfold Qct
 refine w_br (λ_=>w_lv λx hx=>⟨hx▸Qyw h _ U_0,U_0⟩) (λ_=>w_br (λ_=>w_lv λx hx=>⟨hx▸qS h,U_0⟩) (λ_=>w_br (λe=>w_cn ?_ (Q0e (Z39 h _ (h.a _)) λx hx=>⟨hx.pcs (Q0o _),U_0⟩)) (λ_=>w_br (λ_=>w_cn (rc hi.a) (Q0e (zav h _ (h.r _)) λx hx=>⟨hx.pcs (Q0o _),U_0⟩)) (λ_=> ?_))))
 . have:=hi.csr (by simpa using e)
   simp [Nat.blt];omega
 . have k:=h.pcs (Q0o (c.Pc+4))
   repeat'(first
     |exact⟨k,U_0⟩
     |exact⟨k,h.r _⟩
     |refine w_br (λ_=> ?_) (λ_=> ?_)
     |refine w_cn (rc hi.a) ?_)
theorem zaK:(Qhe c i).w Q2i:=by
 unfold Qhe
 exact w_br (λ_=>Q0e (Z39 h _ (Q0o _)) λx hx=>hx.pcs (Q0o _)) (λ_=>w_br (λ_=>w_cn (rc hi.b) (Q0e (Z39 h _ (Q0o _)) λx hx=>hx.pcs (Q0o _))) (λ_=>w_cn (rc hi.a) (w_cn (rc hi.b) (w_lv λx _=>w_br (λ_=>h.pcs (Q0o _)) (λ_=>h.pcs (Q0o _))))))
theorem Zlk{P:Nat}{m:List Int}(hm:Q0y P m):(Q9m c m i).w (λr=>Q2i r.1/\Q0y P r.2):=by
  unfold Q9m
  refine w_cn (rc hi.b) ?_
  have e1:(1:Int)=1\/(1:Int)=4:= .inl rfl
  have e4:(4:Int)=1\/(4:Int)=4:= .inr rfl
  repeat'(first
    |refine w_br (λ_=> ?_) (λ_=> ?_)
    | (refine Q0e (Z7b hm h (Q0o _) e4 _) λx hx=> ?_
       obtain⟨m1,m2,m3⟩:=hx
       refine w_br (λ_=>w_lv λy hy=>⟨hy▸Qyw h _ (Q0o _),m1⟩) (λhb=> ?_)
       have m3:=m3 (by simpa using hb)
       have m4:x.1<4*x.2.2.length:=by rw[m1.len];omega
       clear hb)
    | (refine Q0e (Z7b hm h (Q0o _) e1 _) λx hx=> ?_
       obtain⟨m1,m2,m3⟩:=hx
       refine w_br (λ_=>w_lv λy hy=>⟨hy▸Qyw h _ (Q0o _),m1⟩) (λhb=> ?_)
       have m3:=m3 (by simpa using hb)
       have m4:x.1<4*x.2.2.length:=by rw[m1.len];omega
       clear hb)
    |exact w_cn (rc hi.a) (Q0e (put_w (by assumption) (by assumption) (by assumption) (h.r _)) λy hy=>⟨h.pcs (Q0o _),hy⟩)
    |(refine Q0e (Zay (by assumption) (by assumption) e4) λy hy=> ?_)
    |(refine Q0e (Zay (by assumption) (by assumption) e1) λy hy=> ?_)
    |exact Q0e (yu (by assumption)) λz hz=>Q0e (Z39 h _ hz) λu hu=>⟨hu.pcs (Q0o _),by assumption⟩
    |exact Q0e (Z39 h _ (by assumption)) λu hu=>⟨hu.pcs (Q0o _),by assumption⟩)
end
theorem do_w{c:Q02}(h:Q2i c){P:Nat}{m:List Int}(hm:Q0y P m):(Qmg c m).w (λr=>Q2i r.1/\U r.2.1.Value/\Q0y P r.2.2):=by
 unfold Qmg
 refine Q0e (Z7b hm h h.pc (.inr rfl) 1) λx0 hx=> ?_
 obtain⟨m1,m2,m3⟩:=hx
 refine w_br (λ_=>w_lv λy hy=>⟨hy▸Qyw h _ h.pc,U_0,m1⟩) (λhb=> ?_)
 refine Q0e (Zay m1 m2 (.inr rfl)) λx2 h2=>Zdg (Zhp _) λx3 h3=>w_br (λ_=>w_lv λy hy=>⟨hy▸Qyw h _ h2,U_0,m1⟩) (λb3=> ?_)
 have hi:=h3 (by simpa using b3)
 refine w_lv λx5 _=> ?_
 repeat'(first
   |refine w_br (λ_=> ?_) (λ_=> ?_)
   |exact w_lv λy hy=>⟨hy▸Qyw h _ h2,U_0,m1⟩
   |exact Q0e (zS h hi) λy hy=>⟨hy.1,hy.2,m1⟩
   |exact Q0e (zaK h hi) λy hy=>⟨hy,U_0,m1⟩
   |exact Q0e (Zlk h hi m1) λy hy=>⟨hy.1,U_0,hy.2⟩
   |exact Q0e (Z39 h _ (Q0o _)) λy hy=>⟨hy.pcs (Q0o _),U_0,m1⟩
   |refine w_cn (rc hi.c) ?_
   |refine w_cn (rc hi.b) ?_
   |exact Q0e (alu_w _ (h.r _) (h.r _)) λy hy=>Q0e (Z39 h _ hy) λz hz=>⟨hz.pcs (Q0o _),U_0,m1⟩
   |exact Q0e (alu_w _ (h.r _) (Q0o _)) λy hy=>Q0e (Z39 h _ hy) λz hz=>⟨hz.pcs (Q0o _),U_0,m1⟩)
theorem and1{q:Int}(h:U q):iand .u32 q 1=q%2:=by
 obtain⟨h1,h2⟩:=h
 unfold iand
 rw[IntKind.wrap_u32]
 have e1:(BitVec.ofInt 32 q).toNat=q.toNat:=by rw[BitVec.toNat_ofInt];omega
 have e2:(BitVec.ofInt 32 1).toNat=1:=by decide
 have:(BitVec.ofInt IntKind.u32.bits q&&&BitVec.ofInt IntKind.u32.bits 1).toNat=q.toNat%2:=by
   show(BitVec.ofInt 32 q&&&BitVec.ofInt 32 1).toNat=_
   rw[BitVec.toNat_and,e1,e2,Nat.and_one_is_mod]
 rw[this];omega
theorem Za3(b:Bool)(n:Int):(Qig b n).w (λ_=>True):=by
 unfold Qig
 exact w_br (λ_=>w_cn (decide_eq_true (by rw[IntKind.wrap_u64];omega)) trivial) (λ_=>trivial)
theorem xav(m:Q01):(Qfe m).w (λ_=>True):=by
 unfold Qfe
 exact w_lv λ_ _=>Q0e (Za3 _ _) λ_ _=>w_lv λ_ _=>Q0e (Za3 _ _) λ_ _=>w_lv λ_ _=>Q0e (Za3 _ _) λ_ _=>w_lv λ_ _=>Q0e (Za3 _ _) λ_ _=>w_lv λ_ _=>Q0e (Za3 _ _) λ_ _=>trivial
theorem Zcn(m:Q01):(Q84 m).w U:=by
 unfold Q84
 exact Q0e (xav m) λ_ _=>Zfc _ _
theorem yZ(m:Q01):(Qds m).w (λ_=>True):=by
 unfold Qds
 exact w_br (λ_=>Q0e (Zcn m) λ_ _=>trivial) (λ_=>trivial)
theorem Zf3(m:Q01):(Q93 m).w (λ_=>True):=by
 unfold Q93
 exact w_lv λ_ _=>w_br (λ_=>trivial) (λ_=>w_br (λ_=>trivial) (λ_=>Q0e (yZ m) λ_ _=>w_br (λ_=>trivial) (λ_=>trivial)))
theorem Qkw{m:Q01}(h:Q2i m.B2):(Q49 m).w Q2i:=by
 unfold Q49
 refine Q0e (Zcn m) λx0 hx=>w_br (λ_=>h) (λ_=>w_br (λ_=>h) (λhb=> ?_))
 have hb:x0≠0:=by simpa using hb
 have sh: ∀z:Int,0<=z->z<=31->ishr .u32 x0 (IntKind.wrap .u64 z)=x0/2^z.toNat:=λz h1 h2=>by
   unfold ishr
   have e:min (IntKind.wrap .u64 z).toNat IntKind.u32.bits=z.toNat:=by
     show min (IntKind.wrap .u64 z).toNat 32=z.toNat
     rw[IntKind.wrap_u64];omega
   rw[e,Int.fdiv_eq_ediv_of_nonneg _ (Int.le_of_lt (Int.pow_pos (by decide)))]
 refine w_lp (inv:=λz=>0<=z/\z<=31/\x0/2^z.toNat≠0) (μ:=Qdh m) ⟨by omega,by omega,by simpa using hb⟩ (Nat.lt_succ_self _) (λz hz=> ?_)
 obtain⟨z1,z2,z3⟩:=hz
 refine w_cn (decide_eq_true (by rw[IntKind.wrap_u64];omega)) (w_br (λe=>w_nx ?_) (λ_=>w_lv λy hy=>hy▸Qyw h _ U_0))
 have e:=eq_of_beq e
 have hq:=Qtl hx (IntKind.wrap .u64 z)
 rw[and1 hq,sh z z1 z2]at e
 rw[sh z z1 z2]at hq
 have hlt:x0/2^z.toNat/2≠0:=by omega
 have z4:z<=30:=by
   rcases Int.lt_or_le z 31 with h|h
   . omega
   . have:z=31:=by omega
     subst this
     have:=hx.2
     have:=hx.1
     simp at z3 e hlt
     omega
 show(0<=IntKind.i64.wrap (z+1)/\IntKind.i64.wrap (z+1)<=31/\x0/2^(IntKind.i64.wrap (z+1)).toNat≠0)/\(32-IntKind.i64.wrap (z+1)).toNat<(32-z).toNat
 have ew:IntKind.i64.wrap (z+1)=z+1:=by rw[IntKind.wrap_i64];omega
 rw[ew]
 refine⟨⟨by omega,by omega,?_⟩,by omega⟩
 have et:(z+1).toNat=z.toNat+1:=by omega
 rw[et,Int.pow_succ,<-Int.ediv_ediv_of_nonneg (Int.le_of_lt (Int.pow_pos (by decide)))]
 exact hlt
theorem vu{P:Nat}{m:Q01}(h:Q2i m.B2)(hm:Q0y P m.Mem):(Qer m).w (λ_=>True):=by
 unfold Qer
 refine Q0e (Qkw h) λx0 hx=>w_br (λ_=>trivial) (λ_=>Q0e (Zay hm hx.pc (.inr rfl)) λx1 _=>w_lv λx2 _=> ?_)
 exact w_br (λ_=>w_br (λ_=>w_br (λ_=>trivial) (λ_=>trivial)) (λ_=>trivial)) (λ_=>trivial)
theorem Qvo{P:Nat}{m:Q01}(h:Q2i m.B2)(hm:Q0y P m.Mem):(Q75 m).w (λ_=>True):=by
 unfold Q75
 exact Q0e (Zf3 m) λ_ _=>w_br (λ_=>trivial) (λ_=>Q0e (vu h hm) λ_ _=>trivial)
theorem Qgu(l:List Int):(bytesOf l).length=l.length:=by simp [bytesOf]
theorem Qoe(l:List UInt8):(Qb2 l).length=l.length:=by simp [Qb2]
theorem low_w(x:Int):(Qgn x 4).w (λr=>r.length=4):=by
 unfold Qgn
 refine w_lp (inv:=λz=>0<=z.1/\z.1<=4/\(z.2.length:Int)=z.1) (μ:=Qei x 4) ⟨by omega,by omega,rfl⟩ (Nat.lt_succ_self _) (λz hz=> ?_)
 obtain⟨z1,z2,z3⟩:=hz
 refine w_br (λh=>w_cn (decide_eq_true (by rw[IntKind.wrap_u64];omega)) (w_cn (decide_eq_true (by omega)) (w_nx ?_))) (λh=> ?_)
 . have h:=of_decide_eq_true h
   show(0<=IntKind.i64.wrap (z.1+1)/\IntKind.i64.wrap (z.1+1)<=4/\((z.2++[_]).length:Int)=IntKind.i64.wrap (z.1+1))/\(4-IntKind.i64.wrap (z.1+1)).toNat<(4-z.1).toNat
   have ew:IntKind.i64.wrap (z.1+1)=z.1+1:=by rw[IntKind.wrap_i64];omega
   rw[ew]
   refine⟨⟨by omega,by omega,by simp;omega⟩,by omega⟩
 . have h:=of_decide_eq_false h
   show(bytesOf z.2).length=4
   rw[Qgu];omega
theorem vZ{P:Nat}{m:List Int}(hm:Q0y P m)(frame:Int):(Q9h m frame).w (λr=>0<=frame->frame<P->r.1.length=128):=by
 have hp:=Qeg hm
 have hl:=hm.len
 have h2:=hm.p2
 unfold Q9h
 refine w_br (λh=>λh0 _=>by have:=of_decide_eq_true h;omega) (λh=>w_lv λx0 hx=>w_br (λh1=>λ_ h2=>by have:=of_decide_eq_true h1;rw[hx,hp]at this;omega) (λh1=> ?_))
 have h:=of_decide_eq_false h
 have h1:=of_decide_eq_false h1
 rw[hx,hp]at h1
 refine w_lp (inv:=λz=>0<=z.1/\z.1<=32/\(z.2.length:Int)=4*z.1) (μ:=Qhr m frame) ⟨by omega,by omega,rfl⟩ (Nat.lt_succ_self _) (λz hz=> ?_)
 obtain⟨z1,z2,z3⟩:=hz
 refine w_br (λhb=> ?_) (λhb=> ?_)
 . have hb:=of_decide_eq_true hb
   have e:IntKind.wrap IntKind.i64 (IntKind.wrap IntKind.i64 (frame*32)+z.1)=frame*32+z.1:=by rw[IntKind.wrap_i64,IntKind.wrap_i64];omega
   refine w_cn (by rw[e];simp [Nat.blt];omega) (w_an (show(4:Int)<=1000000000000 by decide) (Zdg (low_w _) λx1 h4=>w_cn (decide_eq_true (by rw[Qoe,h4];omega)) (w_nx ?_)))
   show(0<=IntKind.i64.wrap (z.1+1)/\IntKind.i64.wrap (z.1+1)<=32/\((z.2++Qb2 x1).length:Int)=4*IntKind.i64.wrap (z.1+1))/\(32-IntKind.i64.wrap (z.1+1)).toNat<(32-z.1).toNat
   have ew:IntKind.i64.wrap (z.1+1)=z.1+1:=by rw[IntKind.wrap_i64];omega
   rw[ew,List.length_append,Qoe,h4]
   exact⟨⟨by omega,by omega,by omega⟩,by omega⟩
 . have hb:=of_decide_eq_false hb
   intro _ _
   show(bytesOf z.2).length=128
   rw[Qgu];omega
theorem Zau{P:Nat}{m:List Int}(hm:Q0y P m){d:Q0d}(hd:Q8j d)(port:Int){v:Int}(hv:U v)(at0:Int):(Q8c d m port v at0).w (λr=>Q8j r.1/\r.2.length<=1):=by
 have k: ∀st,Q8j {Blocks:=d.Blocks,C1:=d.C1,Frame:=d.Frame,C0:=st,D7:=d.D7,B5:=d.B5,B3:=d.B3,C3:=d.C3}:=λst=>⟨hd.block,hd.frame,hd.opBlock,hd.opFrame⟩
 have k2: ∀c o,Q8j {Blocks:=d.Blocks,C1:=d.C1,Frame:=d.Frame,C0:=1,D7:=c,B5:=d.C1,B3:=d.Frame,C3:=o}:=λc o=>⟨hd.block,hd.frame,hd.block,hd.frame⟩
 have k3:Q8j {Blocks:=d.Blocks,C1:=v,Frame:=d.Frame,C0:=d.C0,D7:=d.D7,B5:=d.B5,B3:=d.B3,C3:=d.C3}:=⟨hv,hd.frame,hd.opBlock,hd.opFrame⟩
 have k4:Q8j {Blocks:=d.Blocks,C1:=d.C1,Frame:=v,C0:=d.C0,D7:=d.D7,B5:=d.B5,B3:=d.B3,C3:=d.C3}:=⟨hd.block,hv,hd.opBlock,hd.opFrame⟩
 unfold Q8c
 repeat'(first
   |refine w_br (λ_=> ?_) (λ_=> ?_)
   |exact Q0e (vZ hm _) λ_ _=>w_lv λ_ _=>⟨k2 _ _,Nat.le_refl _⟩
   |refine w_lv (λ_ _=> ?_)
   |refine w_lf ?_)
 all_goals(first
   |exact⟨hd,Nat.zero_le _⟩
   |exact⟨k _,Nat.zero_le _⟩
   |exact⟨k2 _ _,Nat.le_refl _⟩
   |exact⟨k3,Nat.zero_le _⟩
   |exact⟨k4,Nat.zero_le _⟩)
theorem Zi{P:Nat}{m:List Int}(hm:Q0y P m){n:Q0l}(hn:Qih n)(port:Int){v:Int}(hv:U v)(at0:Int):(Qai n m port v at0).w (λr=>Qih r.1/\r.2.length<=1):=by
 have k1:Qih {Frame:=v,D9:=n.D9,C5:=n.C5,B8:=n.B8,B6:=n.B6,F0:=n.F0}:=⟨hv,hn.len,hn.buffer,hn.got⟩
 have k2:Qih {Frame:=n.Frame,D9:=v,C5:=n.C5,B8:=n.B8,B6:=n.B6,F0:=n.F0}:=⟨hn.frame,hv,hn.buffer,hn.got⟩
 have k3:Qih {Frame:=n.Frame,D9:=n.D9,C5:=n.C5,B8:=n.B8,B6:=false,F0:=0}:=⟨hn.frame,hn.len,hn.buffer,U_0⟩
 have k4: ∀p r,Qih {Frame:=n.Frame,D9:=n.D9,C5:=p,B8:=n.Frame,B6:=r,F0:=n.F0}:=λp r=>⟨hn.frame,hn.len,hn.frame,hn.got⟩
 have send: ∀K:List UInt8×Bool->Tree (Q0l×List Q09),Q1z m n.Frame=true->(∀x:List UInt8×Bool,x.1.length=128->(K x).w (λr=>Qih r.1/\r.2.length<=1))->(Tree.an (Qgh m (IntKind.wrap .i64 n.Frame)) (.lv (Qhz m (IntKind.wrap .i64 n.Frame)) K)).w (λr=>Qih r.1/\r.2.length<=1):=λK hp hK=>by
   rw[Qkt hm hn.frame]at hp
   have hp:=of_decide_eq_true hp
   obtain⟨f1,f2⟩:=hn.frame
   have ew:IntKind.i64.wrap n.Frame=n.Frame:=by rw[IntKind.wrap_i64];omega
   exact Q0e (vZ hm _) λx hx=>hK x (hx (by rw[ew];exact f1) (by rw[ew];exact hp))
 unfold Qai
 repeat'(first
   |refine w_br (λ_=> ?_) (λ_=> ?_)
   |refine send _ (by simp_all) (λx hx=>w_cn (by simp_all;exact hn.len.1) ?_)
   |refine w_lv (λ_ _=> ?_)
   |refine w_lf ?_)
 all_goals(first
   |exact⟨hn,Nat.zero_le _⟩
   |exact⟨hn,Nat.le_refl _⟩
   |exact⟨k1,Nat.zero_le _⟩
   |exact⟨k2,Nat.zero_le _⟩
   |exact⟨k3,Nat.zero_le _⟩
   |exact⟨k4 _ _,Nat.zero_le _⟩)
def okB(b:Q05):Prop:=U b.C8/\U b.C2
theorem z6{P:Nat}{m:List Int}(hm:Q0y P m){b:Q05}(hb:okB b)(port:Int){v:Int}(hv:U v):(Q4e b m port v).w (λr=>okB r.1/\Q0y P r.2):=by
 have hv0:decide (0<=v)=true:=decide_eq_true hv.1
 have h2:=hm.p2
 have rest:(Tree.br (port==11) (.br (decide (v<32)) (.cn (decide (0<=v)) (.lf (({C8:=b.C8,C2:=Qg7 .u32 b.C2 (ishl .u32 1 v)}:Q05),m))) (.lf (b,m))) (.lf (b,m))).w (λr=>okB r.1/\Q0y P r.2):=
   w_br (λ_=>w_br (λ_=>w_cn hv0 ⟨⟨hb.1,Q0o _⟩,hm⟩) (λ_=>⟨hb,hm⟩)) (λ_=>⟨hb,hm⟩)
 unfold Q4e
 refine w_br (λ_=>w_lv λx0 hx=>w_br (λhp=>w_cn hv0 (w_br (λ_=>w_cn hv0 ?_) (λ_=>rest))) (λ_=>rest)) (λ_=>rest)
 have hp:Q1z m v=true:=hx.symm.trans hp
 rw[Qkt hm hv]at hp
 have hp:=of_decide_eq_true hp
 obtain⟨v1,v2⟩:=hv
 refine w_lp (inv:=λz=>0<=z.1/\z.1<=32/\Q0y P z.2) (μ:=Qi b m port v) ⟨by omega,by omega,hm⟩ (Nat.lt_succ_self _) (λz hz=> ?_)
 obtain⟨z1,z2,z3⟩:=hz
 have hl:=z3.len
 refine w_br (λh=> ?_) (λ_=>⟨⟨hb.1,Q0o _⟩,z3⟩)
 have h:=of_decide_eq_true h
 have e:IntKind.wrap IntKind.i64 (IntKind.wrap IntKind.i64 (IntKind.wrap IntKind.i64 v*32)+z.1)=v*32+z.1:=by rw[IntKind.wrap_i64,IntKind.wrap_i64,IntKind.wrap_i64];omega
 refine w_cn (by rw[e];simp [Nat.blt];omega) (w_nx ?_)
 show(0<=IntKind.i64.wrap (z.1+1)/\IntKind.i64.wrap (z.1+1)<=32/\Q0y P (List.set _ _ _))/\(32-IntKind.i64.wrap (z.1+1)).toNat<(32-z.1).toNat
 have ew:IntKind.i64.wrap (z.1+1)=z.1+1:=by rw[IntKind.wrap_i64];omega
 rw[ew]
 exact⟨⟨by omega,by omega,⟨by simp [hl],z3.p1,z3.p2,Z2y z3.u U_0 _⟩⟩,by omega⟩
structure okM(P:Nat)(m:Q01):Prop where
 cpu:Q2i m.B2
 mem:Q0y P m.Mem
 disk:Q8j m.B1
 nic:Qih m.C4
 target:okB m.A1
 cnt:0<=m.A3
theorem Qz8(c:Q0b)(port:Int):U (Q4y c port).2:=by
 refine Tree.post (Q3b c port) (W:=λr=>U r.2) ?_
 have u1:U 4294967295:=⟨by omega,by omega⟩
 unfold Q3b
 refine w_br (λ_=>w_br (λ_=>u1) (λh=>w_br (λ_=>w_cn ?_ (w_cn ?_ (Q0o _))) (λ_=>w_br (λ_=>Q0o _) (λ_=>U_0)))) (λh1=>w_br (λh=>(by rw[h1]at h;cases h)) (λ_=>w_br (λ_=>Q0o _) (λ_=>U_0)))
 . have h: ¬(c.D0.length:Int)=0:=by simpa using h
   exact decide_eq_true ⟨by omega,by omega,by omega⟩
 . have h: ¬(c.D0.length:Int)=0:=by simpa using h
   simp [Nat.blt];omega
theorem qv{n:Q0l}(h:Qih n)(port:Int):U (Qgo n port):=by
 refine Tree.post (Qfh n port) (W:=U) ?_
 have u1:U 1:=⟨by omega,by omega⟩
 unfold Qfh
 exact w_br (λ_=>h.frame) (λ_=>w_br (λ_=>h.got) (λ_=>w_br (λ_=>w_br (λ_=>w_br (λ_=>Q0o _) (λ_=>u1)) (λ_=>w_br (λ_=>Q0o _) (λ_=>U_0))) (λ_=>U_0)))
theorem Zhy{d:Q0d}(h:Q8j d)(port:Int):U (Qib d port):=by
 refine Tree.post (Qg4 d port) (W:=U) ?_
 unfold Qg4
 exact w_br (λ_=>h.block) (λ_=>w_br (λ_=>h.frame) (λ_=>w_br (λ_=>Q0o _) (λ_=>U_0)))
theorem Zc5(t:Q0f):U (Qfb t):=by
 refine Tree.post (Qen t) (W:=U) ?_
 unfold Qen
 exact w_br (λ_=>⟨by omega,by omega⟩) (λ_=>U_0)
theorem Qyq{b:Q05}(h:U b.C8)(port:Int):U (Q4q b port):=by
 refine Tree.post (Q5w b port) (W:=U) ?_
 unfold Q5w
 exact w_br (λ_=>h) (λ_=>w_br (λ_=>w_lv λ_ _=>Q0o _) (λ_=>U_0))
structure okR(P:Nat)(r:Q00):Prop where
 m:okM P r.A0
 clock:U r.A7
structure okL(P:Nat)(r x:Q00):Prop where
 ok:okR P x
 log:x.B9=r.B9
 queue:x.A2=r.A2
theorem w0(x:Int):0<=IntKind.u64.wrap x:=by rw[IntKind.wrap_u64];omega
section
variable {P:Nat} {r:Q00} (h:okR P r)
include h
theorem in_w(port:Int){clock:Int}(hc:U clock):(Qht r port clock).w (λx=>U x.1/\okL P r x.2):=by
 have k:okL P r r:=⟨h,rfl,rfl⟩
 obtain⟨⟨h1,h2,h3,h4,h5,h7⟩,h6⟩:=h
 unfold Qht
 exact w_br (λ_=>w_lv λx hx=>⟨hx▸Qz8 _ _,⟨⟨⟨h1,h2,h3,h4,h5,h7⟩,h6⟩,rfl,rfl⟩⟩) (λ_=>w_br (λ_=>⟨hc,k⟩) (λ_=>w_br (λ_=>w_lv λx hx=>⟨hx▸Zc5 _,k⟩) (λ_=>w_br (λ_=>w_lv λx hx=>⟨hx▸Zhy h3 _,k⟩) (λ_=>w_br (λ_=>w_lv λx hx=>⟨hx▸qv h4 _,k⟩) (λ_=>w_lv λx hx=>⟨hx▸Qyq h5.1 _,k⟩)))))
theorem out_w(port:Int){v:Int}(hv:U v):(Qc6 r port v).w (λx=>x.1.length<=1/\okL P r x.2):=by
 have k:okL P r r:=⟨h,rfl,rfl⟩
 obtain⟨⟨h1,h2,h3,h4,h5,h7⟩,h6⟩:=h
 unfold Qc6
 exact w_br (λ_=>⟨Nat.le_refl _,k⟩) (λ_=>w_br (λ_=>⟨Nat.zero_le _,k⟩) (λ_=>w_br (λ_=>w_lv λ_ _=>⟨Nat.zero_le _,⟨⟨⟨h1,h2,h3,h4,h5,h7⟩,h6⟩,rfl,rfl⟩⟩) (λ_=>w_br (λ_=>Q0e (Zau h2 h3 _ hv _) λx hx=>⟨hx.2,⟨⟨⟨h1,h2,hx.1,h4,h5,h7⟩,h6⟩,rfl,rfl⟩⟩) (λ_=>w_br (λ_=>Q0e (Zi h2 h4 _ hv _) λx hx=>⟨hx.2,⟨⟨⟨h1,h2,h3,hx.1,h5,h7⟩,h6⟩,rfl,rfl⟩⟩) (λ_=>Q0e (z6 h2 h5 _ hv) λx hx=>⟨Nat.zero_le _,⟨⟨⟨h1,hx.2,h3,h4,hx.1,h7⟩,h6⟩,rfl,rfl⟩⟩)))))
theorem Qsm{clock:Int}(hc:U clock):(Q5t r clock).w (λx=>x.1.length<=1/\okL P r x.2):=by
 obtain⟨⟨h1,h2,h3,h4,h5,h7⟩,h6⟩:=h
 unfold Q5t
 refine Q0e (Qkw h1) λx0 c0=>Q0e (do_w c0 h2) λx1 hx=> ?_
 obtain⟨c1,v1,m1⟩:=hx
 refine w_br (λ_=>Zdg (in_w (r:=⟨⟨_,_,_,_,_,_,_,_,_,_⟩,_,_,_⟩) ⟨⟨c1,m1,h3,h4,h5,h7⟩,h6⟩ _ hc) λx2 hx=> ?_) (λ_=>w_br (λ_=>Q0e (out_w (r:=⟨⟨_,_,_,_,_,_,_,_,_,_⟩,_,_,_⟩) ⟨⟨c1,m1,h3,h4,h5,h7⟩,h6⟩ _ v1) λx4 hx=> ?_) (λ_=> ?_))
 . obtain⟨u,⟨⟨⟨k1,k2,k3,k4,k5,k7⟩,k6⟩,e1,e2⟩⟩:=hx
   exact Q0e (Z39 k1 _ u) λx3 h3=>⟨Nat.zero_le _,⟨⟨⟨h3,k2,k3,k4,k5,w0 _⟩,k6⟩,e1,e2⟩⟩
 . obtain⟨u,⟨⟨⟨k1,k2,k3,k4,k5,k7⟩,k6⟩,e1,e2⟩⟩:=hx
   exact⟨u,⟨⟨⟨k1,k2,k3,k4,k5,w0 _⟩,k6⟩,e1,e2⟩⟩
 . repeat'(first
     |exact⟨Nat.zero_le _,⟨⟨⟨c1,m1,h3,h4,h5,w0 _⟩,h6⟩,rfl,rfl⟩⟩
     |refine w_br (λ_=> ?_) (λ_=> ?_))
end
theorem v6(c:Q0b)(b:Int):(Qhg c b).w (λ_=>True):=by
 unfold Qhg
 refine w_br (λ_=>trivial) (λh=>w_cn (decide_eq_true ?_) trivial)
 have h:=of_decide_eq_false h
 simp [maxLen];omega
theorem Zie{P:Nat}{m:List Int}(hm:Q0y P m){n:Q0l}(hn:Qih n)(frame:List UInt8):(Qac n m frame).w (λr=>Qih r.1/\Q0y P r.2.2):=by
 unfold Qac
 refine w_br (λ_=>⟨hn,hm⟩) (λ_=>w_br (λ_=>⟨hn,hm⟩) (λ_=>w_br (λ_=>⟨hn,hm⟩) (λ_=>w_lv λx0 hx=>w_br (λ_=>⟨hn,hm⟩) (λhb=> ?_))))
 have hp:Q1z m n.B8=true:=hx.symm.trans (by simpa using hb)
 rw[Qkt hm hn.buffer]at hp
 have hp:=of_decide_eq_true hp
 obtain⟨b1,b2⟩:=hn.buffer
 have ew:IntKind.i64.wrap n.B8=n.B8:=by rw[IntKind.wrap_i64];omega
 exact Q0e (xZ hm (frame:=IntKind.i64.wrap n.B8) (by rw[ew];exact b1) (by rw[ew];exact hp) frame) λx hx=>⟨⟨hn.frame,hn.len,U_0,Q0o _⟩,hx⟩
section
variable {P:Nat} {r:Q00} (h:okR P r)
include h
theorem qaw{e:Q08}(he:U e.N):(Q85 r e).w (λx=>okL P r x.2):=by
 have k:okL P r r:=⟨h,rfl,rfl⟩
 obtain⟨⟨h1,h2,h3,h4,h5,h7⟩,h6⟩:=h
 unfold Q85
 repeat'(first
   |exact k
   |exact⟨⟨⟨h1,h2,h3,h4,⟨he,h5.2⟩,h7⟩,h6⟩,rfl,rfl⟩
   |exact w_lv λ_ _=>⟨⟨⟨h1,h2,h3,h4,h5,h7⟩,h6⟩,rfl,rfl⟩
   |exact Q0e (v6 _ _) λ_ _=>⟨⟨⟨h1,h2,h3,h4,h5,h7⟩,h6⟩,rfl,rfl⟩
   |exact Q0e (Zil h2 h3 _) λx hx=>⟨⟨⟨h1,hx.2,hx.1,h4,h5,h7⟩,h6⟩,rfl,rfl⟩
   |exact Q0e (Zie h2 h4 _) λx hx=>⟨⟨⟨h1,hx.2,h3,hx.1,h5,h7⟩,h6⟩,rfl,rfl⟩
   |refine w_br (λ_=> ?_) (λ_=> ?_))
theorem xv{e:Q08}(he:U e.N)(hl:r.B9.length<=1000000):(Qa2 r e).w (λx=>okR P x/\x.B9.length<=r.B9.length+1/\x.A2=r.A2):=by
 have acc:(Q78 r e).w (λx=>okL P r x.2):=by
   unfold Q78
   exact Q0e (qaw h he) λx hx=>hx
 unfold Qa2
 refine Q0e acc λx hx=> ?_
 obtain⟨⟨k1,k2⟩,e1,e2⟩:=hx
 refine w_br (λ_=>w_cn (decide_eq_true (by rw[e1];omega)) ⟨⟨k1,k2⟩,by simp [e1],e2⟩) (λ_=>⟨⟨k1,k2⟩,by rw[e1];omega,e2⟩)
theorem own_w(hl:r.B9.length<=1000000)(hq:r.A2.length<=1000000):(Qec r).w (λx=>okR P x/\x.B9=r.B9/\x.A2=r.A2):=by
 have ow:(Qca r.A0).w (λm=>okM P m):=by
   obtain⟨⟨h1,h2,h3,h4,h5,h7⟩,h6⟩:=h
   unfold Qca
   exact Q0e (qZ h2) λx hx=>⟨h1,by rw[hx];exact h2,h3,h4,h5,h7⟩
 unfold Qec
 refine Q0e ow λx hx=>w_cn (decide_eq_true (by simp;omega)) (w_cn (decide_eq_true (by simp;omega)) ⟨⟨hx,h.clock⟩,rfl,rfl⟩)
theorem yS(e:Q08)(hl:r.B9.length<=1000000)(hq:r.A2.length<=16)(hu: ∀q∈r.A2,U q.N)(he:U e.N):(Q8d r e).w (λx=>okR P x.1/\x.1.B9=r.B9/\x.1.A2.length<=16/\ ∀q∈x.1.A2,U q.N):=by
 unfold Q8d
 refine Q0e (own_w h hl (by omega)) λx hx=> ?_
 obtain⟨k1,k2,k3⟩:=hx
 have g:okR P x/\x.B9=r.B9/\x.A2.length<=16/\ ∀q∈x.A2,U q.N:=⟨k1,k2,by rw[k3];exact hq,by rw[k3];exact hu⟩
 refine w_lv λx1 _=>w_br (λ_=>g) (λ_=>w_br (λ_=>g) (λ_=>w_br (λ_=>g) (λhb=>w_cn (decide_eq_true (by rw[k3];omega)) ?_)))
 have hb:=of_decide_eq_false hb
 refine⟨⟨k1.m,k1.clock⟩,k2,?_,?_⟩
 . show(x.A2++[e]).length<=16
   rw[List.length_append];simp at hb⊢;omega
 . intro q hq
   have hq:q∈x.A2++[e]:=hq
   rw[List.mem_append]at hq
   rcases hq with hq|hq
   . exact hu q (k3▸hq)
   . rw[List.mem_singleton.1 hq];exact he
end
theorem zv(n:Int):(Q9l n).w (λe=>U e.N):=by
 have u1:U 1:=⟨by omega,by omega⟩
 have ev40: ∀x y,Qae x (IntKind.wrap .i64 (1+Int.tmod y 40)):=λx y=>by
   show IntKind.wrap .i64 (1+Int.tmod y 40)<=1000000000000
   have h1:=Int.tmod_lt_of_pos y (b:=40) (by decide)
   have h2:=Int.lt_tmod_of_pos y (b:=40) (by decide)
   rw[IntKind.wrap_i64];omega
 unfold Q9l
 refine w_lv λx0 _=> ?_
 repeat'(first
   |exact U_0
   |exact u1
   |exact Q0o _
   |exact w_an (show(128:Int)<=1000000000000 by decide) (w_lv λ_ _=>u1)
   |exact w_an (ev40 _ _) (w_lv λ_ _=>U_0)
   |refine w_br (λ_=> ?_) (λ_=> ?_))
end Go.Proofs.YtmalmklaonainaaGreat

import Derived.Test.YtmalmklaonainaaGreatReplayPiecesZx
set_option maxRecDepth 100000
set_option linter.all false
namespace Go.Proofs.YtmalmklaonainaaGreat
open Go Go.GD
open Go.IntKind(wrap i64 u32 u64 u8 i32 wrap_i64 wrap_u32 wrap_u64 wrap_u8 wrap_i32)
def U(x:Int):Prop:=0<=x/\x<4294967296
theorem Q0s(x:Int):U (u32.wrap x):=by rw[wrap_u32];unfold U;omega
theorem Zkd(x y:Int):U (iand .u32 x y):=Q0s _
theorem U_or(x y:Int):U (ior .u32 x y):=Q0s _
theorem U_0:U 0:=⟨by omega,by omega⟩
theorem Z6c{m:List Int}(h: ∀w∈m,U w){v:Int}(hv:U v)(i:Nat): ∀w∈m.set i v,U w:=by
 intro w hw
 rcases List.mem_or_eq_of_mem_set hw with h1|h1
 . exact h w h1
 . rw[h1];exact hv
structure Q15(P:Nat)(m:List Int):Prop where
 len:m.length=32*P
 p1:0<=P
 p2:P<=32
 u: ∀w∈m,U w
structure Q95(d:Q0f):Prop where
 block:U d.C0
 frame:U d.Frame
 opBlock:U d.B7
 opFrame:U d.B3
structure Qk2(n:Q0r):Prop where
 frame:U n.Frame
 len:U n.E0
 buffer:U n.B9
 got:U n.F1
theorem Ql7{l:List Int}(h: ∀w∈l,U w)(i:Nat):U (l.getD i 0):=by
 by_cases hi:i<l.length
 . have:l.getD i 0=l[i]:=by simp [List.getD,hi]
   rw[this];exact h _ (List.getElem_mem hi)
 . have:l.getD i 0=0:=by simp [List.getD,List.getElem?_eq_none (by omega:l.length<=i)]
   rw[this];exact U_0
structure Q2g(c:Q05):Prop where
 x: ∀w∈A16.l c.X,U w
 pc:U c.Pc
 csr: ∀w∈A8.l c.B5,U w
theorem Zjd{X:A16 Int}(h: ∀w∈A16.l X,U w){v:Int}(hv:U v)(i:Nat): ∀w∈A16.l (A16.of 0 (List.set (A16.l X) i v)),U w:=by
 have hs:=Z6c h hv i
 intro w hw
 simp only[A16.l,A16.of,List.mem_cons,List.not_mem_nil,or_false]at hw
 repeat(first|(rcases hw with rfl|hw; · exact Ql7 hs _)|(subst hw;exact Ql7 hs _))
theorem Zgh{X:A8 Int}(h: ∀w∈A8.l X,U w){v:Int}(hv:U v)(i:Nat): ∀w∈A8.l (A8.of 0 (List.set (A8.l X) i v)),U w:=by
 have hs:=Z6c h hv i
 intro w hw
 simp only[A8.l,A8.of,List.mem_cons,List.not_mem_nil,or_false]at hw
 repeat(first|(rcases hw with rfl|hw; · exact Ql7 hs _)|(subst hw;exact Ql7 hs _))
section
variable {c:Q05} (h:Q2g c)
include h
theorem Q2g.a(i:Nat):U ((A8.l c.B5).getD i 0):=Ql7 h.csr i
theorem Q2g.r(i:Nat):U ((A16.l c.X).getD i 0):=Ql7 h.x i
theorem Q2g.a0:U c.B5.a0:=h.a 0
theorem Q2g.a1:U c.B5.a1:=h.a 1
theorem Q2g.a2:U c.B5.a2:=h.a 2
theorem Q2g.a3:U c.B5.a3:=h.a 3
theorem Q2g.a4:U c.B5.a4:=h.a 4
theorem Q2g.a5:U c.B5.a5:=h.a 5
theorem Q2g.a6:U c.B5.a6:=h.a 6
theorem Q2g.a7:U c.B5.a7:=h.a 7
theorem Q2g.pcs{p:Int}(hp:U p):Q2g {X:=c.X,Pc:=p,B5:=c.B5}:=⟨h.x,hp,h.csr⟩
end
section
variable {α β:Type} {W:β->Prop} {t:Tree α} {Q:α->Prop} {k:α->Tree β}
theorem Q0e(hq:t.w Q)(g: ∀x,Q x->(k x).w W):(Tree.an t.p (Tree.lv t.m k)).w W:=⟨(Tree.pp hq).1,λy hy=>g y (by rw[hy];exact(Tree.pp hq).2)⟩
theorem Zh9(hq:t.w Q)(g: ∀x,Q x->(k x).w W):(Tree.lv t.m k).w W:=λy hy=>g y (by rw[hy];exact t.post hq)
end
theorem rc{r:Int}(h:0<=r/\r<16):(Nat.blt 0 1&&decide (0<=r/\r<((16:Nat):Int)))=true:=by simp [Nat.blt];omega
theorem Qx3{a:Int}(h:U a)(b:Int):U (ishr .u32 a b):=by
 unfold ishr U
 obtain⟨h1,h2⟩:=h
 have hp:(0:Int)<2^(min b.toNat u32.bits):=Int.pow_pos (by decide)
 have:=Int.fdiv_nonneg h1 (Int.le_of_lt hp)
 refine⟨this,?_⟩
 rw[Int.fdiv_eq_ediv_of_nonneg _ (Int.le_of_lt hp)]
 have h3:=Int.ediv_le_self (2^(min b.toNat u32.bits)) h1
 omega
structure Qgh(i:Q0l):Prop where
 a:0<=i.A/\i.A<16
 b:0<=i.B/\i.B<16
 c:0<=i.C/\i.C<16
 csr:i.Op=58->0<=i.Imm/\i.Imm<8
theorem Z2m{P:Nat}{m:List Int}(h:Q15 P m):Q0x m=P:=by
 obtain⟨h1,h2,h3,_⟩:=h
 simp only[Q0x,Q8u,Tree.m]
 have e:(m.length:Int)=32*P:=by omega
 rw[e]
 have e1:(Int.tmod (32*(P:Int)) 32 !=0)=false:=by simp [Int.mul_tmod_right]
 have e2:decide ((32*(P:Int))>1024)=false:=dN (by omega)
 rw[e1,e2]
 simp only[cond_false]
 rw[Int.mul_tdiv_cancel_left _ (by decide),wrap_i64];omega
theorem v6(n:Int):(Qc9 n).w (λ_=>True):=by
 unfold Qc9
 exact w_br (λ_=>trivial) (λ_=>w_cn (dY (by rw[wrap_u64];omega)) trivial)
theorem Qw3(w low n:Int):(Q9t w low n).w U:=by
 unfold Q9t
 exact w_br (λ_=>U_0) (λ_=>w_br (λ_=>U_0) (λ_=>w_br (λ_=>U_0) (λ_=>w_cn (dY (by rw[wrap_u64];omega)) (Q0e (v6 n) λ_ _=>Zkd _ _))))
theorem Zny{w:Int}(hw:U w)(low n v:Int):(Qa7 w low n v).w U:=by
 have h0:decide (0<=wrap u64 low)=true:=dY (by rw[wrap_u64];omega)
 unfold Qa7
 exact w_br (λ_=>hw) (λ_=>w_br (λ_=>hw) (λ_=>w_br (λ_=>hw) (λ_=>Q0e (v6 n) λ_ _=>w_cn h0 (w_cn h0 (U_or _ _)))))
theorem Qvx{x:Int}(hx:U x)(n:Int):(Q7o x n).w U:=by
 have h0: ∀y,decide (0<=wrap u64 y)=true:=λy=>dY (by rw[wrap_u64];omega)
 unfold Q7o
 exact w_br (λ_=>U_0) (λ_=>w_br (λ_=>hx) (λ_=>w_cn (h0 _) (w_cn (h0 _) (Q0s _))))
section
variable {P:Nat} {m:List Int} (h:Q15 P m)
include h
theorem Q9e:Q08 m:=by
 have:=h.len
 have:=h.p2
 show m.length<=35184372088832
 omega
theorem Zhf{a:Int}(ha:U a){size:Int}(hs:size=1\/size=4):(Q3h m a size).w (λb=>b=true->a+size<=128*P):=by
 have hp:=Z2m h
 have h2:=h.p2
 obtain⟨a1,a2⟩:=ha
 have e:decide (wrap u32 size≠0)=true:=by rcases hs with rfl|rfl<;>decide
 have l: ∀x,x=Q0x m->decide (wrap u64 (wrap u64 a+wrap u64 size)<=wrap u64 (wrap u64 x*128))=true->a+size<=128*P:=λx hx hd=>by
   rw[hx,hp]at hd
   have:=oY hd
   simp only[wrap_u64]at this
   omega
 unfold Q3h
 refine w_br (λ_=>w_br (λ_=>λh=>by cases h) (λ_=> ?_)) (λ_=> ?_)<;>
 exact w_cn e (w_br (λ_=>λh=>by cases h) (λ_=>w_lv λx hx=>l x hx))
theorem idxP{a:Int}(ha:U a)(hl:a<128*P):(Nat.beq 1 1&&Nat.blt 0 1&&decide (0<=wrap u32 (Int.tdiv a 4)/\wrap u32 (Int.tdiv a 4)<(m.length:Int)))=true:=by
 obtain⟨a1,a2⟩:=ha
 have e:wrap u32 (Int.tdiv a 4)=a/4:=by rw[wrap_u32,Int.tdiv_eq_ediv_of_nonneg a1];omega
 have:=h.len
 rw[e];simp [Nat.blt];omega
theorem Qsu{a:Int}(ha:U a){size:Int}(hs:size=1\/size=4):(Q6s m a size).w (λr=>U r.1/\(r.2=true->a<128*P)):=by
 unfold Q6s
 refine Q0e (Zhf h ha hs) λx hx=>w_br (λ_=>⟨U_0,λh=>by cases h⟩) (λhb=> ?_)
 have hl:=hx (by simpa using hb)
 have hl:a<128*P:=by omega
 exact w_cn (idxP h ha hl) (w_br (λ_=>Q0e (Qw3 _ _ _) λy hy=>⟨hy,λ_=>hl⟩) (λ_=>⟨Ql7 h.u _,λ_=>hl⟩))
theorem Z18{a:Int}(ha:U a){size:Int}(hs:size=1\/size=4){v:Int}(hv:U v):(Q90 m a size v).w (λr=>Q15 P r.1):=by
 have st: ∀i v,U v->Q15 P (m.set i v):=λi v hv=>⟨by simp [h.len],h.p1,h.p2,Z6c h.u hv i⟩
 have hcl:Q03 m=m:=rfl
 unfold Q90
 refine w_an (Q9e h) (w_lv λx0 hx0=> ?_)
 rw[hcl]at hx0;subst hx0
 refine Q0e (Zhf h ha hs) λx hx=>w_br (λ_=>h) (λhb=> ?_)
 have hl:=hx (by simpa using hb)
 have hl:a<128*P:=by omega
 exact w_br (λ_=>w_cn (idxP h ha hl) (Q0e (Zny (Ql7 h.u _) _ _ _) λy hy=>w_cn (idxP h ha hl) (st _ _ hy))) (λ_=>w_cn (idxP h ha hl) (st _ _ hv))
end
theorem Zk4{r:Int}{used:Bool}(h:Q9m r used=true):0<=r/\r<16:=by
 simp only[Q9m,Qfr,Tree.m]at h
 cases used
 . have h:(r==0)=true:=h
   have:=eq_of_beq h;omega
 . cases h1:decide (r>=0)<;>rw[h1]at h
   . cases h
   . have h1:=oY h1
     have h:=oY h
     omega
theorem qw{i:Q0l}(h:Qgn i=true):Qgh i:=by
 have no:false=true->Qgh i:=λh=>by cases h
 refine(Tree.post (Qis i) (W:=λb=>b=true->Qgh i) ?_) h
 unfold Qis
 refine w_lv λx0 h0=>w_br (λ_=>w_lv λx1 h1=>w_br (λb1=>w_lv λx2 h2=>w_br (λb2=>w_lv λx3 h3=>w_br (λb3=>w_br (λb4=>λb5=> ?_) (λ_=>no)) (λ_=>no)) (λ_=>no)) (λ_=>no)) (λ_=>no)
 have b4:=oY b4
 have b5:=oY b5
 refine⟨Zk4 (h1.symm.trans b1),Zk4 (h2.symm.trans b2),Zk4 (h3.symm.trans b3),λe=> ?_⟩
 rw[e]at h0
 have h0:x0=({a:=true,b:=false,c:=false,low:=0,D6:=7},true):=h0
 subst h0
 simp at b4 b5;omega
theorem Z29(w:Int):(Q8 w).w (λr=>r.2=true->Qgh r.1):=by
 have no: ∀{p:Prop},false=true->p:=λh=>by cases h
 have l: ∀i,(Tree.lv (Qgn i) λx=> .br (!x) (.lf ((⟨0,0,0,0,0⟩:Q0l),false)) (.lf (i,true))).w (λr=>r.2=true->Qgh r.1):=λi=>w_lv λx hx=>w_br (λ_=>no) (λhb=>λ_=>qw (hx.symm.trans (by simpa using hb)))
 unfold Q8
 exact Q0e (Qw3 _ _ _) λx0 _=>Q0e (Qw3 _ _ _) λx1 _=>Q0e (Qw3 _ _ _) λx2 _=>w_lv λx3 _=>w_br (λ_=>no) (λ_=>Q0e (Qw3 _ _ _) λx4 h4=>w_br (λ_=>l _) (λ_=>w_br (λ_=>Q0e (Qvx h4 _) λx6 _=>l _) (λ_=>l _)))
section
variable {P:Nat} {m:List Int} (h:Q15 P m)
include h
theorem yT{f:Int}(hf:U f):Qat m f=decide (f<P):=by
 have:=Z2m h
 obtain⟨h1,h2⟩:=hf
 have h3:=h.p2
 simp only[Qat,Qiw,Tree.m,letv,this]
 congr 1
 rw[wrap_u64,wrap_u64,Int.emod_eq_of_lt h1 (by omega),Int.emod_eq_of_lt (by omega) (by omega)]
theorem xax{root va:Int}(hv:U va)(access:Int):(Qae m root va access).w (λt=>U t.Addr/\U t.F2):=by
 have bad:U (0:Int)/\U (0:Int):=⟨U_0,U_0⟩
 have fr: ∀x,(Q8q x).w U:=λx=>by
   unfold Q8q
   exact Q0e (Qw3 _ _ _) λy hy=>hy
 unfold Qae
 exact w_lv λx0 _=>w_br (λ_=>bad) (λ_=>w_br (λ_=>bad) (λ_=>w_lv λx1 _=>w_br (λ_=>bad) (λ_=>Q0e (Qsu h (Q0s _) (.inr rfl)) λx2 _=>w_br (λ_=>bad) (λ_=>w_lv λx3 _=>w_br (λ_=>bad) (λ_=>Q0e (fr _) λx4 _=>w_lv λx5 _=>w_br (λ_=>bad) (λ_=>Q0e (fr _) λx6 _=>⟨Q0s _,Q0s _⟩))))))
theorem vT{a:Int}(ha:U a)(access:Int):(Q93 m a access).w (Q15 P):=by
 have hcl:Q03 m=m:=rfl
 unfold Q93
 exact Q0e (Qsu h ha (.inr rfl)) λx0 _=>w_br (λ_=>w_an (Q9e h) (w_lv λx1 h1=>by rw[h1,hcl];exact h)) (λ_=>w_br (λ_=>Q0e (Z18 h ha (.inr rfl) (U_or _ _)) λx hx=>hx) (λ_=>Q0e (Z18 h ha (.inr rfl) (U_or _ _)) λx hx=>hx))
theorem Qm7{c:Q05}{va:Int}(hv:U va){size:Int}(hs:size=1\/size=4)(access:Int):(Q6t c m va size access).w (λr=>U r.1/\Q15 P r.2.1):=by
 have hcl:Q03 m=m:=rfl
 have e:decide (wrap u32 size≠0)=true:=by rcases hs with rfl|rfl<;>decide
 have cl: ∀(K:List Int->Int×List Int×Int),(∀x,x=m->U (K x).1/\Q15 P (K x).2.1)->(Tree.an (Q08 m) (.lv (Q03 m) λx=> .lf (K x))).w (λr=>U r.1/\Q15 P r.2.1):=λK hK=>w_an (Q9e h) (w_lv λx hx=>hK x (hx.trans hcl))
 have z: ∀(k:Nat) (x:List Int),x=m->U (0:Int)/\Q15 P x:=λ_ x hx=>⟨U_0,hx▸h⟩
 have v: ∀x,x=m->U va/\Q15 P x:=λx hx=>⟨hv,hx▸h⟩
 have main: ∀(x0:Int×Bool),(Tree.cn (decide (wrap u32 size≠0)) (.br (Int.tmod va (wrap u32 size) !=0) (.an (Q08 m) (.lv (Q03 m) λx3=> .lf ((0:Int),x3,(3:Int)))) (.lv (Qag c) λx4=> .br (!x4) (.br (iand u32 c.B5.a0 4 !=0) (.an (Qiz m c.B5.a6 va access) (.lv (Qjq m c.B5.a6 va access) λx5=> .br (x5.F0 !=0) (.an (Q08 m) (.lv (Q03 m) λx6=> .lf (0,x6,x5.F0))) (.an (Qgw m x5.F2 access) (.lv (Qd m x5.F2 access) λx7=> .lf (x5.Addr,x7,0))))) (.an (Q3j m va size) (.lv (Q51 m va size) λx8=> .br (!x8.2) (.an (Q08 m) (.lv (Q03 m) λx9=> .lf (0,x9,x0.1))) (.an (Q08 m) (.lv (Q03 m) λx10=> .lf (va,x10,0)))))) (.an (Q3j m va size) (.lv (Q51 m va size) λx11=> .br (!x11.2) (.an (Q08 m) (.lv (Q03 m) λx12=> .lf (0,x12,x0.1))) (.an (Q08 m) (.lv (Q03 m) λx13=> .lf (va,x13,0)))))))).w (λr=>U r.1/\Q15 P r.2.1):=λx0=>
   w_cn e (w_br (λ_=>cl _ (z 0)) (λ_=>w_lv λx4 _=>w_br (λ_=>w_br (λ_=>Q0e (xax h hv access) λx5 hx=>w_br (λ_=>cl _ (z 0)) (λ_=>Q0e (vT h hx.2 access) λx7 h7=>⟨hx.1,h7⟩)) (λ_=>Q0e (Qsu h hv hs) λx8 _=>w_br (λ_=>cl _ (z 0)) (λ_=>cl _ v))) (λ_=>Q0e (Qsu h hv hs) λx8 _=>w_br (λ_=>cl _ (z 0)) (λ_=>cl _ v))))
 unfold Q6t
 exact w_lv λx0 _=>w_br (λ_=>cl _ (z 0)) (λ_=>w_br (λ_=>w_br (λ_=>cl _ (z 0)) (λ_=>main x0)) (λ_=>main x0))
theorem Zb7{c:Q05}(hc:Q2g c):(Qcb c m).w (λr=>U r.1/\Q15 P r.2.1):=by
 unfold Qcb
 exact Q0e (Qm7 h hc.pc (.inr rfl) 1) λx0 h0=>w_br (λ_=>⟨U_0,h0.2⟩) (λ_=>Q0e (Qsu h0.2 h0.1 (.inr rfl)) λx1 h1=>⟨h1.1,h0.2⟩)
end
theorem qay{s a b:Int}:U (Q96 s a b):=by
 refine Tree.post (Qql s a b) (W:=U) ?_
 unfold Qql
 exact w_br (λ_=>Q0s _) (λ_=>Q0s _)
section
variable {c:Q05} (h:Q2g c)
include h
theorem Qp4(k:Int){b:Int}(hb:U b):Q2g (Q4p c k b):=by
 refine(Tree.post (Qli c k b) (W:=Q2g) ?_)
 unfold Qli
 refine w_lv λ_ _=>w_lv λ_ _=>⟨h.x,h.a1,?_⟩
 intro w hw
 simp only[A8.l,List.mem_cons,List.not_mem_nil,or_false]at hw
 rcases hw with rfl|rfl|rfl|rfl|rfl|rfl|rfl|rfl
 . exact Q0s _
 . exact h.a1
 . exact h.pc
 . exact Q0s _
 . exact hb
 . exact h.a5
 . exact h.a6
 . exact h.a7
theorem xw:Q2g (Qf9 c):=by
 refine(Tree.post (Qfy c) (W:=Q2g) ?_)
 unfold Qfy
 refine w_lv λx0 _=>w_lv λx1 h1=>⟨h.x,h.a2,?_⟩
 intro w hw
 simp only[A8.l,List.mem_cons,List.not_mem_nil,or_false]at hw
 rcases hw with rfl|rfl|rfl|rfl|rfl|rfl|rfl|rfl
 . rw[h1];exact qay
 . exact h.a1
 . exact h.a2
 . exact h.a3
 . exact h.a4
 . exact h.a5
 . exact h.a6
 . exact h.a7
theorem Qrg{r:Int}(hr:0<=r/\r<16){v:Int}(hv:U v):(Qe5 c r v).w Q2g:=by
 unfold Qe5
 exact w_br (λ_=>w_cn (rc hr) ⟨Zjd h.x hv _,h.pc,h.csr⟩) (λ_=>h)
theorem Zmx(k:Int){v:Int}(hv:U v):(Qc7 c k v).w Q2g:=by
 have ok: ∀i v,U v->Q2g {X:=c.X,Pc:=c.Pc,B5:=A8.of 0 (List.set (A8.l c.B5) i v)}:=λi v hv=>⟨h.x,h.pc,Zgh h.csr hv i⟩
 unfold Qc7
 repeat'(first
   |exact h
   |exact ok _ _ (Q0s _)
   |exact ok _ _ hv
   |refine w_br (λhk=> ?_) (λ_=> ?_)
   |refine w_cn (by rw[eq_of_beq (by assumption:(k==_)=true)];decide) ?_)
end
theorem Zft{a b:Int}(ha:U a)(hb:U b):(Qaj a b).w (λr=>U r.1/\U r.2):=by
 have u1:U 4294967295:=⟨by omega,by omega⟩
 unfold Qaj
 refine w_br (λ_=>⟨u1,ha⟩) (λh=> ?_)
 have h: ¬b=0:=by simpa using h
 obtain⟨b1,b2⟩:=hb
 have hc:decide (wrap i32 b≠0)=true:=dY (by rw[wrap_i32];omega)
 exact w_br (λ_=>w_br (λ_=>⟨ha,U_0⟩) (λ_=>w_cn hc (w_cn hc ⟨Q0s _,Q0s _⟩))) (λ_=>w_cn hc (w_cn hc ⟨Q0s _,Q0s _⟩))
theorem zay(b:Bool):U (Qpc b):=by cases b<;>exact⟨by decide,by decide⟩
theorem Z8a(op:Int){a b:Int}(ha:U a)(hb:U b):(Qpr op a b).w (λr=>U r.1):=by
 unfold Qpr
 repeat'(first
   |refine w_br (λ_=> ?_) (λ_=> ?_)
   |exact Q0e (Zft ha hb) λx hx=>hx.1
   |exact Q0e (Zft ha hb) λx hx=>hx.2
   |exact w_lv λx hx=>(by rw[hx];exact zay _)
   |refine w_lf ?_)
 all_goals(first
   |exact Q0s _
   |exact Qx3 ha _
   |exact U_0)
theorem Za2(op:Int):Qgo op=1\/Qgo op=4:=by
 simp only[Qgo,Qsh,Tree.m]
 cases op==32<;>cases op==35<;>simp
section
variable {c:Q05} (h:Q2g c) {i:Q0l} (hi:Qgh i)
include h hi
theorem Znk:(Q58 c i).w (λr=>Q2g r.1/\U r.2.Value):=by
 have k: ∀{x:Q05} {p:Int},Q2g x->U p->Q2g {X:=x.X,Pc:=p,B5:=x.B5}:=λhx hp=>⟨hx.x,hp,hx.csr⟩
 unfold Q58
 refine w_cn (rc hi.a) (w_cn (rc hi.b) ?_)
 repeat'(first
   |refine w_br (λ_=> ?_) (λ_=> ?_)
   |exact Q0e (Qrg h hi.a (Q0s _)) λx hx=>⟨k hx (Q0s _),U_0⟩
   |exact w_lv λx _=>w_br (λ_=>⟨k h (Q0s _),U_0⟩) (λ_=>⟨k h (Q0s _),U_0⟩)
   |exact w_lv λx hx=>⟨by rw[hx];exact Qp4 h _ U_0,U_0⟩
   |exact w_lv λx hx=>⟨by rw[hx];exact xw h,U_0⟩
   |exact w_cn (by have:=hi.csr (by simp_all);simp [Nat.blt];omega) (Q0e (Qrg h hi.a (h.a _)) λx hx=>⟨k hx (Q0s _),U_0⟩)
   |exact Q0e (Zmx h _ (h.r _)) λx hx=>⟨k hx (Q0s _),U_0⟩
   |refine w_cn (rc hi.c) ?_
   |exact Q0e (Z8a _ (h.r _) (Q0s _)) λy hy=>Q0e (Qrg h hi.a hy) λx hx=>⟨k hx (Q0s _),U_0⟩
   |exact Q0e (Z8a _ (h.r _) (h.r _)) λy hy=>Q0e (Qrg h hi.a hy) λx hx=>⟨k hx (Q0s _),U_0⟩
   |refine w_lf ?_)
 all_goals(first
   |exact⟨k h (Q0s _),U_0⟩
   |exact⟨k h (Q0s _),h.r _⟩)
theorem Z1s{P:Nat}{m:List Int}(hm:Q15 P m):(Qf6 c m i).w (λr=>Q2g r.1/\Q15 P r.2):=by
 have w:=Za2 i.Op
 unfold Qf6
 refine w_cn (rc hi.b) (w_lv λx0 h0=> ?_)
 rw[<-h0]at w
 refine Q0e (Qm7 hm (Q0s _) w 2) λx1 h1=>w_br (λ_=>w_lv λy hy=>⟨by rw[hy];exact Qp4 h _ (Q0s _),h1.2⟩) (λ_=>w_lv λx3 h3=> ?_)
 rw[h0,<-h3]at w
 exact Q0e (Qsu h1.2 h1.1 w) λx4 h4=>w_br (λ_=>Q0e (Qvx h4.1 8) λy hy=>Q0e (Qrg h hi.a hy) λx hx=>⟨⟨hx.x,Q0s _,hx.csr⟩,h1.2⟩) (λ_=>Q0e (Qrg h hi.a h4.1) λx hx=>⟨⟨hx.x,Q0s _,hx.csr⟩,h1.2⟩)
theorem Qz9{P:Nat}{m:List Int}(hm:Q15 P m):(Qci c m i).w (λr=>Q2g r.1/\Q15 P r.2):=by
 have w:=Za2 i.Op
 unfold Qci
 refine w_cn (rc hi.b) (w_lv λx0 h0=> ?_)
 rw[<-h0]at w
 refine Q0e (Qm7 hm (Q0s _) w 3) λx1 h1=>w_br (λ_=>w_lv λy hy=>⟨by rw[hy];exact Qp4 h _ (Q0s _),h1.2⟩) (λ_=>w_lv λx3 h3=>w_cn (rc hi.a) ?_)
 rw[h0,<-h3]at w
 exact Q0e (Z18 h1.2 h1.1 w (h.r _)) λx hx=>⟨⟨h.x,Q0s _,h.csr⟩,hx⟩
end
theorem zw{c:Q05}(h:Q2g c){P:Nat}{m:List Int}(hm:Q15 P m):(Q7s c m).w (λr=>Q2g r.1/\Q15 P r.2.1/\U r.2.2.Value):=by
 unfold Q7s
 refine Q0e (Zb7 hm h) λx0 h0=>w_br (λ_=>w_lv λy hy=>⟨by rw[hy];exact Qp4 h _ h.pc,h0.2,U_0⟩) (λ_=>Q0e (Z29 _) λx2 h2=>w_br (λ_=>w_lv λy hy=>⟨by rw[hy];exact Qp4 h _ h0.1,h0.2,U_0⟩) (λhb=> ?_))
 have hi:=h2 (by simpa using hb)
 refine w_lv λx4 _=> ?_
 repeat'(first
   |refine w_br (λ_=> ?_) (λ_=> ?_)
   |exact Q0e (Z1s h hi h0.2) λx hx=>⟨hx.1,hx.2,U_0⟩
   |exact Q0e (Qz9 h hi h0.2) λx hx=>⟨hx.1,hx.2,U_0⟩
   |exact Q0e (Znk h hi) λx hx=>⟨hx.1,h0.2,hx.2⟩
   |exact w_lv λy hy=>⟨by rw[hy];exact Qp4 h _ h0.1,h0.2,U_0⟩
   |refine w_lv λ_ _=> ?_)
theorem Zn2{a:Int}(h:U a)(k:Nat)(hk:k<=32):0<=ishr .u32 a k/\ishr .u32 a k*2^k<=a:=by
 obtain⟨h1,h2⟩:=h
 unfold ishr
 have e:min (k:Int).toNat u32.bits=k:=by show min (k:Int).toNat 32=k;omega
 have hp:(0:Int)<2^k:=Int.pow_pos (by decide)
 rw[e,Int.fdiv_eq_ediv_of_nonneg _ (Int.le_of_lt hp)]
 exact⟨Int.ediv_nonneg h1 (Int.le_of_lt hp),Int.ediv_mul_le a (Int.ne_of_gt hp)⟩
theorem Zmc(x:Int):0<=u8.wrap x/\u8.wrap x<256:=by rw[wrap_u8];omega
theorem xay{x:Int}(h:U x):(Q1v x).w (λ_=>True):=by
 have s16:=Zn2 h 16 (by omega)
 have s8:=Zn2 h 8 (by omega)
 have s24:=Zn2 (Qx3 h 16) 8 (by omega)
 obtain⟨h1,h2⟩:=h
 unfold Q1v
 repeat'(first
   |refine w_br (λ_=> ?_) (λ_=> ?_)
   |refine w_cn (dY ⟨?_,Int.lt_of_lt_of_le (b:=256) ?_ (Int.le_of_eq (by kernel_rfl))⟩) ?_
   |exact trivial
   |refine w_lf ?_)
 all_goals(first
   |trivial
   |exact(Zmc _).1
   |exact(Zmc _).2
   |(simp only[decide_eq_true_eq,decide_eq_false_iff_not]at*;simp at s16 s8 s24;omega))
theorem and255(a:Int):iand .u32 a 255<256:=by
 unfold iand
 rw[wrap_u32]
 have:(BitVec.ofInt u32.bits a&&&BitVec.ofInt u32.bits 255).toNat<=255:=by
   show(BitVec.ofInt 32 a&&&BitVec.ofInt 32 255).toNat<=255
   rw[BitVec.toNat_and]
   exact Nat.le_trans Nat.and_le_right (by decide)
 omega
theorem xaN{x:Int}(h:U x):(Q3i x).w (λ_=>True):=by
 have s24:=Zn2 h 24 (by omega)
 obtain⟨h1,h2⟩:=h
 have i24:ishr .u32 x 24<256:=by simp at s24;omega
 unfold Q3i
 repeat'(first
   |refine w_cn (dY ⟨?_,Int.lt_of_lt_of_le (b:=256) ?_ (Int.le_of_eq (by kernel_rfl))⟩) ?_
   |exact trivial
   |refine w_lf ?_)
 all_goals(first
   |trivial
   |exact(Q0s _).1
   |exact s24.1
   |exact i24
   |exact and255 _)
structure okS(P:Nat)(m:Q00):Prop where
 cpu:Q2g m.B2
 mem:Q15 P m.Mem
 disk:Q95 m.B1
 nic:Qk2 m.C4
 target:U m.A2.D0
 given:U m.A2.C2
theorem Zm8{b:Q09}(h:U b.C2):(Qa1 b).w (λ_=>True):=by
 unfold Qa1
 exact Q0e (xaN h) λ_ _=>trivial
theorem Zmt{m:Q00}(h:U m.A2.C2):(Q5a m).w (λ_=>True):=by
 have b: ∀x,(Q42 m.A2 x).w (λ_=>True):=λx=>by
   unfold Q42
   exact Q0e (xay h) λ_ _=>trivial
 have d:(Q1u m).w (λ_=>True):=by
   unfold Q1u
   exact w_lv λ_ _=>w_lv λ_ _=>w_br (λ_=>w_lv λ_ _=>w_br (λ_=>w_lv λ_ _=>w_br (λ_=>w_lv λ_ _=>w_br (λ_=>Q0e (b _) λ_ _=>trivial) (λ_=>trivial)) (λ_=>trivial)) (λ_=>trivial)) (λ_=>trivial)
 unfold Q5a
 repeat'(first
   |refine w_br (λ_=> ?_) (λ_=> ?_)
   |exact Q0e d λ_ _=>trivial
   |refine w_lv λ_ _=> ?_
   |exact trivial)
theorem Zm7{m:Q00}(h:U m.A2.C2):(Q7l m).w (λ_=>True):=by
 have p:(Q5q m.A2).w (λ_=>True):=by
   unfold Q5q
   exact Q0e (Zm8 h) λ_ _=>trivial
 unfold Q7l
 refine w_lv λx0 _=>w_lv λx1 _=>w_lv λx2 _=>w_lv λx3 _=>Q0e p λx4 _=>w_lp (inv:=λz=>0<=z.2/\z.2<=5) (μ:=Qja m) ⟨by omega,by omega⟩ (Nat.lt_succ_self _) (λz hz=> ?_)
 obtain⟨z1,z2⟩:=hz
 have ew:z.2<5->i64.wrap (z.2+1)=z.2+1:=λ_=>by rw[wrap_i64];omega
 refine w_br (λhb=> ?_) (λ_=>trivial)
 have hb:=oY hb
 have nx:(0<=i64.wrap (z.2+1)/\i64.wrap (z.2+1)<=5)/\(5-i64.wrap (z.2+1)).toNat<(5-z.2).toNat:=by rw[ew hb];omega
 refine w_cn (by simp;omega) (w_br (λ_=>w_cn (dY z1) (w_nx nx)) (λ_=>w_nx nx))
theorem Qx9{m:Q00}(h:U m.A2.C2):(Q32 m).w U:=by
 unfold Q32
 exact Q0e (Zm7 h) λ_ _=>Zkd _ _
theorem Ziu{m:Q00}(h:U m.A2.C2):(Q44 m).w (λ_=>True):=by
 have i:(Q38 m).w (λ_=>True):=by
   unfold Q38
   exact w_br (λ_=>Q0e (Qx9 h) λ_ _=>trivial) (λ_=>trivial)
 unfold Q44
 exact Q0e (Zmt h) λ_ _=>w_br (λ_=>w_br (λ_=>Q0e i λ_ _=>w_br (λ_=>trivial) (λ_=>trivial)) (λ_=>trivial)) (λ_=>trivial)
theorem qU{P:Nat}{m:Q00}(h:okS P m):(Q2u m).w (okS P):=by
 obtain⟨h1,h2,h3,h4,h5,h6⟩:=h
 unfold Q2u
 refine w_br (λ_=>⟨h1,h2,h3,h4,h5,h6⟩) (λ_=>Q0e (Qx9 (m:=⟨_,_,_,_,_,_,m.A2,_,_,_⟩) h6) λx0 _=>w_lp (inv:=λz=>0<=z/\z<=5) (μ:=Qct m) ⟨by omega,by omega⟩ (Nat.lt_succ_self _) (λz hz=> ?_))
 obtain⟨z1,z2⟩:=hz
 refine w_br (λhb=>w_cn (dY z1) (w_br (λ_=>w_lv λx1 hx=>⟨by rw[hx];exact Qp4 h1 _ U_0,h2,h3,h4,h5,h6⟩) (λ_=>w_nx ?_))) (λ_=>⟨h1,h2,h3,h4,h5,h6⟩)
 have hb:=oY hb
 show(0<=i64.wrap (z+1)/\i64.wrap (z+1)<=5)/\(5-i64.wrap (z+1)).toNat<(5-z).toNat
 have ew:i64.wrap (z+1)=z+1:=by rw[wrap_i64];omega
 rw[ew];omega
theorem Qfl{P:Nat}{m:List Int}(h:Q15 P m):Q40 m=P:=by
 obtain⟨h1,h2,h3,_⟩:=h
 simp only[Q40,Qoh,Tree.m]
 have e:(m.length:Int)=32*P:=by omega
 rw[e]
 have e1:(Int.tmod (32*(P:Int)) 32 !=0)=false:=by simp [Int.mul_tmod_right]
 have e2:decide ((32*(P:Int))>1024)=false:=dN (by omega)
 rw[e1,e2]
 simp only[cond_false]
 rw[Int.mul_tdiv_cancel_left _ (by decide),wrap_i64];omega
theorem Qmq{P:Nat}{m:List Int}(h:Q15 P m){f:Int}(hf:U f):Q27 m f=decide (f<P):=by
 have:=Qfl h
 obtain⟨h1,h2⟩:=hf
 have h3:=h.p2
 simp only[Q27,Qjm,Tree.m,letv,this]
 congr 1
 rw[wrap_u64,wrap_u64,Int.emod_eq_of_lt h1 (by omega),Int.emod_eq_of_lt (by omega) (by omega)]
theorem z7{P:Nat}{m:List Int}(h:Q15 P m):(Qf8 m).w (λr=>r=m):=by
 obtain⟨h1,h2,h3,_⟩:=h
 unfold Qf8
 refine w_cn ?_ ?_
 . simp [Nat.blt,D.plain];omega
 . show _=_
   simp
theorem put_w{P:Nat}{m:List Int}(h:Q15 P m){addr size v:Int}(ha:U addr)(hl:addr<4*m.length)(hv:U v):(Qew m addr size v).w (Q15 P):=by
 obtain⟨h1,h2,h3,h4⟩:=h
 obtain⟨a1,a2⟩:=ha
 have e:wrap u32 (Int.tdiv addr 4)=addr/4:=by rw[wrap_u32,Int.tdiv_eq_ediv_of_nonneg a1];omega
 have hc:(Nat.beq 1 1&&Nat.blt 0 1&&decide (0<=wrap u32 (Int.tdiv addr 4)/\wrap u32 (Int.tdiv addr 4)<(m.length:Int)))=true:=by
   rw[e];simp [Nat.blt];omega
 have h0: ∀x,decide (0<=wrap u32 x)=true:=λx=>dY (Q0s x).1
 have hs: ∀i v,U v->Q15 P (m.set i v):=λi v hv=>⟨by simp [h1],h2,h3,Z6c h4 hv i⟩
 unfold Qew
 exact w_br (λ_=>w_cn hc (hs _ _ hv)) (λ_=>w_cn hc (w_cn (h0 _) (w_cn (h0 _) (w_cn hc (hs _ _ (U_or _ _))))))
theorem y7{P:Nat}{m:List Int}(h:Q15 P m){frame:Int}(f0:0<=frame)(f1:frame<P)(s:List UInt8):(Q9x m frame s).w (Q15 P):=by
 unfold Q9x
 have h3:=h.p2
 refine w_lp (inv:=λz=>0<=z.1/\z.1<=128/\Q15 P z.2) (μ:=Qjf m frame s) ⟨by omega,by omega,h⟩ (Nat.lt_succ_self _) (λv0 hv0=> ?_)
 obtain⟨i0,i1,hm⟩:=hv0
 refine w_br (λh1=>w_br (λh2=>w_cn ?_ ?_) (λ_=>hm)) (λ_=>hm)
 . have:=oY h1
   simp [Nat.blt];omega
 . have h2:=oY h2
   have e:wrap u32 (wrap i64 (wrap i64 (frame*128)+v0.1))=frame*128+v0.1:=by
     rw[wrap_u32,wrap_i64,wrap_i64];omega
   rw[e]
   obtain⟨g1,g2⟩:=Tree.pp (put_w hm (size:=1) (addr:=frame*128+v0.1) ⟨by omega,by omega⟩ (by rw[hm.len];omega) (Q0s (UInt8.toNat (s.getD v0.1.toNat 0))))
   refine w_an g1 (w_lv λx0 hx0=> ?_)
   rw[hx0]
   have ew:i64.wrap (v0.1+1)=v0.1+1:=by rw[wrap_i64];omega
   refine w_nx ?_
   show(0<=i64.wrap (v0.1+1)/\i64.wrap (v0.1+1)<=128/\Q15 P _)/\(128-i64.wrap (v0.1+1)).toNat<(128-v0.1).toNat
   rw[ew]
   exact⟨⟨by omega,by omega,g2⟩,by omega⟩
theorem Zme{P:Nat}{m:List Int}(h:Q15 P m){d:Q0f}(hd:Q95 d)(e:Q0a):(Q6h d m e).w (λr=>Q95 r.1/\Q15 P r.2.2):=by
 have fl:Q27 m d.B3=true->(Q9x m (i64.wrap d.B3) e.C8).w (Q15 P):=λhp=>by
   rw[Qmq h hd.opFrame]at hp
   have:=oY hp
   have h1:=hd.opFrame.1
   have h3:=h.p2
   have ew:i64.wrap d.B3=d.B3:=by rw[wrap_i64];omega
   rw[ew]
   exact y7 h h1 this _
 have l0:Q95 d/\Q15 P m:=⟨hd,h⟩
 have l1: ∀st,Q95 {Blocks:=d.Blocks,C0:=d.C0,Frame:=d.Frame,C1:=st,D8:=0,B7:=0,B3:=0,C3:=[]}:=λst=>⟨hd.block,hd.frame,U_0,U_0⟩
 unfold Q6h
 repeat'(first
   |exact l0
   |exact⟨l1 _,h⟩
   |refine w_br (λ_=> ?_) (λ_=> ?_)
   |refine w_lv (λ_ _=> ?_))
 all_goals(
   first
     | (have hp:Q27 m d.B3=true:=by simp_all
        obtain⟨g1,g2⟩:=Tree.pp (fl hp)
        refine w_an g1 (w_lv λx hx=> ?_)
        rw[hx]
        exact w_br (λ_=>⟨l1 _,g2⟩) (λ_=>⟨l1 _,g2⟩))
     |(exfalso;simp_all;done))
section
variable {c:Q05} (h:Q2g c)
include h
theorem Z3e(k:Int){b:Int}(hb:U b):Q2g (Q2w c k b):=by
 refine(Tree.post (Qjy c k b) (W:=Q2g) ?_)
 unfold Qjy
 refine w_lv λ_ _=>w_lv λ_ _=>⟨h.x,h.a1,?_⟩
 intro w hw
 simp only[A8.l,List.mem_cons,List.not_mem_nil,or_false]at hw
 rcases hw with rfl|rfl|rfl|rfl|rfl|rfl|rfl|rfl
 . exact U_or _ _
 . exact h.a1
 . exact h.pc
 . exact Q0s _
 . exact hb
 . exact h.a5
 . exact h.a6
 . exact h.a7
theorem xU:Q2g (Qia c):=by
 refine(Tree.post (Qdr c) (W:=Q2g) ?_)
 unfold Qdr
 refine w_lv λ_ _=>w_lv λ_ _=>⟨h.x,h.a2,?_⟩
 intro w hw
 simp only[A8.l,List.mem_cons,List.not_mem_nil,or_false]at hw
 rcases hw with rfl|rfl|rfl|rfl|rfl|rfl|rfl|rfl
 . exact U_or _ _
 . exact h.a1
 . exact h.a2
 . exact h.a3
 . exact h.a4
 . exact h.a5
 . exact h.a6
 . exact h.a7
theorem Z73(r:Int){v:Int}(hv:U v):(Qf7 c r v).w Q2g:=by
 unfold Qf7
 refine w_br (λh1=>w_br (λh2=>w_cn ?_ ⟨Zjd h.x hv _,h.pc,h.csr⟩) (λ_=>h)) (λ_=>h)
 have h1:=oY h1
 have h2:=oY h2
 simp [Nat.blt];omega
theorem qaz(k:Int){v:Int}(hv:U v):(Qcy c k v).w Q2g:=by
 have ok: ∀i v,U v->Q2g {X:=c.X,Pc:=c.Pc,B5:=A8.of 0 (List.set (A8.l c.B5) i v)}:=λi v hv=>⟨h.x,h.pc,Zgh h.csr hv i⟩
 unfold Qcy
 repeat'(first
   |exact h
   |exact ok _ _ (Q0s _)
   |exact ok _ _ hv
   |refine w_br (λhk=> ?_) (λ_=> ?_)
   |refine w_cn (by rw[eq_of_beq (by assumption:(k==_)=true)];decide) ?_)
end
section
variable {P:Nat} {m:List Int} (h:Q15 P m)
include h
theorem Zc2(a:Int){size:Int}(hs:size=1\/size=4):(Q8f m a size).w (λb=>b=true->a<128*P):=by
 have hp:=Qfl h
 have h2:=h.p2
 have e:decide (wrap u32 size≠0)=true:=by rcases hs with rfl|rfl<;>decide
 have l: ∀x,x=Q40 m->decide (a<wrap u32 (wrap i64 (128*x)))=true->a<128*P:=λx hx hd=>by
   rw[hx,hp,wrap_u32,wrap_i64]at hd
   have:=oY hd
   omega
 unfold Q8f
 refine w_br (λ_=>w_br (λ_=>λh=>by cases h) (λ_=> ?_)) (λ_=> ?_)<;>
 exact w_cn e (w_br (λ_=>w_lv λx hx=>l x hx) (λ_=>λh=>by cases h))
theorem idx{a:Int}(ha:U a)(hl:a<128*P):(Nat.beq 1 1&&Nat.blt 0 1&&decide (0<=wrap u32 (Int.tdiv a 4)/\wrap u32 (Int.tdiv a 4)<(m.length:Int)))=true:=by
 obtain⟨a1,a2⟩:=ha
 have e:wrap u32 (Int.tdiv a 4)=a/4:=by rw[wrap_u32,Int.tdiv_eq_ediv_of_nonneg a1];omega
 have:=h.len
 rw[e];simp [Nat.blt];omega
theorem Zgv{a:Int}(ha:U a){size:Int}(hs:size=1\/size=4):(Q3t m a size).w (λr=>U r.1):=by
 obtain⟨g1,g2⟩:=Tree.pp (Zc2 h a hs)
 unfold Q3t
 refine w_an g1 (w_lv λx hx=>w_br (λ_=>U_0) (λhb=> ?_))
 have hb:x=true:=by simpa using hb
 have hl:=g2 (hx.symm.trans hb)
 refine w_cn (idx h ha hl) (w_br (λ_=>w_cn (dY (Q0s _).1) (Q0s _)) (λ_=>Ql7 h.u _))
theorem qaO{a:Int}(ha:U a)(access:Int):(Qet m a access).w (Q15 P):=by
 obtain⟨g1,g2⟩:=Tree.pp (Zc2 h a (size:=4) (.inr rfl))
 have hs: ∀{m:List Int} i v,Q15 P m->U v->Q15 P (m.set i v):=λi v h hv=>⟨by simp [h.len],h.p1,h.p2,Z6c h.u hv i⟩
 unfold Qet
 refine w_an g1 (w_lv λx hx=>w_br (λ_=>h) (λhb=> ?_))
 have hb:x=true:=by simpa using hb
 have hl:=g2 (hx.symm.trans hb)
 have i0:=idx h ha hl
 have h':=hs (Int.toNat (wrap u32 (Int.tdiv a 4))) (ior u32 (m.getD (Int.toNat (wrap u32 (Int.tdiv a 4))) 0) 8) h (U_or _ _)
 have i1:=idx h' ha hl
 exact w_cn i0 (w_cn i0 (w_br (λ_=>w_cn i1 (w_cn i1 (hs _ _ h' (U_or _ _)))) (λ_=>h')))
theorem v7{root va:Int}(hr:U root)(hv:U va)(access:Int):(Qa m root va access).w (λt=>U t.Addr/\U t.F2/\(t.F0=0->t.Addr<128*P)):=by
 have hp:=Qfl h
 have h2:=h.p2
 have hlen:=h.len
 obtain⟨r1,r2⟩:=hr
 obtain⟨v1,v2⟩:=hv
 unfold Qa
 refine w_lv λx0 hx0=>w_lv λx1 hx1=>w_lv λx2 _=> ?_
 have hc:x0≠0:=by
   rw[hx0]
   simp only[Q22,Q8w,Tree.m]
   cases access==1<;>cases access==3<;>simp
 rw[hp]at hx1
 have bad:U (0:Int)/\U (0:Int)/\(x0=0->(0:Int)<128*P):=⟨U_0,U_0,λe=>absurd e hc⟩
 refine w_br (λ_=>bad) (λ_=>w_br (λ_=>bad) (λhva=>w_br (λ_=>bad) (λhro=> ?_)))
 have hva:=oN hva
 have hro:=oN hro
 have e1:wrap u32 x1=P:=by rw[hx1,wrap_u32];omega
 rw[e1]at hro
 have e2:wrap u32 (wrap u32 (root*128)+wrap u32 (4*wrap u32 (Int.tdiv va 128)))=root*128+4*(va/128):=by
   rw[Int.tdiv_eq_ediv_of_nonneg v1,wrap_u32,wrap_u32,wrap_u32,wrap_u32];omega
 have hU:U (wrap u32 (wrap u32 (root*128)+wrap u32 (4*wrap u32 (Int.tdiv va 128)))):=Q0s _
 have ci:=idx h hU (by rw[e2];omega)
 have good: ∀w:Int,decide (iand u32 w 255>=wrap u32 x1)=false->(U (wrap u32 (wrap u32 (iand u32 w 255*128)+Int.tmod va 128))/\U (wrap u32 (wrap u32 (root*128)+wrap u32 (4*wrap u32 (Int.tdiv va 128))))/\((0:Int)=0->wrap u32 (wrap u32 (iand u32 w 255*128)+Int.tmod va 128)<128*P)):=λw hw=>by
   have hw:=oN hw
   rw[e1]at hw
   have hn:=(Zkd w 255).1
   refine⟨Q0s _,Q0s _,λ_=> ?_⟩
   rw[Int.tmod_eq_emod_of_nonneg v1,wrap_u32,wrap_u32]
   generalize iand u32 w 255=q at*
   omega
 refine w_cn ci ?_
 repeat'(first
   |exact bad
   |exact good _ (by assumption)
   |refine w_br (λ_=> ?_) (λ_=> ?_)
   |refine w_cn ci ?_)
theorem Z9z{c:Q05}(hc:Q2g c){va:Int}(hv:U va){size:Int}(hs:size=1\/size=4)(access:Int):(Q7z c m va size access).w (λr=>Q15 P r.2.2/\U r.1/\(r.2.1=0->r.1<128*P)):=by
 have e:decide (wrap u32 size≠0)=true:=by rcases hs with rfl|rfl<;>decide
 obtain⟨g1,g2⟩:=Tree.pp (Zc2 h va hs)
 obtain⟨k1,k2⟩:=Tree.pp (v7 h hc.a6 hv access)
 have bad: ∀k:Int,k≠0->Q15 P m/\U (0:Int)/\(k=0->(0:Int)<128*P):=λk hk=>⟨h,U_0,λe=>absurd e hk⟩
 have hca:Q22 access≠0:=by
   simp only[Q22,Q8w,Tree.m]
   cases access==1<;>cases access==3<;>simp
 unfold Q7z
 refine w_lv λx0 _=>w_br (λ_=>bad 5 (by decide)) (λ_=>w_br (λh1=>w_br (λh2=> ?_) (λ_=> ?_)) (λ_=> ?_))
 . exact bad 5 (by decide)
 all_goals(
   refine w_cn e (w_br (λ_=>bad 3 (by decide)) (λ_=>w_lv λx1 _=>w_br (λ_=>w_an g1 (w_lv λx2 hx2=>w_br (λ_=>w_lv λx3 hx3=>bad x3 (by rw[hx3];exact hca)) (λhb=> ?_))) (λ_=>w_an k1 (w_lv λx4 hx4=>w_br (λhb=> ?_) (λhb=> ?_)))))
   . have hb:x2=true:=by simpa using hb
     exact⟨h,hv,λ_=>g2 (hx2.symm.trans hb)⟩
   . exact bad _ (by simpa using hb)
   . obtain⟨t1,t2,t3⟩:=k2
     rw[show(Qa m c.B5.a6 va access).m=x4 from hx4.symm]at t1 t2 t3
     obtain⟨m1,m2⟩:=Tree.pp (qaO h t2 access)
     refine w_an m1 (w_lv λx5 hx5=> ?_)
     exact⟨hx5▸m2,t1,λ_=>t3 (by simpa using hb)⟩)
end
theorem yw{r:Int}(h:Q8a r=true):0<=r/\r<16:=by
 simp only[Q8a,Qdo,Tree.m]at h
 cases h1:decide (r>=0)<;>rw[h1]at h
 . cases h
 . have h1:=oY h1
   have h:=oY h
   omega
theorem zU{i:Q0l}(hi:wrap .i64 i.Imm=i.Imm)(h:Q7w i=true):Qgh i:=by
 have no:false=true->Qgh i:=λh=>by cases h
 refine(Tree.post (Qgm i) (W:=λb=>b=true->Qgh i) ?_) h
 unfold Qgm
 refine w_lv λx0 h0=>w_br (λ_=>no) (λ_=>w_lv λx1 h1=>w_br (λ_=>no) (λb1=>w_lv λx2 h2=>w_br (λ_=>no) (λb2=>w_lv λx3 h3=>w_br (λ_=>no) (λb3=>w_lv λx4 h4=>w_br (λ_=>no) (λb4=>w_br (λ_=>no) (λb5=> ?_))))))
 have b1:x1=true:=by simpa using b1
 have b2:x2=true:=by simpa using b2
 have b3:x3=true:=by simpa using b3
 have b4:=oN b4
 have b5:=oN b5
 rw[hi]at b4 b5
 have ok:Qgh i:=⟨yw (h1.symm.trans b1),yw (h2.symm.trans b2),yw (h3.symm.trans b3),λe=>by
   rw[e]at h0
   have h0:x0=8:=h0
   subst h0
   have h4:x4=(0,7):=h4
   subst h4
   simp at b4 b5;omega⟩
 repeat'(first
   |exact λ_=>ok
   |exact no
   |refine w_br (λ_=> ?_) (λ_=> ?_))
theorem Zl7(w:Int):(Q6o w).w (λr=>r.2=true->Qgh r.1):=by
 have no: ∀{p:Prop},false=true->p:=λh=>by cases h
 have e: ∀x,wrap .i64 (wrap .i32 x)=wrap .i32 x:=λx=>by rw[wrap_i64,wrap_i32];omega
 have ok: ∀i,wrap .i64 i.Imm=i.Imm-> ∀x,x=Q7w i->(!x)=false->true=true->Qgh i:=λi hi x hx hb _=>zU hi (hx.symm.trans (by simpa using hb))
 unfold Q6o
 refine w_lv λx0 _=> ?_
 have l: ∀i,wrap .i64 i.Imm=i.Imm->(Tree.lv (Q7w i) λx=> .br (!x) (.lf ((⟨0,0,0,0,0⟩:Q0l),false)) (.lf (i,true))).w (λr=>r.2=true->Qgh r.1):=λi hi=>w_lv λx hx=>w_br (λ_=>no) (λhb=>ok i hi x hx hb)
 refine w_br (λ_=>no) (λ_=>w_br (λ_=>l _ rfl) (λ_=>w_br (λ_=>l _ (e _)) (λ_=>w_br (λ_=>l _ (e _)) (λ_=>l _ (e _)))))
theorem bit_w(b:Bool):U (Qc2 b):=by cases b<;>exact⟨by decide,by decide⟩
theorem Zmd{a b:Int}(ha:U a)(hb:U b):(Qaw a b).w (λr=>U r.1/\U r.2):=by
 unfold Qaw
 refine w_br (λ_=>⟨⟨by omega,by omega⟩,ha⟩) (λh=> ?_)
 have h: ¬b=0:=by simpa using h
 obtain⟨b1,b2⟩:=hb
 have hc:decide (wrap i64 (wrap i32 b)≠0)=true:=dY (by rw[wrap_i64,wrap_i32];omega)
 exact w_cn hc (w_cn hc ⟨Q0s _,Q0s _⟩)
theorem alu_w(op:Int){a b:Int}(ha:U a)(hb:U b):(Qlz op a b).w (λr=>U r.1):=by
 unfold Qlz
 refine w_lv λx0 _=> ?_
 repeat'(first
   |exact Q0s _
   |exact Qx3 ha _
   |exact U_0
   |refine w_br (λ_=> ?_) (λ_=> ?_)
   |exact Q0e (Zmd ha hb) λx hx=>hx.1
   |exact Q0e (Zmd ha hb) λx hx=>hx.2
   |exact w_lv λx hx=>(by rw[hx];exact bit_w _))
theorem vw{x:Int}(hx:U x):(Q7p x 8).w U:=by
 unfold Q7p
 have h0:decide (0<=wrap u64 8)=true:=by decide
 refine w_br (λh=>absurd h (by decide)) λ_=>w_br (λh=>absurd h (by decide)) λ_=>w_cn h0 (w_cn (by decide) (w_br (λ_=>w_cn h0 (U_or _ _)) (λ_=>Zkd _ _)))
section
variable {c:Q05} (h:Q2g c) {i:Q0l} (hi:Qgh i)
include h hi
theorem yU:(Q8e c i).w (λr=>Q2g r.1/\U r.2.Value):=by
 unfold Q8e
 refine w_br (λ_=>w_lv λx hx=>⟨hx▸Z3e h _ U_0,U_0⟩) (λ_=>w_br (λ_=>w_lv λx hx=>⟨hx▸xU h,U_0⟩) (λ_=>w_br (λe=>w_cn ?_ (Q0e (Z73 h _ (h.a _)) λx hx=>⟨hx.pcs (Q0s _),U_0⟩)) (λ_=>w_br (λ_=>w_cn (rc hi.a) (Q0e (qaz h _ (h.r _)) λx hx=>⟨hx.pcs (Q0s _),U_0⟩)) (λ_=> ?_))))
 . have:=hi.csr (by simpa using e)
   simp [Nat.blt];omega
 . have k:=h.pcs (Q0s (c.Pc+4))
   repeat'(first
     |exact⟨k,U_0⟩
     |exact⟨k,h.r _⟩
     |refine w_br (λ_=> ?_) (λ_=> ?_)
     |refine w_cn (rc hi.a) ?_)
theorem zaO:(Qjg c i).w Q2g:=by
 unfold Qjg
 exact w_br (λ_=>Q0e (Z73 h _ (Q0s _)) λx hx=>hx.pcs (Q0s _)) (λ_=>w_br (λ_=>w_cn (rc hi.b) (Q0e (Z73 h _ (Q0s _)) λx hx=>hx.pcs (Q0s _))) (λ_=>w_cn (rc hi.a) (w_cn (rc hi.b) (w_lv λx _=>w_br (λ_=>h.pcs (Q0s _)) (λ_=>h.pcs (Q0s _))))))
theorem Zn6{P:Nat}{m:List Int}(hm:Q15 P m):(Qa4 c m i).w (λr=>Q2g r.1/\Q15 P r.2):=by
  unfold Qa4
  refine w_cn (rc hi.b) ?_
  have e1:(1:Int)=1\/(1:Int)=4:= .inl rfl
  have e4:(4:Int)=1\/(4:Int)=4:= .inr rfl
  repeat'(first
    |refine w_br (λ_=> ?_) (λ_=> ?_)
    | (refine Q0e (Z9z hm h (Q0s _) e4 _) λx hx=> ?_
       obtain⟨m1,m2,m3⟩:=hx
       refine w_br (λ_=>w_lv λy hy=>⟨hy▸Z3e h _ (Q0s _),m1⟩) (λhb=> ?_)
       have m3:=m3 (by simpa using hb)
       have m4:x.1<4*x.2.2.length:=by rw[m1.len];omega
       clear hb)
    | (refine Q0e (Z9z hm h (Q0s _) e1 _) λx hx=> ?_
       obtain⟨m1,m2,m3⟩:=hx
       refine w_br (λ_=>w_lv λy hy=>⟨hy▸Z3e h _ (Q0s _),m1⟩) (λhb=> ?_)
       have m3:=m3 (by simpa using hb)
       have m4:x.1<4*x.2.2.length:=by rw[m1.len];omega
       clear hb)
    |exact w_cn (rc hi.a) (Q0e (put_w (by assumption) (by assumption) (by assumption) (h.r _)) λy hy=>⟨h.pcs (Q0s _),hy⟩)
    |(refine Q0e (Zgv (by assumption) (by assumption) e4) λy hy=> ?_)
    |(refine Q0e (Zgv (by assumption) (by assumption) e1) λy hy=> ?_)
    |exact Q0e (vw (by assumption)) λz hz=>Q0e (Z73 h _ hz) λu hu=>⟨hu.pcs (Q0s _),by assumption⟩
    |exact Q0e (Z73 h _ (by assumption)) λu hu=>⟨hu.pcs (Q0s _),by assumption⟩)
end
theorem do_w{c:Q05}(h:Q2g c){P:Nat}{m:List Int}(hm:Q15 P m):(Qol c m).w (λr=>Q2g r.1/\U r.2.1.Value/\Q15 P r.2.2):=by
 unfold Qol
 refine Q0e (Z9z hm h h.pc (.inr rfl) 1) λx0 hx=> ?_
 obtain⟨m1,m2,m3⟩:=hx
 refine w_br (λ_=>w_lv λy hy=>⟨hy▸Z3e h _ h.pc,U_0,m1⟩) (λhb=> ?_)
 refine Q0e (Zgv m1 m2 (.inr rfl)) λx2 h2=>Zh9 (Zl7 _) λx3 h3=>w_br (λ_=>w_lv λy hy=>⟨hy▸Z3e h _ h2,U_0,m1⟩) (λb3=> ?_)
 have hi:=h3 (by simpa using b3)
 refine w_lv λx5 _=> ?_
 repeat'(first
   |refine w_br (λ_=> ?_) (λ_=> ?_)
   |exact w_lv λy hy=>⟨hy▸Z3e h _ h2,U_0,m1⟩
   |exact Q0e (yU h hi) λy hy=>⟨hy.1,hy.2,m1⟩
   |exact Q0e (zaO h hi) λy hy=>⟨hy,U_0,m1⟩
   |exact Q0e (Zn6 h hi m1) λy hy=>⟨hy.1,U_0,hy.2⟩
   |exact Q0e (Z73 h _ (Q0s _)) λy hy=>⟨hy.pcs (Q0s _),U_0,m1⟩
   |refine w_cn (rc hi.c) ?_
   |refine w_cn (rc hi.b) ?_
   |exact Q0e (alu_w _ (h.r _) (h.r _)) λy hy=>Q0e (Z73 h _ hy) λz hz=>⟨hz.pcs (Q0s _),U_0,m1⟩
   |exact Q0e (alu_w _ (h.r _) (Q0s _)) λy hy=>Q0e (Z73 h _ hy) λz hz=>⟨hz.pcs (Q0s _),U_0,m1⟩)
theorem and1{q:Int}(h:U q):iand .u32 q 1=q%2:=by
 obtain⟨h1,h2⟩:=h
 unfold iand
 rw[wrap_u32]
 have e1:(BitVec.ofInt 32 q).toNat=q.toNat:=by rw[BitVec.toNat_ofInt];omega
 have e2:(BitVec.ofInt 32 1).toNat=1:=by decide
 have:(BitVec.ofInt u32.bits q&&&BitVec.ofInt u32.bits 1).toNat=q.toNat%2:=by
   show(BitVec.ofInt 32 q&&&BitVec.ofInt 32 1).toNat=_
   rw[BitVec.toNat_and,e1,e2,Nat.and_one_is_mod]
 rw[this];omega
theorem Zgm(b:Bool)(n:Int):(Qig b n).w (λ_=>True):=by
 unfold Qig
 exact w_br (λ_=>w_cn (dY (by rw[wrap_u64];omega)) trivial) (λ_=>trivial)
theorem zaz(m:Q00):(Qgp m).w (λ_=>True):=by
 unfold Qgp
 exact w_lv λ_ _=>Q0e (Zgm _ _) λ_ _=>w_lv λ_ _=>Q0e (Zgm _ _) λ_ _=>w_lv λ_ _=>Q0e (Zgm _ _) λ_ _=>w_lv λ_ _=>Q0e (Zgm _ _) λ_ _=>w_lv λ_ _=>Q0e (Zgm _ _) λ_ _=>trivial
theorem Zhw(m:Q00):(Q8s m).w U:=by
 unfold Q8s
 exact Q0e (zaz m) λ_ _=>Zkd _ _
theorem z8(m:Q00):(Qer m).w (λ_=>True):=by
 unfold Qer
 exact w_br (λ_=>Q0e (Zhw m) λ_ _=>trivial) (λ_=>trivial)
theorem Zjs(m:Q00):(Q7y m).w (λ_=>True):=by
 unfold Q7y
 exact w_lv λ_ _=>w_br (λ_=>trivial) (λ_=>w_br (λ_=>trivial) (λ_=>Q0e (z8 m) λ_ _=>w_br (λ_=>trivial) (λ_=>trivial)))
theorem Qmr{m:Q00}(h:Q2g m.B2):(Q4v m).w Q2g:=by
 unfold Q4v
 refine Q0e (Zhw m) λx0 hx=>w_br (λ_=>h) (λ_=>w_br (λ_=>h) (λhb=> ?_))
 have hb:x0≠0:=by simpa using hb
 have sh: ∀z:Int,0<=z->z<=31->ishr .u32 x0 (wrap .u64 z)=x0/2^z.toNat:=λz h1 h2=>by
   unfold ishr
   have e:min (wrap .u64 z).toNat u32.bits=z.toNat:=by
     show min (wrap .u64 z).toNat 32=z.toNat
     rw[wrap_u64];omega
   rw[e,Int.fdiv_eq_ediv_of_nonneg _ (Int.le_of_lt (Int.pow_pos (by decide)))]
 refine w_lp (inv:=λz=>0<=z/\z<=31/\x0/2^z.toNat≠0) (μ:=Qek m) ⟨by omega,by omega,by simpa using hb⟩ (Nat.lt_succ_self _) (λz hz=> ?_)
 obtain⟨z1,z2,z3⟩:=hz
 refine w_cn (dY (by rw[wrap_u64];omega)) (w_br (λe=>w_nx ?_) (λ_=>w_lv λy hy=>hy▸Z3e h _ U_0))
 have e:=eq_of_beq e
 have hq:=Qx3 hx (wrap .u64 z)
 rw[and1 hq,sh z z1 z2]at e
 rw[sh z z1 z2]at hq
 have hlt:x0/2^z.toNat/2≠0:=by omega
 have z4:z<=30:=by
   rcases Int.lt_or_le z 31 with h|h
   . omega
   . have:z=31:=by omega
     subst this
     have:=hx.2
     have:=hx.1
     simp at z3 e hlt
     omega
 show(0<=i64.wrap (z+1)/\i64.wrap (z+1)<=31/\x0/2^(i64.wrap (z+1)).toNat≠0)/\(32-i64.wrap (z+1)).toNat<(32-z).toNat
 have ew:i64.wrap (z+1)=z+1:=by rw[wrap_i64];omega
 rw[ew]
 refine⟨⟨by omega,by omega,?_⟩,by omega⟩
 have et:(z+1).toNat=z.toNat+1:=by omega
 rw[et,Int.pow_succ,<-Int.ediv_ediv_of_nonneg (Int.le_of_lt (Int.pow_pos (by decide)))]
 exact hlt
theorem qx{P:Nat}{m:Q00}(h:Q2g m.B2)(hm:Q15 P m.Mem):(Qgf m).w (λ_=>True):=by
 unfold Qgf
 refine Q0e (Qmr h) λx0 hx=>w_br (λ_=>trivial) (λ_=>Q0e (Zgv hm hx.pc (.inr rfl)) λx1 _=>w_lv λx2 _=> ?_)
 exact w_br (λ_=>w_br (λ_=>w_br (λ_=>trivial) (λ_=>trivial)) (λ_=>trivial)) (λ_=>trivial)
theorem Qyi{P:Nat}{m:Q00}(h:Q2g m.B2)(hm:Q15 P m.Mem):(Q7t m).w (λ_=>True):=by
 unfold Q7t
 exact Q0e (Zjs m) λ_ _=>w_br (λ_=>trivial) (λ_=>Q0e (qx h hm) λ_ _=>trivial)
theorem Qjr(l:List Int):(bytesOf l).length=l.length:=by simp [bytesOf]
theorem Qqp(l:List UInt8):(Qbr l).length=l.length:=by simp [Qbr]
theorem low_w(x:Int):(Qhz x 4).w (λr=>r.length=4):=by
 unfold Qhz
 refine w_lp (inv:=λz=>0<=z.1/\z.1<=4/\(z.2.length:Int)=z.1) (μ:=Qfn x 4) ⟨by omega,by omega,rfl⟩ (Nat.lt_succ_self _) (λz hz=> ?_)
 obtain⟨z1,z2,z3⟩:=hz
 refine w_br (λh=>w_cn (dY (by rw[wrap_u64];omega)) (w_cn (dY (by omega)) (w_nx ?_))) (λh=> ?_)
 . have h:=oY h
   show(0<=i64.wrap (z.1+1)/\i64.wrap (z.1+1)<=4/\((z.2++[_]).length:Int)=i64.wrap (z.1+1))/\(4-i64.wrap (z.1+1)).toNat<(4-z.1).toNat
   have ew:i64.wrap (z.1+1)=z.1+1:=by rw[wrap_i64];omega
   rw[ew]
   refine⟨⟨by omega,by omega,by simp;omega⟩,by omega⟩
 . have h:=oN h
   show(bytesOf z.2).length=4
   rw[Qjr];omega
theorem y8{P:Nat}{m:List Int}(hm:Q15 P m)(frame:Int):(Q9y m frame).w (λr=>0<=frame->frame<P->r.1.length=128):=by
 have hp:=Qfl hm
 have hl:=hm.len
 have h2:=hm.p2
 unfold Q9y
 refine w_br (λh=>λh0 _=>by have:=oY h;omega) (λh=>w_lv λx0 hx=>w_br (λh1=>λ_ h2=>by have:=oY h1;rw[hx,hp]at this;omega) (λh1=> ?_))
 have h:=oN h
 have h1:=oN h1
 rw[hx,hp]at h1
 refine w_lp (inv:=λz=>0<=z.1/\z.1<=32/\(z.2.length:Int)=4*z.1) (μ:=Qj4 m frame) ⟨by omega,by omega,rfl⟩ (Nat.lt_succ_self _) (λz hz=> ?_)
 obtain⟨z1,z2,z3⟩:=hz
 refine w_br (λhb=> ?_) (λhb=> ?_)
 . have hb:=oY hb
   have e:wrap i64 (wrap i64 (frame*32)+z.1)=frame*32+z.1:=by rw[wrap_i64,wrap_i64];omega
   refine w_cn (by rw[e];simp [Nat.blt];omega) (w_an (show(4:Int)<=1000000000000 by decide) (Zh9 (low_w _) λx1 h4=>w_cn (dY (by rw[Qqp,h4];omega)) (w_nx ?_)))
   show(0<=i64.wrap (z.1+1)/\i64.wrap (z.1+1)<=32/\((z.2++Qbr x1).length:Int)=4*i64.wrap (z.1+1))/\(32-i64.wrap (z.1+1)).toNat<(32-z.1).toNat
   have ew:i64.wrap (z.1+1)=z.1+1:=by rw[wrap_i64];omega
   rw[ew,lA,Qqp,h4]
   exact⟨⟨by omega,by omega,by omega⟩,by omega⟩
 . have hb:=oN hb
   intro _ _
   show(bytesOf z.2).length=128
   rw[Qjr];omega
theorem Zgj{P:Nat}{m:List Int}(hm:Q15 P m){d:Q0f}(hd:Q95 d)(port:Int){v:Int}(hv:U v)(at0:Int):(Q8z d m port v at0).w (λr=>Q95 r.1/\r.2.length<=1):=by
 have k: ∀st,Q95 {Blocks:=d.Blocks,C0:=d.C0,Frame:=d.Frame,C1:=st,D8:=d.D8,B7:=d.B7,B3:=d.B3,C3:=d.C3}:=λst=>⟨hd.block,hd.frame,hd.opBlock,hd.opFrame⟩
 have k2: ∀c o,Q95 {Blocks:=d.Blocks,C0:=d.C0,Frame:=d.Frame,C1:=1,D8:=c,B7:=d.C0,B3:=d.Frame,C3:=o}:=λc o=>⟨hd.block,hd.frame,hd.block,hd.frame⟩
 have k3:Q95 {Blocks:=d.Blocks,C0:=v,Frame:=d.Frame,C1:=d.C1,D8:=d.D8,B7:=d.B7,B3:=d.B3,C3:=d.C3}:=⟨hv,hd.frame,hd.opBlock,hd.opFrame⟩
 have k4:Q95 {Blocks:=d.Blocks,C0:=d.C0,Frame:=v,C1:=d.C1,D8:=d.D8,B7:=d.B7,B3:=d.B3,C3:=d.C3}:=⟨hd.block,hv,hd.opBlock,hd.opFrame⟩
 unfold Q8z
 repeat'(first
   |refine w_br (λ_=> ?_) (λ_=> ?_)
   |exact Q0e (y8 hm _) λ_ _=>w_lv λ_ _=>⟨k2 _ _,Nat.le_refl _⟩
   |refine w_lv (λ_ _=> ?_)
   |refine w_lf ?_)
 all_goals(first
   |exact⟨hd,Nat.zero_le _⟩
   |exact⟨k _,Nat.zero_le _⟩
   |exact⟨k2 _ _,Nat.le_refl _⟩
   |exact⟨k3,Nat.zero_le _⟩
   |exact⟨k4,Nat.zero_le _⟩)
theorem Zlz{P:Nat}{m:List Int}(hm:Q15 P m){n:Q0r}(hn:Qk2 n)(port:Int){v:Int}(hv:U v)(at0:Int):(Qao n m port v at0).w (λr=>Qk2 r.1/\r.2.length<=1):=by
 have k1:Qk2 {Frame:=v,E0:=n.E0,C6:=n.C6,B9:=n.B9,B8:=n.B8,F1:=n.F1}:=⟨hv,hn.len,hn.buffer,hn.got⟩
 have k2:Qk2 {Frame:=n.Frame,E0:=v,C6:=n.C6,B9:=n.B9,B8:=n.B8,F1:=n.F1}:=⟨hn.frame,hv,hn.buffer,hn.got⟩
 have k3:Qk2 {Frame:=n.Frame,E0:=n.E0,C6:=n.C6,B9:=n.B9,B8:=false,F1:=0}:=⟨hn.frame,hn.len,hn.buffer,U_0⟩
 have k4: ∀p r,Qk2 {Frame:=n.Frame,E0:=n.E0,C6:=p,B9:=n.Frame,B8:=r,F1:=n.F1}:=λp r=>⟨hn.frame,hn.len,hn.frame,hn.got⟩
 have send: ∀K:List UInt8×Bool->Tree (Q0r×List Q04),Q27 m n.Frame=true->(∀x:List UInt8×Bool,x.1.length=128->(K x).w (λr=>Qk2 r.1/\r.2.length<=1))->(Tree.an (Qhg m (wrap .i64 n.Frame)) (.lv (Qii m (wrap .i64 n.Frame)) K)).w (λr=>Qk2 r.1/\r.2.length<=1):=λK hp hK=>by
   rw[Qmq hm hn.frame]at hp
   have hp:=oY hp
   obtain⟨f1,f2⟩:=hn.frame
   have ew:i64.wrap n.Frame=n.Frame:=by rw[wrap_i64];omega
   exact Q0e (y8 hm _) λx hx=>hK x (hx (by rw[ew];exact f1) (by rw[ew];exact hp))
 unfold Qao
 repeat'(first
   |refine w_br (λ_=> ?_) (λ_=> ?_)
   |refine send _ (by simp_all) (λx hx=>w_cn (by simp_all;exact hn.len.1) ?_)
   |refine w_lv (λ_ _=> ?_)
   |refine w_lf ?_)
 all_goals(first
   |exact⟨hn,Nat.zero_le _⟩
   |exact⟨hn,Nat.le_refl _⟩
   |exact⟨k1,Nat.zero_le _⟩
   |exact⟨k2,Nat.zero_le _⟩
   |exact⟨k3,Nat.zero_le _⟩
   |exact⟨k4 _ _,Nat.zero_le _⟩)
def okB(b:Q09):Prop:=U b.D0/\U b.C2
theorem v8{P:Nat}{m:List Int}(hm:Q15 P m){b:Q09}(hb:okB b)(port:Int){v:Int}(hv:U v):(Q5 b m port v).w (λr=>okB r.1/\Q15 P r.2):=by
 have hv0:decide (0<=v)=true:=dY hv.1
 have h2:=hm.p2
 have rest:(Tree.br (port==11) (.br (decide (v<32)) (.cn (decide (0<=v)) (.lf (({D0:=b.D0,C2:=Qhu .u32 b.C2 (ishl .u32 1 v)}:Q09),m))) (.lf (b,m))) (.lf (b,m))).w (λr=>okB r.1/\Q15 P r.2):=
   w_br (λ_=>w_br (λ_=>w_cn hv0 ⟨⟨hb.1,Q0s _⟩,hm⟩) (λ_=>⟨hb,hm⟩)) (λ_=>⟨hb,hm⟩)
 unfold Q5
 refine w_br (λ_=>w_lv λx0 hx=>w_br (λhp=>w_cn hv0 (w_br (λ_=>w_cn hv0 ?_) (λ_=>rest))) (λ_=>rest)) (λ_=>rest)
 have hp:Q27 m v=true:=hx.symm.trans hp
 rw[Qmq hm hv]at hp
 have hp:=oY hp
 obtain⟨v1,v2⟩:=hv
 refine w_lp (inv:=λz=>0<=z.1/\z.1<=32/\Q15 P z.2) (μ:=Qj7 b m port v) ⟨by omega,by omega,hm⟩ (Nat.lt_succ_self _) (λz hz=> ?_)
 obtain⟨z1,z2,z3⟩:=hz
 have hl:=z3.len
 refine w_br (λh=> ?_) (λ_=>⟨⟨hb.1,Q0s _⟩,z3⟩)
 have h:=oY h
 have e:wrap i64 (wrap i64 (wrap i64 v*32)+z.1)=v*32+z.1:=by rw[wrap_i64,wrap_i64,wrap_i64];omega
 refine w_cn (by rw[e];simp [Nat.blt];omega) (w_nx ?_)
 show(0<=i64.wrap (z.1+1)/\i64.wrap (z.1+1)<=32/\Q15 P (List.set _ _ _))/\(32-i64.wrap (z.1+1)).toNat<(32-z.1).toNat
 have ew:i64.wrap (z.1+1)=z.1+1:=by rw[wrap_i64];omega
 rw[ew]
 exact⟨⟨by omega,by omega,⟨by simp [hl],z3.p1,z3.p2,Z6c z3.u U_0 _⟩⟩,by omega⟩
structure okM(P:Nat)(m:Q00):Prop where
 cpu:Q2g m.B2
 mem:Q15 P m.Mem
 disk:Q95 m.B1
 nic:Qk2 m.C4
 target:okB m.A2
 cnt:0<=m.A1
theorem Z2b(c:Q0c)(port:Int):U (Q5n c port).2:=by
 refine Tree.post (Q3l c port) (W:=λr=>U r.2) ?_
 have u1:U 4294967295:=⟨by omega,by omega⟩
 unfold Q3l
 refine w_br (λ_=>w_br (λ_=>u1) (λh=>w_br (λ_=>w_cn ?_ (w_cn ?_ (Q0s _))) (λ_=>w_br (λ_=>Q0s _) (λ_=>U_0)))) (λh1=>w_br (λh=>(by rw[h1]at h;cases h)) (λ_=>w_br (λ_=>Q0s _) (λ_=>U_0)))
 . have h: ¬(c.D3.length:Int)=0:=by simpa using h
   exact dY ⟨by omega,by omega,by omega⟩
 . have h: ¬(c.D3.length:Int)=0:=by simpa using h
   simp [Nat.blt];omega
theorem xx{n:Q0r}(h:Qk2 n)(port:Int):U (Qi4 n port):=by
 refine Tree.post (Qg3 n port) (W:=U) ?_
 have u1:U 1:=⟨by omega,by omega⟩
 unfold Qg3
 exact w_br (λ_=>h.frame) (λ_=>w_br (λ_=>h.got) (λ_=>w_br (λ_=>w_br (λ_=>w_br (λ_=>Q0s _) (λ_=>u1)) (λ_=>w_br (λ_=>Q0s _) (λ_=>U_0))) (λ_=>U_0)))
theorem Zm{d:Q0f}(h:Q95 d)(port:Int):U (Qjd d port):=by
 refine Tree.post (Qhl d port) (W:=U) ?_
 unfold Qhl
 exact w_br (λ_=>h.block) (λ_=>w_br (λ_=>h.frame) (λ_=>w_br (λ_=>Q0s _) (λ_=>U_0)))
theorem Zel(t:Q0i):U (Qg4 t):=by
 refine Tree.post (Qfp t) (W:=U) ?_
 unfold Qfp
 exact w_br (λ_=>⟨by omega,by omega⟩) (λ_=>U_0)
theorem Z1z{b:Q09}(h:U b.D0)(port:Int):U (Q5m b port):=by
 refine Tree.post (Q6c b port) (W:=U) ?_
 unfold Q6c
 exact w_br (λ_=>h) (λ_=>w_br (λ_=>w_lv λ_ _=>Q0s _) (λ_=>U_0))
structure okR(P:Nat)(r:Q01):Prop where
 m:okM P r.A0
 clock:U r.A3
structure okL(P:Nat)(r x:Q01):Prop where
 ok:okR P x
 log:x.B4=r.B4
 queue:x.A6=r.A6
theorem w0(x:Int):0<=u64.wrap x:=by rw[wrap_u64];omega
section
variable {P:Nat} {r:Q01} (h:okR P r)
include h
theorem in_w(port:Int){clock:Int}(hc:U clock):(Qiu r port clock).w (λx=>U x.1/\okL P r x.2):=by
 have k:okL P r r:=⟨h,rfl,rfl⟩
 obtain⟨⟨h1,h2,h3,h4,h5,h7⟩,h6⟩:=h
 unfold Qiu
 exact w_br (λ_=>w_lv λx hx=>⟨hx▸Z2b _ _,⟨⟨⟨h1,h2,h3,h4,h5,h7⟩,h6⟩,rfl,rfl⟩⟩) (λ_=>w_br (λ_=>⟨hc,k⟩) (λ_=>w_br (λ_=>w_lv λx hx=>⟨hx▸Zel _,k⟩) (λ_=>w_br (λ_=>w_lv λx hx=>⟨hx▸Zm h3 _,k⟩) (λ_=>w_br (λ_=>w_lv λx hx=>⟨hx▸xx h4 _,k⟩) (λ_=>w_lv λx hx=>⟨hx▸Z1z h5.1 _,k⟩)))))
theorem out_w(port:Int){v:Int}(hv:U v):(Qd1 r port v).w (λx=>x.1.length<=1/\okL P r x.2):=by
 have k:okL P r r:=⟨h,rfl,rfl⟩
 obtain⟨⟨h1,h2,h3,h4,h5,h7⟩,h6⟩:=h
 unfold Qd1
 exact w_br (λ_=>⟨Nat.le_refl _,k⟩) (λ_=>w_br (λ_=>⟨Nat.zero_le _,k⟩) (λ_=>w_br (λ_=>w_lv λ_ _=>⟨Nat.zero_le _,⟨⟨⟨h1,h2,h3,h4,h5,h7⟩,h6⟩,rfl,rfl⟩⟩) (λ_=>w_br (λ_=>Q0e (Zgj h2 h3 _ hv _) λx hx=>⟨hx.2,⟨⟨⟨h1,h2,hx.1,h4,h5,h7⟩,h6⟩,rfl,rfl⟩⟩) (λ_=>w_br (λ_=>Q0e (Zlz h2 h4 _ hv _) λx hx=>⟨hx.2,⟨⟨⟨h1,h2,h3,hx.1,h5,h7⟩,h6⟩,rfl,rfl⟩⟩) (λ_=>Q0e (v8 h2 h5 _ hv) λx hx=>⟨Nat.zero_le _,⟨⟨⟨h1,hx.2,h3,h4,hx.1,h7⟩,h6⟩,rfl,rfl⟩⟩)))))
theorem Quw{clock:Int}(hc:U clock):(Q6b r clock).w (λx=>x.1.length<=1/\okL P r x.2):=by
 obtain⟨⟨h1,h2,h3,h4,h5,h7⟩,h6⟩:=h
 unfold Q6b
 refine Q0e (Qmr h1) λx0 c0=>Q0e (do_w c0 h2) λx1 hx=> ?_
 obtain⟨c1,v1,m1⟩:=hx
 refine w_br (λ_=>Zh9 (in_w (r:=⟨⟨_,_,_,_,_,_,_,_,_,_⟩,_,_,_⟩) ⟨⟨c1,m1,h3,h4,h5,h7⟩,h6⟩ _ hc) λx2 hx=> ?_) (λ_=>w_br (λ_=>Q0e (out_w (r:=⟨⟨_,_,_,_,_,_,_,_,_,_⟩,_,_,_⟩) ⟨⟨c1,m1,h3,h4,h5,h7⟩,h6⟩ _ v1) λx4 hx=> ?_) (λ_=> ?_))
 . obtain⟨u,⟨⟨⟨k1,k2,k3,k4,k5,k7⟩,k6⟩,e1,e2⟩⟩:=hx
   exact Q0e (Z73 k1 _ u) λx3 h3=>⟨Nat.zero_le _,⟨⟨⟨h3,k2,k3,k4,k5,w0 _⟩,k6⟩,e1,e2⟩⟩
 . obtain⟨u,⟨⟨⟨k1,k2,k3,k4,k5,k7⟩,k6⟩,e1,e2⟩⟩:=hx
   exact⟨u,⟨⟨⟨k1,k2,k3,k4,k5,w0 _⟩,k6⟩,e1,e2⟩⟩
 . repeat'(first
     |exact⟨Nat.zero_le _,⟨⟨⟨c1,m1,h3,h4,h5,w0 _⟩,h6⟩,rfl,rfl⟩⟩
     |refine w_br (λ_=> ?_) (λ_=> ?_))
end
theorem y9(c:Q0c)(b:Int):(Qc8 c b).w (λ_=>True):=by
 unfold Qc8
 refine w_br (λ_=>trivial) (λh=>w_cn (dY ?_) trivial)
 have h:=oN h
 simp [maxLen];omega
theorem Zn4{P:Nat}{m:List Int}(hm:Q15 P m){n:Q0r}(hn:Qk2 n)(frame:List UInt8):(Q7 n m frame).w (λr=>Qk2 r.1/\Q15 P r.2.2):=by
 unfold Q7
 refine w_br (λ_=>⟨hn,hm⟩) (λ_=>w_br (λ_=>⟨hn,hm⟩) (λ_=>w_br (λ_=>⟨hn,hm⟩) (λ_=>w_lv λx0 hx=>w_br (λ_=>⟨hn,hm⟩) (λhb=> ?_))))
 have hp:Q27 m n.B9=true:=hx.symm.trans (by simpa using hb)
 rw[Qmq hm hn.buffer]at hp
 have hp:=oY hp
 obtain⟨b1,b2⟩:=hn.buffer
 have ew:i64.wrap n.B9=n.B9:=by rw[wrap_i64];omega
 exact Q0e (y7 hm (frame:=i64.wrap n.B9) (by rw[ew];exact b1) (by rw[ew];exact hp) frame) λx hx=>⟨⟨hn.frame,hn.len,U_0,Q0s _⟩,hx⟩
section
variable {P:Nat} {r:Q01} (h:okR P r)
include h
theorem xaz{e:Q0a}(he:U e.N):(Q8t r e).w (λx=>okL P r x.2):=by
 have k:okL P r r:=⟨h,rfl,rfl⟩
 obtain⟨⟨h1,h2,h3,h4,h5,h7⟩,h6⟩:=h
 unfold Q8t
 repeat'(first
   |exact k
   |exact⟨⟨⟨h1,h2,h3,h4,⟨he,h5.2⟩,h7⟩,h6⟩,rfl,rfl⟩
   |exact w_lv λ_ _=>⟨⟨⟨h1,h2,h3,h4,h5,h7⟩,h6⟩,rfl,rfl⟩
   |exact Q0e (y9 _ _) λ_ _=>⟨⟨⟨h1,h2,h3,h4,h5,h7⟩,h6⟩,rfl,rfl⟩
   |exact Q0e (Zme h2 h3 _) λx hx=>⟨⟨⟨h1,hx.2,hx.1,h4,h5,h7⟩,h6⟩,rfl,rfl⟩
   |exact Q0e (Zn4 h2 h4 _) λx hx=>⟨⟨⟨h1,hx.2,h3,hx.1,h5,h7⟩,h6⟩,rfl,rfl⟩
   |refine w_br (λ_=> ?_) (λ_=> ?_))
theorem zx{e:Q0a}(he:U e.N)(hl:r.B4.length<=1000000):(Qab r e).w (λx=>okR P x/\x.B4.length<=r.B4.length+1/\x.A6=r.A6):=by
 have acc:(Q7m r e).w (λx=>okL P r x.2):=by
   unfold Q7m
   exact Q0e (xaz h he) λx hx=>hx
 unfold Qab
 refine Q0e acc λx hx=> ?_
 obtain⟨⟨k1,k2⟩,e1,e2⟩:=hx
 refine w_br (λ_=>w_cn (dY (by rw[e1];omega)) ⟨⟨k1,k2⟩,by simp [e1],e2⟩) (λ_=>⟨⟨k1,k2⟩,by rw[e1];omega,e2⟩)
theorem own_w(hl:r.B4.length<=1000000)(hq:r.A6.length<=1000000):(Qf4 r).w (λx=>okR P x/\x.B4=r.B4/\x.A6=r.A6):=by
 have ow:(Qd5 r.A0).w (λm=>okM P m):=by
   obtain⟨⟨h1,h2,h3,h4,h5,h7⟩,h6⟩:=h
   unfold Qd5
   exact Q0e (z7 h2) λx hx=>⟨h1,by rw[hx];exact h2,h3,h4,h5,h7⟩
 unfold Qf4
 refine Q0e ow λx hx=>w_cn (dY (by simp;omega)) (w_cn (dY (by simp;omega)) ⟨⟨hx,h.clock⟩,rfl,rfl⟩)
theorem vU(e:Q0a)(hl:r.B4.length<=1000000)(hq:r.A6.length<=16)(hu: ∀q∈r.A6,U q.N)(he:U e.N):(Q8r r e).w (λx=>okR P x.1/\x.1.B4=r.B4/\x.1.A6.length<=16/\ ∀q∈x.1.A6,U q.N):=by
 unfold Q8r
 refine Q0e (own_w h hl (by omega)) λx hx=> ?_
 obtain⟨k1,k2,k3⟩:=hx
 have g:okR P x/\x.B4=r.B4/\x.A6.length<=16/\ ∀q∈x.A6,U q.N:=⟨k1,k2,by rw[k3];exact hq,by rw[k3];exact hu⟩
 refine w_lv λx1 _=>w_br (λ_=>g) (λ_=>w_br (λ_=>g) (λ_=>w_br (λ_=>g) (λhb=>w_cn (dY (by rw[k3];omega)) ?_)))
 have hb:=oN hb
 refine⟨⟨k1.m,k1.clock⟩,k2,?_,?_⟩
 . show(x.A6++[e]).length<=16
   rw[lA];simp at hb⊢;omega
 . intro q hq
   have hq:q∈x.A6++[e]:=hq
   rw[List.mem_append]at hq
   rcases hq with hq|hq
   . exact hu q (k3▸hq)
   . rw[List.mem_singleton.1 hq];exact he
end
theorem yx(n:Int):(Q9h n).w (λe=>U e.N):=by
 have u1:U 1:=⟨by omega,by omega⟩
 have ev40: ∀x y,Qax x (wrap .i64 (1+Int.tmod y 40)):=λx y=>by
   show wrap .i64 (1+Int.tmod y 40)<=1000000000000
   have h1:=Int.tmod_lt_of_pos y (b:=40) (by decide)
   have h2:=Int.lt_tmod_of_pos y (b:=40) (by decide)
   rw[wrap_i64];omega
 unfold Q9h
 refine w_lv λx0 _=> ?_
 repeat'(first
   |exact U_0
   |exact u1
   |exact Q0s _
   |exact w_an (show(128:Int)<=1000000000000 by decide) (w_lv λ_ _=>u1)
   |exact w_an (ev40 _ _) (w_lv λ_ _=>U_0)
   |refine w_br (λ_=> ?_) (λ_=> ?_))

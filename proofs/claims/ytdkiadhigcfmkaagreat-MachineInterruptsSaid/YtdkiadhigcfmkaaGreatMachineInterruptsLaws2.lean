/-
  A part of the proof.
-/
import Derived.Test.YtdkiadhigcfmkaaGreatMachineInterruptsYe
import Derived.Test.YtdkiadhigcfmkaaGreatMachineInterruptsZa
import Derived.Test.YtdkiadhigcfmkaaGreatMachineInterruptsZb
import Derived.Test.YtdkiadhigcfmkaaGreatMachineInterruptsZg
namespace Go.Proofs.YtdkiadhigcfmkaaGreat
open Go Go.GD
set_option linter.unusedVariables false
set_option linter.unusedSimpArgs false
set_option maxRecDepth 100000
def U(x:Int):Prop:=0≤x∧x<4294967296
theorem Q0o(x:Int):U (IntKind.u32.wrap x):=by rw[IntKind.wrap_u32];unfold U;omega
theorem Qzd(x y:Int):U (iand .u32 x y):=Q0o _
theorem U_or(x y:Int):U (ior .u32 x y):=Q0o _
theorem U_0:U 0:=⟨by omega,by omega⟩
theorem Qu8{m:List Int}(h: ∀w∈m,U w){v:Int}(hv:U v)(i:Nat): ∀w∈m.set i v,U w:=by
 intro w hw
 rcases List.mem_or_eq_of_mem_set hw with h1|h1
 · exact h w h1
 · rw[h1];exact hv
structure Q0u(P:Nat)(m:List Int):Prop where
 len:m.length=32*P
 p1:0≤P
 p2:P≤32
 u: ∀w∈m,U w
structure Q85(d:Q0d):Prop where
 block:U d.Block
 frame:U d.Frame
 opBlock:U d.OpBlock
 opFrame:U d.OpFrame
structure Qh6(n:Q0m):Prop where
 frame:U n.Frame
 len:U n.Len
 buffer:U n.Buffer
 got:U n.Got
theorem Qiw{l:List Int}(h: ∀w∈l,U w)(i:Nat):U (l.getD i 0):=by
 by_cases hi:i<l.length
 · have:l.getD i 0=l[i]:=by simp [List.getD,hi]
   rw[this];exact h _ (List.getElem_mem hi)
 · have:l.getD i 0=0:=by simp [List.getD,List.getElem?_eq_none (by omega:l.length≤i)]
   rw[this];exact U_0
structure Q2g(c:Q03):Prop where
 x: ∀w∈A16.l c.X,U w
 pc:U c.Pc
 csr: ∀w∈A8.l c.Csr,U w
theorem Z51{X:A16 Int}(h: ∀w∈A16.l X,U w){v:Int}(hv:U v)(i:Nat): ∀w∈A16.l (A16.of 0 (List.set (A16.l X) i v)),U w:=by
 have hs:=Qu8 h hv i
 intro w hw
 simp only[A16.l,A16.of,List.mem_cons,List.not_mem_nil,or_false]at hw
 repeat(first|(rcases hw with rfl|hw; · exact Qiw hs _)|(subst hw;exact Qiw hs _))
theorem Z9r{X:A8 Int}(h: ∀w∈A8.l X,U w){v:Int}(hv:U v)(i:Nat): ∀w∈A8.l (A8.of 0 (List.set (A8.l X) i v)),U w:=by
 have hs:=Qu8 h hv i
 intro w hw
 simp only[A8.l,A8.of,List.mem_cons,List.not_mem_nil,or_false]at hw
 repeat(first|(rcases hw with rfl|hw; · exact Qiw hs _)|(subst hw;exact Qiw hs _))
section
variable {c:Q03} (h:Q2g c)
include h
theorem Q2g.a(i:Nat):U ((A8.l c.Csr).getD i 0):=Qiw h.csr i
theorem Q2g.r(i:Nat):U ((A16.l c.X).getD i 0):=Qiw h.x i
theorem Q2g.a0:U c.Csr.a0:=h.a 0
theorem Q2g.a1:U c.Csr.a1:=h.a 1
theorem Q2g.a2:U c.Csr.a2:=h.a 2
theorem Q2g.a3:U c.Csr.a3:=h.a 3
theorem Q2g.a4:U c.Csr.a4:=h.a 4
theorem Q2g.a5:U c.Csr.a5:=h.a 5
theorem Q2g.a6:U c.Csr.a6:=h.a 6
theorem Q2g.a7:U c.Csr.a7:=h.a 7
theorem Q2g.pcs{p:Int}(hp:U p):Q2g {X:=c.X,Pc:=p,Csr:=c.Csr}:=⟨h.x,hp,h.csr⟩
end
section
variable {α β:Type} {W:β→Prop} {t:Tree α} {Q:α→Prop} {k:α→Tree β}
theorem Q0a(hq:t.w Q)(g: ∀x,Q x→(k x).w W):(Tree.an t.p (Tree.lv t.m k)).w W:=⟨(Tree.pp hq).1,fun y hy=>g y (by rw[hy];exact(Tree.pp hq).2)⟩
theorem Z9n(hq:t.w Q)(g: ∀x,Q x→(k x).w W):(Tree.lv t.m k).w W:=fun y hy=>g y (by rw[hy];exact t.post hq)
end
theorem rc{r:Int}(h:0≤r∧r<16):(Nat.blt 0 1&&decide (0≤r∧r<((16:Nat):Int)))=true:=by simp [Nat.blt];omega
theorem Qo{a:Int}(h:U a)(b:Int):U (ishr .u32 a b):=by
 unfold ishr U
 obtain⟨h1,h2⟩:=h
 have hp:(0:Int)<2^(min b.toNat IntKind.u32.bits):=Int.pow_pos (by decide)
 have:=Int.fdiv_nonneg h1 (Int.le_of_lt hp)
 refine⟨this,?_⟩
 rw[Int.fdiv_eq_ediv_of_nonneg _ (Int.le_of_lt hp)]
 have h3:=Int.ediv_le_self (2^(min b.toNat IntKind.u32.bits)) h1
 omega
structure Qdm(i:Q0g):Prop where
 a:0≤i.A∧i.A<16
 b:0≤i.B∧i.B<16
 c:0≤i.C∧i.C<16
 csr:i.Op=58→0≤i.Imm∧i.Imm<8
end Go.Proofs.YtdkiadhigcfmkaaGreat
namespace Go.Proofs.YtdkiadhigcfmkaaGreat
open Go Go.GD
set_option linter.unusedVariables false
set_option linter.unusedSimpArgs false
set_option maxRecDepth 100000
theorem Qxe{P:Nat}{m:List Int}(h:Q0u P m):Q0q m=P:=by
 obtain⟨h1,h2,h3,_⟩:=h
 simp only[Q0q,Q7n,Tree.m]
 have e:(m.length:Int)=32*P:=by omega
 rw[e]
 have e1:(Int.tmod (32*(P:Int)) 32 !=0)=false:=by simp [Int.mul_tmod_right]
 have e2:decide ((32*(P:Int))>1024)=false:=decide_eq_false (by omega)
 rw[e1,e2]
 simp only[cond_false]
 rw[Int.mul_tdiv_cancel_left _ (by decide),IntKind.wrap_i64];omega
theorem mask_w(n:Int):(Qcb n).w (fun _=>True):=by
 unfold Qcb
 exact w_br (fun _=>trivial) (fun _=>w_cn (decide_eq_true (by rw[IntKind.wrap_u64];omega)) trivial)
theorem Qr4(w low n:Int):(Qax w low n).w U:=by
 unfold Qax
 exact w_br (fun _=>U_0) (fun _=>w_br (fun _=>U_0) (fun _=>w_br (fun _=>U_0) (fun _=>w_cn (decide_eq_true (by rw[IntKind.wrap_u64];omega)) (Q0a (mask_w n) fun _ _=>Qzd _ _))))
theorem Zg9{w:Int}(hw:U w)(low n v:Int):(Q6e w low n v).w U:=by
 have h0:decide (0≤IntKind.wrap IntKind.u64 low)=true:=decide_eq_true (by rw[IntKind.wrap_u64];omega)
 unfold Q6e
 exact w_br (fun _=>hw) (fun _=>w_br (fun _=>hw) (fun _=>w_br (fun _=>hw) (fun _=>Q0a (mask_w n) fun _ _=>w_cn h0 (w_cn h0 (U_or _ _)))))
theorem Qs7{x:Int}(hx:U x)(n:Int):(Q4j x n).w U:=by
 have h0: ∀y,decide (0≤IntKind.wrap IntKind.u64 y)=true:=fun y=>decide_eq_true (by rw[IntKind.wrap_u64];omega)
 unfold Q4j
 exact w_br (fun _=>U_0) (fun _=>w_br (fun _=>hx) (fun _=>w_cn (h0 _) (w_cn (h0 _) (Q0o _))))
section
variable {P:Nat} {m:List Int} (h:Q0u P m)
include h
theorem Q81:Q06 m:=by
 have:=h.len
 have:=h.p2
 show m.length≤35184372088832
 omega
theorem Z90{a:Int}(ha:U a){size:Int}(hs:size=1∨size=4):(Q3o m a size).w (fun b=>b=true→a+size≤128*P):=by
 have hp:=Qxe h
 have h2:=h.p2
 obtain⟨a1,a2⟩:=ha
 have e:decide (IntKind.wrap IntKind.u32 size≠0)=true:=by rcases hs with rfl|rfl<;>decide
 have l: ∀x,x=Q0q m→decide (IntKind.wrap IntKind.u64 (IntKind.wrap IntKind.u64 a+IntKind.wrap IntKind.u64 size)≤IntKind.wrap IntKind.u64 (IntKind.wrap IntKind.u64 x*128))=true→a+size≤128*P:=fun x hx hd=>by
   rw[hx,hp]at hd
   have:=of_decide_eq_true hd
   simp only[IntKind.wrap_u64]at this
   omega
 unfold Q3o
 refine w_br (fun _=>w_br (fun _=>fun h=>by cases h) (fun _=> ?_)) (fun _=> ?_)<;>
 exact w_cn e (w_br (fun _=>fun h=>by cases h) (fun _=>w_lv fun x hx=>l x hx))
theorem idxP{a:Int}(ha:U a)(hl:a<128*P):(Nat.beq 1 1&&Nat.blt 0 1&&decide (0≤IntKind.wrap IntKind.u32 (Int.tdiv a 4)∧IntKind.wrap IntKind.u32 (Int.tdiv a 4)<(m.length:Int)))=true:=by
 obtain⟨a1,a2⟩:=ha
 have e:IntKind.wrap IntKind.u32 (Int.tdiv a 4)=a/4:=by rw[IntKind.wrap_u32,Int.tdiv_eq_ediv_of_nonneg a1];omega
 have:=h.len
 rw[e];simp [Nat.blt];omega
theorem Qof{a:Int}(ha:U a){size:Int}(hs:size=1∨size=4):(Q7e m a size).w (fun r=>U r.1∧(r.2=true→a<128*P)):=by
 unfold Q7e
 refine Q0a (Z90 h ha hs) fun x hx=>w_br (fun _=>⟨U_0,fun h=>by cases h⟩) (fun hb=> ?_)
 have hl:=hx (by simpa using hb)
 have hl:a<128*P:=by omega
 exact w_cn (idxP h ha hl) (w_br (fun _=>Q0a (Qr4 _ _ _) fun y hy=>⟨hy,fun _=>hl⟩) (fun _=>⟨Qiw h.u _,fun _=>hl⟩))
theorem Qvd{a:Int}(ha:U a){size:Int}(hs:size=1∨size=4){v:Int}(hv:U v):(Q61 m a size v).w (fun r=>Q0u P r.1):=by
 have st: ∀i v,U v→Q0u P (m.set i v):=fun i v hv=>⟨by simp [h.len],h.p1,h.p2,Qu8 h.u hv i⟩
 have hcl:Q02 m=m:=rfl
 unfold Q61
 refine w_an (Q81 h) (w_lv fun x0 hx0=> ?_)
 rw[hcl]at hx0;subst hx0
 refine Q0a (Z90 h ha hs) fun x hx=>w_br (fun _=>h) (fun hb=> ?_)
 have hl:=hx (by simpa using hb)
 have hl:a<128*P:=by omega
 exact w_br (fun _=>w_cn (idxP h ha hl) (Q0a (Zg9 (Qiw h.u _) _ _ _) fun y hy=>w_cn (idxP h ha hl) (st _ _ hy))) (fun _=>w_cn (idxP h ha hl) (st _ _ hv))
end
end Go.Proofs.YtdkiadhigcfmkaaGreat
namespace Go.Proofs.YtdkiadhigcfmkaaGreat
open Go Go.GD
set_option linter.unusedVariables false
set_option linter.unusedSimpArgs false
set_option maxRecDepth 100000
theorem Zb{r:Int}{used:Bool}(h:Q8a r used=true):0≤r∧r<16:=by
 simp only[Q8a,Qd7,Tree.m]at h
 cases used
 · have h:(r==0)=true:=h
   have:=eq_of_beq h;omega
 · cases h1:decide (r≥0)<;>rw[h1]at h
   · cases h
   · have h1:=of_decide_eq_true h1
     have h:=of_decide_eq_true h
     omega
theorem validP_ok{i:Q0g}(h:Qe2 i=true):Qdm i:=by
 have no:false=true→Qdm i:=fun h=>by cases h
 refine(Tree.post (Qfj i) (W:=fun b=>b=true→Qdm i) ?_) h
 unfold Qfj
 refine w_lv fun x0 h0=>w_br (fun _=>w_lv fun x1 h1=>w_br (fun b1=>w_lv fun x2 h2=>w_br (fun b2=>w_lv fun x3 h3=>w_br (fun b3=>w_br (fun b4=>fun b5=> ?_) (fun _=>no)) (fun _=>no)) (fun _=>no)) (fun _=>no)) (fun _=>no)
 have b4:=of_decide_eq_true b4
 have b5:=of_decide_eq_true b5
 refine⟨Zb (h1.symm.trans b1),Zb (h2.symm.trans b2),Zb (h3.symm.trans b3),fun e=> ?_⟩
 rw[e]at h0
 have h0:x0=({a:=true,b:=false,c:=false,low:=0,high:=7},true):=h0
 subst h0
 simp at b4 b5;omega
theorem Qw9(w:Int):(Q8p w).w (fun r=>r.2=true→Qdm r.1):=by
 have no: ∀{p:Prop},false=true→p:=fun h=>by cases h
 have l: ∀i,(Tree.lv (Qe2 i) fun x=> .br (!x) (.lf ((⟨0,0,0,0,0⟩:Q0g),false)) (.lf (i,true))).w (fun r=>r.2=true→Qdm r.1):=fun i=>w_lv fun x hx=>w_br (fun _=>no) (fun hb=>fun _=>validP_ok (hx.symm.trans (by simpa using hb)))
 unfold Q8p
 exact Q0a (Qr4 _ _ _) fun x0 _=>Q0a (Qr4 _ _ _) fun x1 _=>Q0a (Qr4 _ _ _) fun x2 _=>w_lv fun x3 _=>w_br (fun _=>no) (fun _=>Q0a (Qr4 _ _ _) fun x4 h4=>w_br (fun _=>l _) (fun _=>w_br (fun _=>Q0a (Qs7 h4 _) fun x6 _=>l _) (fun _=>l _)))
section
variable {P:Nat} {m:List Int} (h:Q0u P m)
include h
theorem pageP_eq{f:Int}(hf:U f):Q9g m f=decide (f<P):=by
 have:=Qxe h
 obtain⟨h1,h2⟩:=hf
 have h3:=h.p2
 simp only[Q9g,Qg3,Tree.m,letv,this]
 congr 1
 rw[IntKind.wrap_u64,IntKind.wrap_u64,Int.emod_eq_of_lt h1 (by omega),Int.emod_eq_of_lt (by omega) (by omega)]
theorem walkP_w{root va:Int}(hv:U va)(access:Int):(Q7 m root va access).w (fun t=>U t.Addr∧U t.Entry):=by
 have bad:U (0:Int)∧U (0:Int):=⟨U_0,U_0⟩
 have fr: ∀x,(Q5d x).w U:=fun x=>by
   unfold Q5d
   exact Q0a (Qr4 _ _ _) fun y hy=>hy
 unfold Q7
 exact w_lv fun x0 _=>w_br (fun _=>bad) (fun _=>w_br (fun _=>bad) (fun _=>w_lv fun x1 _=>w_br (fun _=>bad) (fun _=>Q0a (Qof h (Q0o _) (.inr rfl)) fun x2 _=>w_br (fun _=>bad) (fun _=>w_lv fun x3 _=>w_br (fun _=>bad) (fun _=>Q0a (fr _) fun x4 _=>w_lv fun x5 _=>w_br (fun _=>bad) (fun _=>Q0a (fr _) fun x6 _=>⟨Q0o _,Q0o _⟩))))))
theorem touchP_w{a:Int}(ha:U a)(access:Int):(Q67 m a access).w (Q0u P):=by
 have hcl:Q02 m=m:=rfl
 unfold Q67
 exact Q0a (Qof h ha (.inr rfl)) fun x0 _=>w_br (fun _=>w_an (Q81 h) (w_lv fun x1 h1=>by rw[h1,hcl];exact h)) (fun _=>w_br (fun _=>Q0a (Qvd h ha (.inr rfl) (U_or _ _)) fun x hx=>hx) (fun _=>Q0a (Qvd h ha (.inr rfl) (U_or _ _)) fun x hx=>hx))
theorem Qj2{c:Q03}{va:Int}(hv:U va){size:Int}(hs:size=1∨size=4)(access:Int):(Q70 c m va size access).w (fun r=>U r.1∧Q0u P r.2.1):=by
 have hcl:Q02 m=m:=rfl
 have e:decide (IntKind.wrap IntKind.u32 size≠0)=true:=by rcases hs with rfl|rfl<;>decide
 have cl: ∀(K:List Int→Int×List Int×Int),(∀x,x=m→U (K x).1∧Q0u P (K x).2.1)→(Tree.an (Q06 m) (.lv (Q02 m) fun x=> .lf (K x))).w (fun r=>U r.1∧Q0u P r.2.1):=fun K hK=>w_an (Q81 h) (w_lv fun x hx=>hK x (hx.trans hcl))
 have z: ∀(k:Nat) (x:List Int),x=m→U (0:Int)∧Q0u P x:=fun _ x hx=>⟨U_0,hx▸h⟩
 have v: ∀x,x=m→U va∧Q0u P x:=fun x hx=>⟨hv,hx▸h⟩
 have main: ∀(x0:Int×Bool),(Tree.cn (decide (IntKind.wrap IntKind.u32 size≠0)) (.br (Int.tmod va (IntKind.wrap IntKind.u32 size) !=0) (.an (Q06 m) (.lv (Q02 m) fun x3=> .lf ((0:Int),x3,(3:Int)))) (.lv (Qaw c) fun x4=> .br (!x4) (.br (iand IntKind.u32 c.Csr.a0 4 !=0) (.an (Q8u m c.Csr.a6 va access) (.lv (Qgj m c.Csr.a6 va access) fun x5=> .br (x5.Cause !=0) (.an (Q06 m) (.lv (Q02 m) fun x6=> .lf (0,x6,x5.Cause))) (.an (Q7j m x5.Entry access) (.lv (Qao m x5.Entry access) fun x7=> .lf (x5.Addr,x7,0))))) (.an (Q2l m va size) (.lv (Q43 m va size) fun x8=> .br (!x8.snd) (.an (Q06 m) (.lv (Q02 m) fun x9=> .lf (0,x9,x0.fst))) (.an (Q06 m) (.lv (Q02 m) fun x10=> .lf (va,x10,0)))))) (.an (Q2l m va size) (.lv (Q43 m va size) fun x11=> .br (!x11.snd) (.an (Q06 m) (.lv (Q02 m) fun x12=> .lf (0,x12,x0.fst))) (.an (Q06 m) (.lv (Q02 m) fun x13=> .lf (va,x13,0)))))))).w (fun r=>U r.1∧Q0u P r.2.1):=fun x0=>
   w_cn e (w_br (fun _=>cl _ (z 0)) (fun _=>w_lv fun x4 _=>w_br (fun _=>w_br (fun _=>Q0a (walkP_w h hv access) fun x5 hx=>w_br (fun _=>cl _ (z 0)) (fun _=>Q0a (touchP_w h hx.2 access) fun x7 h7=>⟨hx.1,h7⟩)) (fun _=>Q0a (Qof h hv hs) fun x8 _=>w_br (fun _=>cl _ (z 0)) (fun _=>cl _ v))) (fun _=>Q0a (Qof h hv hs) fun x8 _=>w_br (fun _=>cl _ (z 0)) (fun _=>cl _ v))))
 unfold Q70
 exact w_lv fun x0 _=>w_br (fun _=>cl _ (z 0)) (fun _=>w_br (fun _=>w_br (fun _=>cl _ (z 0)) (fun _=>main x0)) (fun _=>main x0))
theorem Z47{c:Q03}(hc:Q2g c):(Qcd c m).w (fun r=>U r.1∧Q0u P r.2.1):=by
 unfold Qcd
 exact Q0a (Qj2 h hc.pc (.inr rfl) 1) fun x0 h0=>w_br (fun _=>⟨U_0,h0.2⟩) (fun _=>Q0a (Qof h0.2 h0.1 (.inr rfl)) fun x1 h1=>⟨h1.1,h0.2⟩)
end
theorem moveP_w{s a b:Int}:U (Q87 s a b):=by
 refine Tree.post (Qmu s a b) (W:=U) ?_
 unfold Qmu
 exact w_br (fun _=>Q0o _) (fun _=>Q0o _)
section
variable {c:Q03} (h:Q2g c)
include h
theorem Qnv(k:Int){b:Int}(hb:U b):Q2g (Q40 c k b):=by
 refine(Tree.post (Qic c k b) (W:=Q2g) ?_)
 unfold Qic
 refine w_lv fun _ _=>w_lv fun _ _=>⟨h.x,h.a1,?_⟩
 intro w hw
 simp only[A8.l,List.mem_cons,List.not_mem_nil,or_false]at hw
 rcases hw with rfl|rfl|rfl|rfl|rfl|rfl|rfl|rfl
 · exact Q0o _
 · exact h.a1
 · exact h.pc
 · exact Q0o _
 · exact hb
 · exact h.a5
 · exact h.a6
 · exact h.a7
theorem returnP_w:Q2g (Qcg c):=by
 refine(Tree.post (Qdc c) (W:=Q2g) ?_)
 unfold Qdc
 refine w_lv fun x0 _=>w_lv fun x1 h1=>⟨h.x,h.a2,?_⟩
 intro w hw
 simp only[A8.l,List.mem_cons,List.not_mem_nil,or_false]at hw
 rcases hw with rfl|rfl|rfl|rfl|rfl|rfl|rfl|rfl
 · rw[h1];exact moveP_w
 · exact h.a1
 · exact h.a2
 · exact h.a3
 · exact h.a4
 · exact h.a5
 · exact h.a6
 · exact h.a7
theorem Qni{r:Int}(hr:0≤r∧r<16){v:Int}(hv:U v):(Qa5 c r v).w Q2g:=by
 unfold Qa5
 exact w_br (fun _=>w_cn (rc hr) ⟨Z51 h.x hv _,h.pc,h.csr⟩) (fun _=>h)
theorem Zdx(k:Int){v:Int}(hv:U v):(Q8i c k v).w Q2g:=by
 have ok: ∀i v,U v→Q2g {X:=c.X,Pc:=c.Pc,Csr:=A8.of 0 (List.set (A8.l c.Csr) i v)}:=fun i v hv=>⟨h.x,h.pc,Z9r h.csr hv i⟩
 unfold Q8i
 repeat'(first
   |exact h
   |exact ok _ _ (Q0o _)
   |exact ok _ _ hv
   |refine w_br (fun hk=> ?_) (fun _=> ?_)
   |refine w_cn (by rw[eq_of_beq (by assumption:(k==_)=true)];decide) ?_)
end
theorem Z6s{a b:Int}(ha:U a)(hb:U b):(Q7c a b).w (fun r=>U r.1∧U r.2):=by
 have u1:U 4294967295:=⟨by omega,by omega⟩
 unfold Q7c
 refine w_br (fun _=>⟨u1,ha⟩) (fun h=> ?_)
 have h: ¬b=0:=by simpa using h
 obtain⟨b1,b2⟩:=hb
 have hc:decide (IntKind.wrap IntKind.i32 b≠0)=true:=decide_eq_true (by rw[IntKind.wrap_i32];omega)
 exact w_br (fun _=>w_br (fun _=>⟨ha,U_0⟩) (fun _=>w_cn hc (w_cn hc ⟨Q0o _,Q0o _⟩))) (fun _=>w_cn hc (w_cn hc ⟨Q0o _,Q0o _⟩))
theorem truth_w(b:Bool):U (Ql9 b):=by cases b<;>exact⟨by decide,by decide⟩
theorem Z26(op:Int){a b:Int}(ha:U a)(hb:U b):(Qik op a b).w (fun r=>U r.1):=by
 unfold Qik
 repeat'(first
   |refine w_br (fun _=> ?_) (fun _=> ?_)
   |exact Q0a (Z6s ha hb) fun x hx=>hx.1
   |exact Q0a (Z6s ha hb) fun x hx=>hx.2
   |exact w_lv fun x hx=>(by rw[hx];exact truth_w _)
   |refine w_lf ?_)
 all_goals(first
   |exact Q0o _
   |exact Qo ha _
   |exact U_0)
theorem Z3c(op:Int):Qdz op=1∨Qdz op=4:=by
 simp only[Qdz,Qo1,Tree.m]
 cases op==32<;>cases op==35<;>simp
section
variable {c:Q03} (h:Q2g c) {i:Q0g} (hi:Qdm i)
include h hi
theorem Zh0:(Q3f c i).w (fun r=>Q2g r.1∧U r.2.Value):=by
 have k: ∀{x:Q03} {p:Int},Q2g x→U p→Q2g {X:=x.X,Pc:=p,Csr:=x.Csr}:=fun hx hp=>⟨hx.x,hp,hx.csr⟩
 unfold Q3f
 refine w_cn (rc hi.a) (w_cn (rc hi.b) ?_)
 repeat'(first
   |refine w_br (fun _=> ?_) (fun _=> ?_)
   |exact Q0a (Qni h hi.a (Q0o _)) fun x hx=>⟨k hx (Q0o _),U_0⟩
   |exact w_lv fun x _=>w_br (fun _=>⟨k h (Q0o _),U_0⟩) (fun _=>⟨k h (Q0o _),U_0⟩)
   |exact w_lv fun x hx=>⟨by rw[hx];exact Qnv h _ U_0,U_0⟩
   |exact w_lv fun x hx=>⟨by rw[hx];exact returnP_w h,U_0⟩
   |exact w_cn (by have:=hi.csr (by simp_all);simp [Nat.blt];omega) (Q0a (Qni h hi.a (h.a _)) fun x hx=>⟨k hx (Q0o _),U_0⟩)
   |exact Q0a (Zdx h _ (h.r _)) fun x hx=>⟨k hx (Q0o _),U_0⟩
   |refine w_cn (rc hi.c) ?_
   |exact Q0a (Z26 _ (h.r _) (Q0o _)) fun y hy=>Q0a (Qni h hi.a hy) fun x hx=>⟨k hx (Q0o _),U_0⟩
   |exact Q0a (Z26 _ (h.r _) (h.r _)) fun y hy=>Q0a (Qni h hi.a hy) fun x hx=>⟨k hx (Q0o _),U_0⟩
   |refine w_lf ?_)
 all_goals(first
   |exact⟨k h (Q0o _),U_0⟩
   |exact⟨k h (Q0o _),h.r _⟩)
theorem Qyf{P:Nat}{m:List Int}(hm:Q0u P m):(Qas c m i).w (fun r=>Q2g r.1∧Q0u P r.2):=by
 have w:=Z3c i.Op
 unfold Qas
 refine w_cn (rc hi.b) (w_lv fun x0 h0=> ?_)
 rw[←h0]at w
 refine Q0a (Qj2 hm (Q0o _) w 2) fun x1 h1=>w_br (fun _=>w_lv fun y hy=>⟨by rw[hy];exact Qnv h _ (Q0o _),h1.2⟩) (fun _=>w_lv fun x3 h3=> ?_)
 rw[h0,←h3]at w
 exact Q0a (Qof h1.2 h1.1 w) fun x4 h4=>w_br (fun _=>Q0a (Qs7 h4.1 8) fun y hy=>Q0a (Qni h hi.a hy) fun x hx=>⟨⟨hx.x,Q0o _,hx.csr⟩,h1.2⟩) (fun _=>Q0a (Qni h hi.a h4.1) fun x hx=>⟨⟨hx.x,Q0o _,hx.csr⟩,h1.2⟩)
theorem Qtc{P:Nat}{m:List Int}(hm:Q0u P m):(Q88 c m i).w (fun r=>Q2g r.1∧Q0u P r.2):=by
 have w:=Z3c i.Op
 unfold Q88
 refine w_cn (rc hi.b) (w_lv fun x0 h0=> ?_)
 rw[←h0]at w
 refine Q0a (Qj2 hm (Q0o _) w 3) fun x1 h1=>w_br (fun _=>w_lv fun y hy=>⟨by rw[hy];exact Qnv h _ (Q0o _),h1.2⟩) (fun _=>w_lv fun x3 h3=>w_cn (rc hi.a) ?_)
 rw[h0,←h3]at w
 exact Q0a (Qvd h1.2 h1.1 w (h.r _)) fun x hx=>⟨⟨h.x,Q0o _,h.csr⟩,hx⟩
end
theorem execP_w{c:Q03}(h:Q2g c){P:Nat}{m:List Int}(hm:Q0u P m):(Q8 c m).w (fun r=>Q2g r.1∧Q0u P r.2.1∧U r.2.2.Value):=by
 unfold Q8
 refine Q0a (Z47 hm h) fun x0 h0=>w_br (fun _=>w_lv fun y hy=>⟨by rw[hy];exact Qnv h _ h.pc,h0.2,U_0⟩) (fun _=>Q0a (Qw9 _) fun x2 h2=>w_br (fun _=>w_lv fun y hy=>⟨by rw[hy];exact Qnv h _ h0.1,h0.2,U_0⟩) (fun hb=> ?_))
 have hi:=h2 (by simpa using hb)
 refine w_lv fun x4 _=> ?_
 repeat'(first
   |refine w_br (fun _=> ?_) (fun _=> ?_)
   |exact Q0a (Qyf h hi h0.2) fun x hx=>⟨hx.1,hx.2,U_0⟩
   |exact Q0a (Qtc h hi h0.2) fun x hx=>⟨hx.1,hx.2,U_0⟩
   |exact Q0a (Zh0 h hi) fun x hx=>⟨hx.1,h0.2,hx.2⟩
   |exact w_lv fun y hy=>⟨by rw[hy];exact Qnv h _ h0.1,h0.2,U_0⟩
   |refine w_lv fun _ _=> ?_)
end Go.Proofs.YtdkiadhigcfmkaaGreat
namespace Go.Proofs.YtdkiadhigcfmkaaGreat
open Go Go.GD
set_option linter.unusedVariables false
set_option linter.unusedSimpArgs false
set_option maxRecDepth 100000
theorem Zda{a:Int}(h:U a)(k:Nat)(hk:k≤32):0≤ishr .u32 a k∧ishr .u32 a k*2^k≤a:=by
 obtain⟨h1,h2⟩:=h
 unfold ishr
 have e:min (k:Int).toNat IntKind.u32.bits=k:=by show min (k:Int).toNat 32=k;omega
 have hp:(0:Int)<2^k:=Int.pow_pos (by decide)
 rw[e,Int.fdiv_eq_ediv_of_nonneg _ (Int.le_of_lt hp)]
 exact⟨Int.ediv_nonneg h1 (Int.le_of_lt hp),Int.ediv_mul_le a (Int.ne_of_gt hp)⟩
theorem Zdr(x:Int):0≤IntKind.u8.wrap x∧IntKind.u8.wrap x<256:=by rw[IntKind.wrap_u8];omega
theorem len32_w{x:Int}(h:U x):(Q2d x).w (fun _=>True):=by
 have s16:=Zda h 16 (by omega)
 have s8:=Zda h 8 (by omega)
 have s24:=Zda (Qo h 16) 8 (by omega)
 obtain⟨h1,h2⟩:=h
 unfold Q2d
 repeat'(first
   |refine w_br (fun _=> ?_) (fun _=> ?_)
   |refine w_cn (decide_eq_true ⟨?_,Int.lt_of_lt_of_le (b:=256) ?_ (Int.le_of_eq (by kernel_rfl))⟩) ?_
   |exact trivial
   |refine w_lf ?_)
 all_goals(first
   |trivial
   |exact(Zdr _).1
   |exact(Zdr _).2
   |(simp only[decide_eq_true_eq,decide_eq_false_iff_not]at*;simp at s16 s8 s24;omega))
theorem and255(a:Int):iand .u32 a 255<256:=by
 unfold iand
 rw[IntKind.wrap_u32]
 have:(BitVec.ofInt IntKind.u32.bits a&&&BitVec.ofInt IntKind.u32.bits 255).toNat≤255:=by
   show(BitVec.ofInt 32 a&&&BitVec.ofInt 32 255).toNat≤255
   rw[BitVec.toNat_and]
   exact Nat.le_trans Nat.and_le_right (by decide)
 omega
theorem ones_w{x:Int}(h:U x):(Q2a x).w (fun _=>True):=by
 have s24:=Zda h 24 (by omega)
 obtain⟨h1,h2⟩:=h
 have i24:ishr .u32 x 24<256:=by simp at s24;omega
 unfold Q2a
 repeat'(first
   |refine w_cn (decide_eq_true ⟨?_,Int.lt_of_lt_of_le (b:=256) ?_ (Int.le_of_eq (by kernel_rfl))⟩) ?_
   |exact trivial
   |refine w_lf ?_)
 all_goals(first
   |trivial
   |exact(Q0o _).1
   |exact s24.1
   |exact i24
   |exact and255 _)
structure okS(P:Nat)(m:Q00):Prop where
 cpu:Q2g m.Cpu
 mem:Q0u P m.Mem
 disk:Q85 m.Disk
 nic:Qh6 m.Nic
 target:U m.Balloon.Target
 given:U m.Balloon.Given
theorem Zdk{b:Q05}(h:U b.Given):(Q6i b).w (fun _=>True):=by
 unfold Q6i
 exact Q0a (ones_w h) fun _ _=>trivial
theorem mayP_w{m:Q00}(h:U m.Balloon.Given):(Q5p m).w (fun _=>True):=by
 have b: ∀x,(Q4b m.Balloon x).w (fun _=>True):=fun x=>by
   unfold Q4b
   exact Q0a (len32_w h) fun _ _=>trivial
 have d:(Q1l m).w (fun _=>True):=by
   unfold Q1l
   exact w_lv fun _ _=>w_lv fun _ _=>w_br (fun _=>w_lv fun _ _=>w_br (fun _=>w_lv fun _ _=>w_br (fun _=>w_lv fun _ _=>w_br (fun _=>Q0a (b _) fun _ _=>trivial) (fun _=>trivial)) (fun _=>trivial)) (fun _=>trivial)) (fun _=>trivial)
 unfold Q5p
 repeat'(first
   |refine w_br (fun _=> ?_) (fun _=> ?_)
   |exact Q0a d fun _ _=>trivial
   |refine w_lv fun _ _=> ?_
   |exact trivial)
theorem Qmr{m:Q00}(h:U m.Balloon.Given):(Q4o m).w (fun _=>True):=by
 have p:(Q3a m.Balloon).w (fun _=>True):=by
   unfold Q3a
   exact Q0a (Zdk h) fun _ _=>trivial
 unfold Q4o
 refine w_lv fun x0 _=>w_lv fun x1 _=>w_lv fun x2 _=>w_lv fun x3 _=>Q0a p fun x4 _=>w_lp (inv:=fun z=>0≤z.2∧z.2≤5) (μ:=Qgc m) ⟨by omega,by omega⟩ (Nat.lt_succ_self _) (fun z hz=> ?_)
 obtain⟨z1,z2⟩:=hz
 have ew:z.2<5→IntKind.i64.wrap (z.2+1)=z.2+1:=fun _=>by rw[IntKind.wrap_i64];omega
 refine w_br (fun hb=> ?_) (fun _=>trivial)
 have hb:=of_decide_eq_true hb
 have nx:(0≤IntKind.i64.wrap (z.2+1)∧IntKind.i64.wrap (z.2+1)≤5)∧(5-IntKind.i64.wrap (z.2+1)).toNat<(5-z.2).toNat:=by rw[ew hb];omega
 refine w_cn (by simp;omega) (w_br (fun _=>w_cn (decide_eq_true z1) (w_nx nx)) (fun _=>w_nx nx))
theorem Z12{m:Q00}(h:U m.Balloon.Given):(Q2e m).w U:=by
 unfold Q2e
 exact Q0a (Qmr h) fun _ _=>Qzd _ _
theorem runsP_w{m:Q00}(h:U m.Balloon.Given):(Q4e m).w (fun _=>True):=by
 have i:(Q1s m).w (fun _=>True):=by
   unfold Q1s
   exact w_br (fun _=>Q0a (Z12 h) fun _ _=>trivial) (fun _=>trivial)
 unfold Q4e
 exact Q0a (mayP_w h) fun _ _=>w_br (fun _=>w_br (fun _=>Q0a i fun _ _=>w_br (fun _=>trivial) (fun _=>trivial)) (fun _=>trivial)) (fun _=>trivial)
end Go.Proofs.YtdkiadhigcfmkaaGreat
namespace Go.Proofs.YtdkiadhigcfmkaaGreat
open Go Go.GD
set_option linter.unusedVariables false
set_option linter.unusedSimpArgs false
theorem Qd8{P:Nat}{m:List Int}(h:Q0u P m):Q3c m=P:=by
 obtain⟨h1,h2,h3,_⟩:=h
 simp only[Q3c,Qlt,Tree.m]
 have e:(m.length:Int)=32*P:=by omega
 rw[e]
 have e1:(Int.tmod (32*(P:Int)) 32 !=0)=false:=by simp [Int.mul_tmod_right]
 have e2:decide ((32*(P:Int))>1024)=false:=decide_eq_false (by omega)
 rw[e1,e2]
 simp only[cond_false]
 rw[Int.mul_tdiv_cancel_left _ (by decide),IntKind.wrap_i64];omega
theorem Qju{P:Nat}{m:List Int}(h:Q0u P m){f:Int}(hf:U f):Q1p m f=decide (f<P):=by
 have:=Qd8 h
 obtain⟨h1,h2⟩:=hf
 have h3:=h.p2
 simp only[Q1p,Qg7,Tree.m,letv,this]
 congr 1
 rw[IntKind.wrap_u64,IntKind.wrap_u64,Int.emod_eq_of_lt h1 (by omega),Int.emod_eq_of_lt (by omega) (by omega)]
theorem copy_w{P:Nat}{m:List Int}(h:Q0u P m):(Q8v m).w (fun r=>r=m):=by
 obtain⟨h1,h2,h3,_⟩:=h
 unfold Q8v
 refine w_cn ?_ ?_
 · simp [Nat.blt,D.plain];omega
 · show _=_
   simp
theorem put_w{P:Nat}{m:List Int}(h:Q0u P m){addr size v:Int}(ha:U addr)(hl:addr<4*m.length)(hv:U v):(Qci m addr size v).w (Q0u P):=by
 obtain⟨h1,h2,h3,h4⟩:=h
 obtain⟨a1,a2⟩:=ha
 have e:IntKind.wrap IntKind.u32 (Int.tdiv addr 4)=addr/4:=by rw[IntKind.wrap_u32,Int.tdiv_eq_ediv_of_nonneg a1];omega
 have hc:(Nat.beq 1 1&&Nat.blt 0 1&&decide (0≤IntKind.wrap IntKind.u32 (Int.tdiv addr 4)∧IntKind.wrap IntKind.u32 (Int.tdiv addr 4)<(m.length:Int)))=true:=by
   rw[e];simp [Nat.blt];omega
 have h0: ∀x,decide (0≤IntKind.wrap IntKind.u32 x)=true:=fun x=>decide_eq_true (Q0o x).1
 have hs: ∀i v,U v→Q0u P (m.set i v):=fun i v hv=>⟨by simp [h1],h2,h3,Qu8 h4 hv i⟩
 unfold Qci
 exact w_br (fun _=>w_cn hc (hs _ _ hv)) (fun _=>w_cn hc (w_cn (h0 _) (w_cn (h0 _) (w_cn hc (hs _ _ (U_or _ _))))))
theorem fill_w{P:Nat}{m:List Int}(h:Q0u P m){frame:Int}(f0:0≤frame)(f1:frame<P)(s:List UInt8):(Q8x m frame s).w (Q0u P):=by
 unfold Q8x
 have h3:=h.p2
 refine w_lp (inv:=fun z=>0≤z.1∧z.1≤128∧Q0u P z.2) (μ:=Qgk m frame s) ⟨by omega,by omega,h⟩ (Nat.lt_succ_self _) (fun v0 hv0=> ?_)
 obtain⟨i0,i1,hm⟩:=hv0
 refine w_br (fun h1=>w_br (fun h2=>w_cn ?_ ?_) (fun _=>hm)) (fun _=>hm)
 · have:=of_decide_eq_true h1
   simp [Nat.blt];omega
 · have h2:=of_decide_eq_true h2
   have e:IntKind.wrap IntKind.u32 (IntKind.wrap IntKind.i64 (IntKind.wrap IntKind.i64 (frame*128)+v0.1))=frame*128+v0.1:=by
     rw[IntKind.wrap_u32,IntKind.wrap_i64,IntKind.wrap_i64];omega
   rw[e]
   obtain⟨g1,g2⟩:=Tree.pp (put_w hm (size:=1) (addr:=frame*128+v0.1) ⟨by omega,by omega⟩ (by rw[hm.len];omega) (Q0o (UInt8.toNat (List.getD s (Int.toNat v0.1) 0))))
   refine w_an g1 (w_lv fun x0 hx0=> ?_)
   rw[hx0]
   have ew:IntKind.i64.wrap (v0.1+1)=v0.1+1:=by rw[IntKind.wrap_i64];omega
   refine w_nx ?_
   show(0≤IntKind.i64.wrap (v0.1+1)∧IntKind.i64.wrap (v0.1+1)≤128∧Q0u P _)∧(128-IntKind.i64.wrap (v0.1+1)).toNat<(128-v0.1).toNat
   rw[ew]
   exact⟨⟨by omega,by omega,g2⟩,by omega⟩
theorem Zdv{P:Nat}{m:List Int}(h:Q0u P m){d:Q0d}(hd:Q85 d)(e:Q0e):(Q9f d m e).w (fun r=>Q85 r.1∧Q0u P r.2.2):=by
 have fl:Q1p m d.OpFrame=true→(Q8x m (IntKind.i64.wrap d.OpFrame) e.Data).w (Q0u P):=fun hp=>by
   rw[Qju h hd.opFrame]at hp
   have:=of_decide_eq_true hp
   have h1:=hd.opFrame.1
   have h3:=h.p2
   have ew:IntKind.i64.wrap d.OpFrame=d.OpFrame:=by rw[IntKind.wrap_i64];omega
   rw[ew]
   exact fill_w h h1 this _
 have l0:Q85 d∧Q0u P m:=⟨hd,h⟩
 have l1: ∀st,Q85 {Blocks:=d.Blocks,Block:=d.Block,Frame:=d.Frame,State:=st,Cmd:=0,OpBlock:=0,OpFrame:=0,OpData:=[]}:=fun st=>⟨hd.block,hd.frame,U_0,U_0⟩
 unfold Q9f
 repeat'(first
   |exact l0
   |exact⟨l1 _,h⟩
   |refine w_br (fun _=> ?_) (fun _=> ?_)
   |refine w_lv (fun _ _=> ?_))
 all_goals(
   first
     | (have hp:Q1p m d.OpFrame=true:=by simp_all
        obtain⟨g1,g2⟩:=Tree.pp (fl hp)
        refine w_an g1 (w_lv fun x hx=> ?_)
        rw[hx]
        exact w_br (fun _=>⟨l1 _,g2⟩) (fun _=>⟨l1 _,g2⟩))
     |(exfalso;simp_all;done))
end Go.Proofs.YtdkiadhigcfmkaaGreat
namespace Go.Proofs.YtdkiadhigcfmkaaGreat
open Go Go.GD
set_option linter.unusedVariables false
set_option linter.unusedSimpArgs false
set_option maxRecDepth 100000
section
variable {c:Q03} (h:Q2g c)
include h
theorem Qyu(k:Int){b:Int}(hb:U b):Q2g (Q24 c k b):=by
 refine(Tree.post (Qgm c k b) (W:=Q2g) ?_)
 unfold Qgm
 refine w_lv fun _ _=>w_lv fun _ _=>⟨h.x,h.a1,?_⟩
 intro w hw
 simp only[A8.l,List.mem_cons,List.not_mem_nil,or_false]at hw
 rcases hw with rfl|rfl|rfl|rfl|rfl|rfl|rfl|rfl
 · exact U_or _ _
 · exact h.a1
 · exact h.pc
 · exact Q0o _
 · exact hb
 · exact h.a5
 · exact h.a6
 · exact h.a7
theorem return_w:Q2g (Qfi c):=by
 refine(Tree.post (Qbb c) (W:=Q2g) ?_)
 unfold Qbb
 refine w_lv fun _ _=>w_lv fun _ _=>⟨h.x,h.a2,?_⟩
 intro w hw
 simp only[A8.l,List.mem_cons,List.not_mem_nil,or_false]at hw
 rcases hw with rfl|rfl|rfl|rfl|rfl|rfl|rfl|rfl
 · exact U_or _ _
 · exact h.a1
 · exact h.a2
 · exact h.a3
 · exact h.a4
 · exact h.a5
 · exact h.a6
 · exact h.a7
theorem Z0e(r:Int){v:Int}(hv:U v):(Qcr c r v).w Q2g:=by
 unfold Qcr
 refine w_br (fun h1=>w_br (fun h2=>w_cn ?_ ⟨Z51 h.x hv _,h.pc,h.csr⟩) (fun _=>h)) (fun _=>h)
 have h1:=of_decide_eq_true h1
 have h2:=of_decide_eq_true h2
 simp [Nat.blt];omega
theorem write_w(k:Int){v:Int}(hv:U v):(Qau c k v).w Q2g:=by
 have ok: ∀i v,U v→Q2g {X:=c.X,Pc:=c.Pc,Csr:=A8.of 0 (List.set (A8.l c.Csr) i v)}:=fun i v hv=>⟨h.x,h.pc,Z9r h.csr hv i⟩
 unfold Qau
 repeat'(first
   |exact h
   |exact ok _ _ (Q0o _)
   |exact ok _ _ hv
   |refine w_br (fun hk=> ?_) (fun _=> ?_)
   |refine w_cn (by rw[eq_of_beq (by assumption:(k==_)=true)];decide) ?_)
end
section
variable {P:Nat} {m:List Int} (h:Q0u P m)
include h
theorem Z5p(a:Int){size:Int}(hs:size=1∨size=4):(Q7d m a size).w (fun b=>b=true→a<128*P):=by
 have hp:=Qd8 h
 have h2:=h.p2
 have e:decide (IntKind.wrap IntKind.u32 size≠0)=true:=by rcases hs with rfl|rfl<;>decide
 have l: ∀x,x=Q3c m→decide (a<IntKind.wrap IntKind.u32 (IntKind.wrap IntKind.i64 (128*x)))=true→a<128*P:=fun x hx hd=>by
   rw[hx,hp,IntKind.wrap_u32,IntKind.wrap_i64]at hd
   have:=of_decide_eq_true hd
   omega
 unfold Q7d
 refine w_br (fun _=>w_br (fun _=>fun h=>by cases h) (fun _=> ?_)) (fun _=> ?_)<;>
 exact w_cn e (w_br (fun _=>w_lv fun x hx=>l x hx) (fun _=>fun h=>by cases h))
theorem idx{a:Int}(ha:U a)(hl:a<128*P):(Nat.beq 1 1&&Nat.blt 0 1&&decide (0≤IntKind.wrap IntKind.u32 (Int.tdiv a 4)∧IntKind.wrap IntKind.u32 (Int.tdiv a 4)<(m.length:Int)))=true:=by
 obtain⟨a1,a2⟩:=ha
 have e:IntKind.wrap IntKind.u32 (Int.tdiv a 4)=a/4:=by rw[IntKind.wrap_u32,Int.tdiv_eq_ediv_of_nonneg a1];omega
 have:=h.len
 rw[e];simp [Nat.blt];omega
theorem Z8b{a:Int}(ha:U a){size:Int}(hs:size=1∨size=4):(Q4z m a size).w (fun r=>U r.1):=by
 obtain⟨g1,g2⟩:=Tree.pp (Z5p h a hs)
 unfold Q4z
 refine w_an g1 (w_lv fun x hx=>w_br (fun _=>U_0) (fun hb=> ?_))
 have hb:x=true:=by simpa using hb
 have hl:=g2 (hx.symm.trans hb)
 refine w_cn (idx h ha hl) (w_br (fun _=>w_cn (decide_eq_true (Q0o _).1) (Q0o _)) (fun _=>Qiw h.u _))
theorem mark_w{a:Int}(ha:U a)(access:Int):(Qc5 m a access).w (Q0u P):=by
 obtain⟨g1,g2⟩:=Tree.pp (Z5p h a (size:=4) (.inr rfl))
 have hs: ∀{m:List Int} i v,Q0u P m→U v→Q0u P (m.set i v):=fun i v h hv=>⟨by simp [h.len],h.p1,h.p2,Qu8 h.u hv i⟩
 unfold Qc5
 refine w_an g1 (w_lv fun x hx=>w_br (fun _=>h) (fun hb=> ?_))
 have hb:x=true:=by simpa using hb
 have hl:=g2 (hx.symm.trans hb)
 have i0:=idx h ha hl
 have h':=hs (Int.toNat (IntKind.wrap IntKind.u32 (Int.tdiv a 4))) (ior IntKind.u32 (List.getD m (Int.toNat (IntKind.wrap IntKind.u32 (Int.tdiv a 4))) 0) 8) h (U_or _ _)
 have i1:=idx h' ha hl
 exact w_cn i0 (w_cn i0 (w_br (fun _=>w_cn i1 (w_cn i1 (hs _ _ h' (U_or _ _)))) (fun _=>h')))
theorem walk_w{root va:Int}(hr:U root)(hv:U va)(access:Int):(Q91 m root va access).w (fun t=>U t.Addr∧U t.Entry∧(t.Cause=0→t.Addr<128*P)):=by
 have hp:=Qd8 h
 have h2:=h.p2
 have hlen:=h.len
 obtain⟨r1,r2⟩:=hr
 obtain⟨v1,v2⟩:=hv
 unfold Q91
 refine w_lv fun x0 hx0=>w_lv fun x1 hx1=>w_lv fun x2 _=> ?_
 have hc:x0≠0:=by
   rw[hx0]
   simp only[Q32,Q7x,Tree.m]
   cases access==1<;>cases access==3<;>simp
 rw[hp]at hx1
 have bad:U (0:Int)∧U (0:Int)∧(x0=0→(0:Int)<128*P):=⟨U_0,U_0,fun e=>absurd e hc⟩
 refine w_br (fun _=>bad) (fun _=>w_br (fun _=>bad) (fun hva=>w_br (fun _=>bad) (fun hro=> ?_)))
 have hva:=of_decide_eq_false hva
 have hro:=of_decide_eq_false hro
 have e1:IntKind.wrap IntKind.u32 x1=P:=by rw[hx1,IntKind.wrap_u32];omega
 rw[e1]at hro
 have e2:IntKind.wrap IntKind.u32 (IntKind.wrap IntKind.u32 (root*128)+IntKind.wrap IntKind.u32 (4*IntKind.wrap IntKind.u32 (Int.tdiv va 128)))=root*128+4*(va/128):=by
   rw[Int.tdiv_eq_ediv_of_nonneg v1,IntKind.wrap_u32,IntKind.wrap_u32,IntKind.wrap_u32,IntKind.wrap_u32];omega
 have hU:U (IntKind.wrap IntKind.u32 (IntKind.wrap IntKind.u32 (root*128)+IntKind.wrap IntKind.u32 (4*IntKind.wrap IntKind.u32 (Int.tdiv va 128)))):=Q0o _
 have ci:=idx h hU (by rw[e2];omega)
 have good: ∀w:Int,decide (iand IntKind.u32 w 255≥IntKind.wrap IntKind.u32 x1)=false→(U (IntKind.wrap IntKind.u32 (IntKind.wrap IntKind.u32 (iand IntKind.u32 w 255*128)+Int.tmod va 128))∧U (IntKind.wrap IntKind.u32 (IntKind.wrap IntKind.u32 (root*128)+IntKind.wrap IntKind.u32 (4*IntKind.wrap IntKind.u32 (Int.tdiv va 128))))∧((0:Int)=0→IntKind.wrap IntKind.u32 (IntKind.wrap IntKind.u32 (iand IntKind.u32 w 255*128)+Int.tmod va 128)<128*P)):=fun w hw=>by
   have hw:=of_decide_eq_false hw
   rw[e1]at hw
   have hn:=(Qzd w 255).1
   refine⟨Q0o _,Q0o _,fun _=> ?_⟩
   rw[Int.tmod_eq_emod_of_nonneg v1,IntKind.wrap_u32,IntKind.wrap_u32]
   generalize iand IntKind.u32 w 255=q at*
   omega
 refine w_cn ci ?_
 repeat'(first
   |exact bad
   |exact good _ (by assumption)
   |refine w_br (fun _=> ?_) (fun _=> ?_)
   |refine w_cn ci ?_)
theorem Z59{c:Q03}(hc:Q2g c){va:Int}(hv:U va){size:Int}(hs:size=1∨size=4)(access:Int):(Q6x c m va size access).w (fun r=>Q0u P r.2.2∧U r.1∧(r.2.1=0→r.1<128*P)):=by
 have e:decide (IntKind.wrap IntKind.u32 size≠0)=true:=by rcases hs with rfl|rfl<;>decide
 obtain⟨g1,g2⟩:=Tree.pp (Z5p h va hs)
 obtain⟨k1,k2⟩:=Tree.pp (walk_w h hc.a6 hv access)
 have bad: ∀k:Int,k≠0→Q0u P m∧U (0:Int)∧(k=0→(0:Int)<128*P):=fun k hk=>⟨h,U_0,fun e=>absurd e hk⟩
 have hca:Q32 access≠0:=by
   simp only[Q32,Q7x,Tree.m]
   cases access==1<;>cases access==3<;>simp
 unfold Q6x
 refine w_lv fun x0 _=>w_br (fun _=>bad 5 (by decide)) (fun _=>w_br (fun h1=>w_br (fun h2=> ?_) (fun _=> ?_)) (fun _=> ?_))
 · exact bad 5 (by decide)
 all_goals(
   refine w_cn e (w_br (fun _=>bad 3 (by decide)) (fun _=>w_lv fun x1 _=>w_br (fun _=>w_an g1 (w_lv fun x2 hx2=>w_br (fun _=>w_lv fun x3 hx3=>bad x3 (by rw[hx3];exact hca)) (fun hb=> ?_))) (fun _=>w_an k1 (w_lv fun x4 hx4=>w_br (fun hb=> ?_) (fun hb=> ?_)))))
   · have hb:x2=true:=by simpa using hb
     exact⟨h,hv,fun _=>g2 (hx2.symm.trans hb)⟩
   · exact bad _ (by simpa using hb)
   · obtain⟨t1,t2,t3⟩:=k2
     rw[show(Q91 m c.Csr.a6 va access).m=x4 from hx4.symm]at t1 t2 t3
     obtain⟨m1,m2⟩:=Tree.pp (mark_w h t2 access)
     refine w_an m1 (w_lv fun x5 hx5=> ?_)
     exact⟨hx5▸m2,t1,fun _=>t3 (by simpa using hb)⟩)
end
end Go.Proofs.YtdkiadhigcfmkaaGreat
namespace Go.Proofs.YtdkiadhigcfmkaaGreat
open Go Go.GD
set_option linter.unusedVariables false
set_option linter.unusedSimpArgs false
set_option maxRecDepth 100000
theorem reg_ok{r:Int}(h:Q72 r=true):0≤r∧r<16:=by
 simp only[Q72,Qb3,Tree.m]at h
 cases h1:decide (r≥0)<;>rw[h1]at h
 · cases h
 · have h1:=of_decide_eq_true h1
   have h:=of_decide_eq_true h
   omega
theorem valid_ok{i:Q0g}(hi:IntKind.wrap .i64 i.Imm=i.Imm)(h:Q7z i=true):Qdm i:=by
 have no:false=true→Qdm i:=fun h=>by cases h
 refine(Tree.post (Qds i) (W:=fun b=>b=true→Qdm i) ?_) h
 unfold Qds
 refine w_lv fun x0 h0=>w_br (fun _=>no) (fun _=>w_lv fun x1 h1=>w_br (fun _=>no) (fun b1=>w_lv fun x2 h2=>w_br (fun _=>no) (fun b2=>w_lv fun x3 h3=>w_br (fun _=>no) (fun b3=>w_lv fun x4 h4=>w_br (fun _=>no) (fun b4=>w_br (fun _=>no) (fun b5=> ?_))))))
 have b1:x1=true:=by simpa using b1
 have b2:x2=true:=by simpa using b2
 have b3:x3=true:=by simpa using b3
 have b4:=of_decide_eq_false b4
 have b5:=of_decide_eq_false b5
 rw[hi]at b4 b5
 have ok:Qdm i:=⟨reg_ok (h1.symm.trans b1),reg_ok (h2.symm.trans b2),reg_ok (h3.symm.trans b3),fun e=>by
   rw[e]at h0
   have h0:x0=8:=h0
   subst h0
   have h4:x4=(0,7):=h4
   subst h4
   simp at b4 b5;omega⟩
 repeat'(first
   |exact fun _=>ok
   |exact no
   |refine w_br (fun _=> ?_) (fun _=> ?_))
theorem Ze(w:Int):(Q9l w).w (fun r=>r.2=true→Qdm r.1):=by
 have no: ∀{p:Prop},false=true→p:=fun h=>by cases h
 have e: ∀x,IntKind.wrap .i64 (IntKind.wrap .i32 x)=IntKind.wrap .i32 x:=fun x=>by rw[IntKind.wrap_i64,IntKind.wrap_i32];omega
 have ok: ∀i,IntKind.wrap .i64 i.Imm=i.Imm→ ∀x,x=Q7z i→(!x)=false→true=true→Qdm i:=fun i hi x hx hb _=>valid_ok hi (hx.symm.trans (by simpa using hb))
 unfold Q9l
 refine w_lv fun x0 _=> ?_
 have l: ∀i,IntKind.wrap .i64 i.Imm=i.Imm→(Tree.lv (Q7z i) fun x=> .br (!x) (.lf ((⟨0,0,0,0,0⟩:Q0g),false)) (.lf (i,true))).w (fun r=>r.2=true→Qdm r.1):=fun i hi=>w_lv fun x hx=>w_br (fun _=>no) (fun hb=>ok i hi x hx hb)
 refine w_br (fun _=>no) (fun _=>w_br (fun _=>l _ rfl) (fun _=>w_br (fun _=>l _ (e _)) (fun _=>w_br (fun _=>l _ (e _)) (fun _=>l _ (e _)))))
theorem bit_w(b:Bool):U (Qaa b):=by cases b<;>exact⟨by decide,by decide⟩
theorem Zdz{a b:Int}(ha:U a)(hb:U b):(Q9o a b).w (fun r=>U r.1∧U r.2):=by
 unfold Q9o
 refine w_br (fun _=>⟨⟨by omega,by omega⟩,ha⟩) (fun h=> ?_)
 have h: ¬b=0:=by simpa using h
 obtain⟨b1,b2⟩:=hb
 have hc:decide (IntKind.wrap IntKind.i64 (IntKind.wrap IntKind.i32 b)≠0)=true:=decide_eq_true (by rw[IntKind.wrap_i64,IntKind.wrap_i32];omega)
 exact w_cn hc (w_cn hc ⟨Q0o _,Q0o _⟩)
theorem alu_w(op:Int){a b:Int}(ha:U a)(hb:U b):(Qii op a b).w (fun r=>U r.1):=by
 unfold Qii
 refine w_lv fun x0 _=> ?_
 repeat'(first
   |exact Q0o _
   |exact Qo ha _
   |exact U_0
   |refine w_br (fun _=> ?_) (fun _=> ?_)
   |exact Q0a (Zdz ha hb) fun x hx=>hx.1
   |exact Q0a (Zdz ha hb) fun x hx=>hx.2
   |exact w_lv fun x hx=>(by rw[hx];exact bit_w _))
theorem signext_w{x:Int}(hx:U x):(Q6o x 8).w U:=by
 unfold Q6o
 have h0:decide (0≤IntKind.wrap IntKind.u64 8)=true:=by decide
 refine w_br (fun h=>absurd h (by decide)) fun _=>w_br (fun h=>absurd h (by decide)) fun _=>w_cn h0 (w_cn (by decide) (w_br (fun _=>w_cn h0 (U_or _ _)) (fun _=>Qzd _ _)))
section
variable {c:Q03} (h:Q2g c) {i:Q0g} (hi:Qdm i)
include h hi
theorem system_w:(Qb2 c i).w (fun r=>Q2g r.1∧U r.2.Value):=by
 unfold Qb2
 refine w_br (fun _=>w_lv fun x hx=>⟨hx▸Qyu h _ U_0,U_0⟩) (fun _=>w_br (fun _=>w_lv fun x hx=>⟨hx▸return_w h,U_0⟩) (fun _=>w_br (fun e=>w_cn ?_ (Q0a (Z0e h _ (h.a _)) fun x hx=>⟨hx.pcs (Q0o _),U_0⟩)) (fun _=>w_br (fun _=>w_cn (rc hi.a) (Q0a (write_w h _ (h.r _)) fun x hx=>⟨hx.pcs (Q0o _),U_0⟩)) (fun _=> ?_))))
 · have:=hi.csr (by simpa using e)
   simp [Nat.blt];omega
 · have k:=h.pcs (Q0o (c.Pc+4))
   repeat'(first
     |exact⟨k,U_0⟩
     |exact⟨k,h.r _⟩
     |refine w_br (fun _=> ?_) (fun _=> ?_)
     |refine w_cn (rc hi.a) ?_)
theorem jump_w:(Qgv c i).w Q2g:=by
 unfold Qgv
 exact w_br (fun _=>Q0a (Z0e h _ (Q0o _)) fun x hx=>hx.pcs (Q0o _)) (fun _=>w_br (fun _=>w_cn (rc hi.b) (Q0a (Z0e h _ (Q0o _)) fun x hx=>hx.pcs (Q0o _))) (fun _=>w_cn (rc hi.a) (w_cn (rc hi.b) (w_lv fun x _=>w_br (fun _=>h.pcs (Q0o _)) (fun _=>h.pcs (Q0o _))))))
theorem Zg5{P:Nat}{m:List Int}(hm:Q0u P m):(Q8m c m i).w (fun r=>Q2g r.1∧Q0u P r.2):=by
  unfold Q8m
  refine w_cn (rc hi.b) ?_
  have e1:(1:Int)=1∨(1:Int)=4:= .inl rfl
  have e4:(4:Int)=1∨(4:Int)=4:= .inr rfl
  repeat'(first
    |refine w_br (fun _=> ?_) (fun _=> ?_)
    | (refine Q0a (Z59 hm h (Q0o _) e4 _) fun x hx=> ?_
       obtain⟨m1,m2,m3⟩:=hx
       refine w_br (fun _=>w_lv fun y hy=>⟨hy▸Qyu h _ (Q0o _),m1⟩) (fun hb=> ?_)
       have m3:=m3 (by simpa using hb)
       have m4:x.1<4*x.2.2.length:=by rw[m1.len];omega
       clear hb)
    | (refine Q0a (Z59 hm h (Q0o _) e1 _) fun x hx=> ?_
       obtain⟨m1,m2,m3⟩:=hx
       refine w_br (fun _=>w_lv fun y hy=>⟨hy▸Qyu h _ (Q0o _),m1⟩) (fun hb=> ?_)
       have m3:=m3 (by simpa using hb)
       have m4:x.1<4*x.2.2.length:=by rw[m1.len];omega
       clear hb)
    |exact w_cn (rc hi.a) (Q0a (put_w (by assumption) (by assumption) (by assumption) (h.r _)) fun y hy=>⟨h.pcs (Q0o _),hy⟩)
    |(refine Q0a (Z8b (by assumption) (by assumption) e4) fun y hy=> ?_)
    |(refine Q0a (Z8b (by assumption) (by assumption) e1) fun y hy=> ?_)
    |exact Q0a (signext_w (by assumption)) fun z hz=>Q0a (Z0e h _ hz) fun u hu=>⟨hu.pcs (Q0o _),by assumption⟩
    |exact Q0a (Z0e h _ (by assumption)) fun u hu=>⟨hu.pcs (Q0o _),by assumption⟩)
end
theorem do_w{c:Q03}(h:Q2g c){P:Nat}{m:List Int}(hm:Q0u P m):(Ql8 c m).w (fun r=>Q2g r.1∧U r.2.1.Value∧Q0u P r.2.2):=by
 unfold Ql8
 refine Q0a (Z59 hm h h.pc (.inr rfl) 1) fun x0 hx=> ?_
 obtain⟨m1,m2,m3⟩:=hx
 refine w_br (fun _=>w_lv fun y hy=>⟨hy▸Qyu h _ h.pc,U_0,m1⟩) (fun hb=> ?_)
 refine Q0a (Z8b m1 m2 (.inr rfl)) fun x2 h2=>Z9n (Ze _) fun x3 h3=>w_br (fun _=>w_lv fun y hy=>⟨hy▸Qyu h _ h2,U_0,m1⟩) (fun b3=> ?_)
 have hi:=h3 (by simpa using b3)
 refine w_lv fun x5 _=> ?_
 repeat'(first
   |refine w_br (fun _=> ?_) (fun _=> ?_)
   |exact w_lv fun y hy=>⟨hy▸Qyu h _ h2,U_0,m1⟩
   |exact Q0a (system_w h hi) fun y hy=>⟨hy.1,hy.2,m1⟩
   |exact Q0a (jump_w h hi) fun y hy=>⟨hy,U_0,m1⟩
   |exact Q0a (Zg5 h hi m1) fun y hy=>⟨hy.1,U_0,hy.2⟩
   |exact Q0a (Z0e h _ (Q0o _)) fun y hy=>⟨hy.pcs (Q0o _),U_0,m1⟩
   |refine w_cn (rc hi.c) ?_
   |refine w_cn (rc hi.b) ?_
   |exact Q0a (alu_w _ (h.r _) (h.r _)) fun y hy=>Q0a (Z0e h _ hy) fun z hz=>⟨hz.pcs (Q0o _),U_0,m1⟩
   |exact Q0a (alu_w _ (h.r _) (Q0o _)) fun y hy=>Q0a (Z0e h _ hy) fun z hz=>⟨hz.pcs (Q0o _),U_0,m1⟩)
end Go.Proofs.YtdkiadhigcfmkaaGreat
namespace Go.Proofs.YtdkiadhigcfmkaaGreat
open Go Go.GD
set_option linter.unusedVariables false
set_option linter.unusedSimpArgs false
set_option maxRecDepth 100000
theorem and1{q:Int}(h:U q):iand .u32 q 1=q%2:=by
 obtain⟨h1,h2⟩:=h
 unfold iand
 rw[IntKind.wrap_u32]
 have e1:(BitVec.ofInt 32 q).toNat=q.toNat:=by rw[BitVec.toNat_ofInt];omega
 have e2:(BitVec.ofInt 32 1).toNat=1:=by decide
 have:(BitVec.ofInt IntKind.u32.bits q&&&BitVec.ofInt IntKind.u32.bits 1).toNat=q.toNat%2:=by
   show(BitVec.ofInt 32 q&&&BitVec.ofInt 32 1).toNat=_
   rw[BitVec.toNat_and,e1,e2,Nat.and_one_is_mod]
 rw[this];omega
theorem Z9m(b:Bool)(n:Int):(Qgy b n).w (fun _=>True):=by
 unfold Qgy
 exact w_br (fun _=>w_cn (decide_eq_true (by rw[IntKind.wrap_u64];omega)) trivial) (fun _=>trivial)
theorem lines_w(m:Q00):(Qdg m).w (fun _=>True):=by
 unfold Qdg
 exact w_lv fun _ _=>Q0a (Z9m _ _) fun _ _=>w_lv fun _ _=>Q0a (Z9m _ _) fun _ _=>w_lv fun _ _=>Q0a (Z9m _ _) fun _ _=>w_lv fun _ _=>Q0a (Z9m _ _) fun _ _=>w_lv fun _ _=>Q0a (Z9m _ _) fun _ _=>trivial
theorem Z6z(m:Q00):(Q80 m).w U:=by
 unfold Q80
 exact Q0a (lines_w m) fun _ _=>Qzd _ _
theorem idle_w(m:Q00):(Qco m).w (fun _=>True):=by
 unfold Qco
 exact w_br (fun _=>Q0a (Z6z m) fun _ _=>trivial) (fun _=>trivial)
theorem Zcp(m:Q00):(Q8d m).w (fun _=>True):=by
 unfold Q8d
 exact w_lv fun _ _=>w_br (fun _=>trivial) (fun _=>w_br (fun _=>trivial) (fun _=>Q0a (idle_w m) fun _ _=>w_br (fun _=>trivial) (fun _=>trivial)))
theorem Qjo{m:Q00}(h:Q2g m.Cpu):(Q3u m).w Q2g:=by
 unfold Q3u
 refine Q0a (Z6z m) fun x0 hx=>w_br (fun _=>h) (fun _=>w_br (fun _=>h) (fun hb=> ?_))
 have hb:x0≠0:=by simpa using hb
 have sh: ∀z:Int,0≤z→z≤31→ishr .u32 x0 (IntKind.wrap .u64 z)=x0/2^z.toNat:=fun z h1 h2=>by
   unfold ishr
   have e:min (IntKind.wrap .u64 z).toNat IntKind.u32.bits=z.toNat:=by
     show min (IntKind.wrap .u64 z).toNat 32=z.toNat
     rw[IntKind.wrap_u64];omega
   rw[e,Int.fdiv_eq_ediv_of_nonneg _ (Int.le_of_lt (Int.pow_pos (by decide)))]
 refine w_lp (inv:=fun z=>0≤z∧z≤31∧x0/2^z.toNat≠0) (μ:=Qc1 m) ⟨by omega,by omega,by simpa using hb⟩ (Nat.lt_succ_self _) (fun z hz=> ?_)
 obtain⟨z1,z2,z3⟩:=hz
 refine w_cn (decide_eq_true (by rw[IntKind.wrap_u64];omega)) (w_br (fun e=>w_nx ?_) (fun _=>w_lv fun y hy=>hy▸Qyu h _ U_0))
 have e:=eq_of_beq e
 have hq:=Qo hx (IntKind.wrap .u64 z)
 rw[and1 hq,sh z z1 z2]at e
 rw[sh z z1 z2]at hq
 have hlt:x0/2^z.toNat/2≠0:=by omega
 have z4:z≤30:=by
   rcases Int.lt_or_le z 31 with h|h
   · omega
   · have:z=31:=by omega
     subst this
     have:=hx.2
     have:=hx.1
     simp at z3 e hlt
     omega
 show(0≤IntKind.i64.wrap (z+1)∧IntKind.i64.wrap (z+1)≤31∧x0/2^(IntKind.i64.wrap (z+1)).toNat≠0)∧(32-IntKind.i64.wrap (z+1)).toNat<(32-z).toNat
 have ew:IntKind.i64.wrap (z+1)=z+1:=by rw[IntKind.wrap_i64];omega
 rw[ew]
 refine⟨⟨by omega,by omega,?_⟩,by omega⟩
 have et:(z+1).toNat=z.toNat+1:=by omega
 rw[et,Int.pow_succ,←Int.ediv_ediv_of_nonneg (Int.le_of_lt (Int.pow_pos (by decide)))]
 exact hlt
theorem reads_w{P:Nat}{m:Q00}(h:Q2g m.Cpu)(hm:Q0u P m.Mem):(Qe m).w (fun _=>True):=by
 unfold Qe
 refine Q0a (Qjo h) fun x0 hx=>w_br (fun _=>trivial) (fun _=>Q0a (Z8b hm hx.pc (.inr rfl)) fun x1 _=>w_lv fun x2 _=> ?_)
 exact w_br (fun _=>w_br (fun _=>w_br (fun _=>trivial) (fun _=>trivial)) (fun _=>trivial)) (fun _=>trivial)
theorem Qt5{P:Nat}{m:Q00}(h:Q2g m.Cpu)(hm:Q0u P m.Mem):(Q6g m).w (fun _=>True):=by
 unfold Q6g
 exact Q0a (Zcp m) fun _ _=>w_br (fun _=>trivial) (fun _=>Q0a (reads_w h hm) fun _ _=>trivial)
theorem Qh3(l:List Int):(bytesOf l).length=l.length:=by simp [bytesOf]
theorem Qm4(l:List UInt8):(Qa1 l).length=l.length:=by simp [Qa1]
theorem low_w(x:Int):(Qfa x 4).w (fun r=>r.length=4):=by
 unfold Qfa
 refine w_lp (inv:=fun z=>0≤z.1∧z.1≤4∧(z.2.length:Int)=z.1) (μ:=Qcz x 4) ⟨by omega,by omega,rfl⟩ (Nat.lt_succ_self _) (fun z hz=> ?_)
 obtain⟨z1,z2,z3⟩:=hz
 refine w_br (fun h=>w_cn (decide_eq_true (by rw[IntKind.wrap_u64];omega)) (w_cn (decide_eq_true (by omega)) (w_nx ?_))) (fun h=> ?_)
 · have h:=of_decide_eq_true h
   show(0≤IntKind.i64.wrap (z.1+1)∧IntKind.i64.wrap (z.1+1)≤4∧((z.2++[_]).length:Int)=IntKind.i64.wrap (z.1+1))∧(4-IntKind.i64.wrap (z.1+1)).toNat<(4-z.1).toNat
   have ew:IntKind.i64.wrap (z.1+1)=z.1+1:=by rw[IntKind.wrap_i64];omega
   rw[ew]
   refine⟨⟨by omega,by omega,by simp;omega⟩,by omega⟩
 · have h:=of_decide_eq_false h
   show(bytesOf z.2).length=4
   rw[Qh3];omega
theorem page_w{P:Nat}{m:List Int}(hm:Q0u P m)(frame:Int):(Q8t m frame).w (fun r=>0≤frame→frame<P→r.1.length=128):=by
 have hp:=Qd8 hm
 have hl:=hm.len
 have h2:=hm.p2
 unfold Q8t
 refine w_br (fun h=>fun h0 _=>by have:=of_decide_eq_true h;omega) (fun h=>w_lv fun x0 hx=>w_br (fun h1=>fun _ h2=>by have:=of_decide_eq_true h1;rw[hx,hp]at this;omega) (fun h1=> ?_))
 have h:=of_decide_eq_false h
 have h1:=of_decide_eq_false h1
 rw[hx,hp]at h1
 refine w_lp (inv:=fun z=>0≤z.1∧z.1≤32∧(z.2.length:Int)=4*z.1) (μ:=Qfs m frame) ⟨by omega,by omega,rfl⟩ (Nat.lt_succ_self _) (fun z hz=> ?_)
 obtain⟨z1,z2,z3⟩:=hz
 refine w_br (fun hb=> ?_) (fun hb=> ?_)
 · have hb:=of_decide_eq_true hb
   have e:IntKind.wrap IntKind.i64 (IntKind.wrap IntKind.i64 (frame*32)+z.1)=frame*32+z.1:=by rw[IntKind.wrap_i64,IntKind.wrap_i64];omega
   refine w_cn (by rw[e];simp [Nat.blt];omega) (w_an (show(4:Int)≤1000000000000 by decide) (Z9n (low_w _) fun x1 h4=>w_cn (decide_eq_true (by rw[Qm4,h4];omega)) (w_nx ?_)))
   show(0≤IntKind.i64.wrap (z.1+1)∧IntKind.i64.wrap (z.1+1)≤32∧((z.2++Qa1 x1).length:Int)=4*IntKind.i64.wrap (z.1+1))∧(32-IntKind.i64.wrap (z.1+1)).toNat<(32-z.1).toNat
   have ew:IntKind.i64.wrap (z.1+1)=z.1+1:=by rw[IntKind.wrap_i64];omega
   rw[ew,List.length_append,Qm4,h4]
   exact⟨⟨by omega,by omega,by omega⟩,by omega⟩
 · have hb:=of_decide_eq_false hb
   intro _ _
   show(bytesOf z.2).length=128
   rw[Qh3];omega
theorem Z9g{P:Nat}{m:List Int}(hm:Q0u P m){d:Q0d}(hd:Q85 d)(port:Int){v:Int}(hv:U v)(at0:Int):(Q7u d m port v at0).w (fun r=>Q85 r.1∧r.2.length≤1):=by
 have k: ∀st,Q85 {Blocks:=d.Blocks,Block:=d.Block,Frame:=d.Frame,State:=st,Cmd:=d.Cmd,OpBlock:=d.OpBlock,OpFrame:=d.OpFrame,OpData:=d.OpData}:=fun st=>⟨hd.block,hd.frame,hd.opBlock,hd.opFrame⟩
 have k2: ∀c o,Q85 {Blocks:=d.Blocks,Block:=d.Block,Frame:=d.Frame,State:=1,Cmd:=c,OpBlock:=d.Block,OpFrame:=d.Frame,OpData:=o}:=fun c o=>⟨hd.block,hd.frame,hd.block,hd.frame⟩
 have k3:Q85 {Blocks:=d.Blocks,Block:=v,Frame:=d.Frame,State:=d.State,Cmd:=d.Cmd,OpBlock:=d.OpBlock,OpFrame:=d.OpFrame,OpData:=d.OpData}:=⟨hv,hd.frame,hd.opBlock,hd.opFrame⟩
 have k4:Q85 {Blocks:=d.Blocks,Block:=d.Block,Frame:=v,State:=d.State,Cmd:=d.Cmd,OpBlock:=d.OpBlock,OpFrame:=d.OpFrame,OpData:=d.OpData}:=⟨hd.block,hv,hd.opBlock,hd.opFrame⟩
 unfold Q7u
 repeat'(first
   |refine w_br (fun _=> ?_) (fun _=> ?_)
   |exact Q0a (page_w hm _) fun _ _=>w_lv fun _ _=>⟨k2 _ _,Nat.le_refl _⟩
   |refine w_lv (fun _ _=> ?_)
   |refine w_lf ?_)
 all_goals(first
   |exact⟨hd,Nat.zero_le _⟩
   |exact⟨k _,Nat.zero_le _⟩
   |exact⟨k2 _ _,Nat.le_refl _⟩
   |exact⟨k3,Nat.zero_le _⟩
   |exact⟨k4,Nat.zero_le _⟩)
theorem Zeg{P:Nat}{m:List Int}(hm:Q0u P m){n:Q0m}(hn:Qh6 n)(port:Int){v:Int}(hv:U v)(at0:Int):(Q9n n m port v at0).w (fun r=>Qh6 r.1∧r.2.length≤1):=by
 have k1:Qh6 {Frame:=v,Len:=n.Len,Posted:=n.Posted,Buffer:=n.Buffer,Received:=n.Received,Got:=n.Got}:=⟨hv,hn.len,hn.buffer,hn.got⟩
 have k2:Qh6 {Frame:=n.Frame,Len:=v,Posted:=n.Posted,Buffer:=n.Buffer,Received:=n.Received,Got:=n.Got}:=⟨hn.frame,hv,hn.buffer,hn.got⟩
 have k3:Qh6 {Frame:=n.Frame,Len:=n.Len,Posted:=n.Posted,Buffer:=n.Buffer,Received:=false,Got:=0}:=⟨hn.frame,hn.len,hn.buffer,U_0⟩
 have k4: ∀p r,Qh6 {Frame:=n.Frame,Len:=n.Len,Posted:=p,Buffer:=n.Frame,Received:=r,Got:=n.Got}:=fun p r=>⟨hn.frame,hn.len,hn.frame,hn.got⟩
 have send: ∀K:List UInt8×Bool→Tree (Q0m×List Q07),Q1p m n.Frame=true→(∀x:List UInt8×Bool,x.1.length=128→(K x).w (fun r=>Qh6 r.1∧r.2.length≤1))→(Tree.an (Qf1 m (IntKind.wrap .i64 n.Frame)) (.lv (Qfw m (IntKind.wrap .i64 n.Frame)) K)).w (fun r=>Qh6 r.1∧r.2.length≤1):=fun K hp hK=>by
   rw[Qju hm hn.frame]at hp
   have hp:=of_decide_eq_true hp
   obtain⟨f1,f2⟩:=hn.frame
   have ew:IntKind.i64.wrap n.Frame=n.Frame:=by rw[IntKind.wrap_i64];omega
   exact Q0a (page_w hm _) fun x hx=>hK x (hx (by rw[ew];exact f1) (by rw[ew];exact hp))
 unfold Q9n
 repeat'(first
   |refine w_br (fun _=> ?_) (fun _=> ?_)
   |refine send _ (by simp_all) (fun x hx=>w_cn (by simp_all;exact hn.len.1) ?_)
   |refine w_lv (fun _ _=> ?_)
   |refine w_lf ?_)
 all_goals(first
   |exact⟨hn,Nat.zero_le _⟩
   |exact⟨hn,Nat.le_refl _⟩
   |exact⟨k1,Nat.zero_le _⟩
   |exact⟨k2,Nat.zero_le _⟩
   |exact⟨k3,Nat.zero_le _⟩
   |exact⟨k4 _ _,Nat.zero_le _⟩)
def okB(b:Q05):Prop:=U b.Target∧U b.Given
theorem give_w{P:Nat}{m:List Int}(hm:Q0u P m){b:Q05}(hb:okB b)(port:Int){v:Int}(hv:U v):(Q41 b m port v).w (fun r=>okB r.1∧Q0u P r.2):=by
 have hv0:decide (0≤v)=true:=decide_eq_true hv.1
 have h2:=hm.p2
 have rest:(Tree.br (port==11) (.br (decide (v<32)) (.cn (decide (0≤v)) (.lf (({Target:=b.Target,Given:=Qey .u32 b.Given (ishl .u32 1 v)}:Q05),m))) (.lf (b,m))) (.lf (b,m))).w (fun r=>okB r.1∧Q0u P r.2):=
   w_br (fun _=>w_br (fun _=>w_cn hv0 ⟨⟨hb.1,Q0o _⟩,hm⟩) (fun _=>⟨hb,hm⟩)) (fun _=>⟨hb,hm⟩)
 unfold Q41
 refine w_br (fun _=>w_lv fun x0 hx=>w_br (fun hp=>w_cn hv0 (w_br (fun _=>w_cn hv0 ?_) (fun _=>rest))) (fun _=>rest)) (fun _=>rest)
 have hp:Q1p m v=true:=hx.symm.trans hp
 rw[Qju hm hv]at hp
 have hp:=of_decide_eq_true hp
 obtain⟨v1,v2⟩:=hv
 refine w_lp (inv:=fun z=>0≤z.1∧z.1≤32∧Q0u P z.2) (μ:=Qfm b m port v) ⟨by omega,by omega,hm⟩ (Nat.lt_succ_self _) (fun z hz=> ?_)
 obtain⟨z1,z2,z3⟩:=hz
 have hl:=z3.len
 refine w_br (fun h=> ?_) (fun _=>⟨⟨hb.1,Q0o _⟩,z3⟩)
 have h:=of_decide_eq_true h
 have e:IntKind.wrap IntKind.i64 (IntKind.wrap IntKind.i64 (IntKind.wrap IntKind.i64 v*32)+z.1)=v*32+z.1:=by rw[IntKind.wrap_i64,IntKind.wrap_i64,IntKind.wrap_i64];omega
 refine w_cn (by rw[e];simp [Nat.blt];omega) (w_nx ?_)
 show(0≤IntKind.i64.wrap (z.1+1)∧IntKind.i64.wrap (z.1+1)≤32∧Q0u P (List.set _ _ _))∧(32-IntKind.i64.wrap (z.1+1)).toNat<(32-z.1).toNat
 have ew:IntKind.i64.wrap (z.1+1)=z.1+1:=by rw[IntKind.wrap_i64];omega
 rw[ew]
 exact⟨⟨by omega,by omega,⟨by simp [hl],z3.p1,z3.p2,Qu8 z3.u U_0 _⟩⟩,by omega⟩
structure okM(P:Nat)(m:Q00):Prop where
 cpu:Q2g m.Cpu
 mem:Q0u P m.Mem
 disk:Q85 m.Disk
 nic:Qh6 m.Nic
 target:okB m.Balloon
 cnt:0≤m.Count
theorem Qwv(c:Q0c)(port:Int):U (Q4f c port).2:=by
 refine Tree.post (Q33 c port) (W:=fun r=>U r.2) ?_
 have u1:U 4294967295:=⟨by omega,by omega⟩
 unfold Q33
 refine w_br (fun _=>w_br (fun _=>u1) (fun h=>w_br (fun _=>w_cn ?_ (w_cn ?_ (Q0o _))) (fun _=>w_br (fun _=>Q0o _) (fun _=>U_0)))) (fun h1=>w_br (fun h=>(by rw[h1]at h;cases h)) (fun _=>w_br (fun _=>Q0o _) (fun _=>U_0)))
 · have h: ¬(c.Keys.length:Int)=0:=by simpa using h
   exact decide_eq_true ⟨by omega,by omega,by omega⟩
 · have h: ¬(c.Keys.length:Int)=0:=by simpa using h
   simp [Nat.blt];omega
theorem nicIn_w{n:Q0m}(h:Qh6 n)(port:Int):U (Qf6 n port):=by
 refine Tree.post (Qe0 n port) (W:=U) ?_
 have u1:U 1:=⟨by omega,by omega⟩
 unfold Qe0
 exact w_br (fun _=>h.frame) (fun _=>w_br (fun _=>h.got) (fun _=>w_br (fun _=>w_br (fun _=>w_br (fun _=>Q0o _) (fun _=>u1)) (fun _=>w_br (fun _=>Q0o _) (fun _=>U_0))) (fun _=>U_0)))
theorem Zdj{d:Q0d}(h:Q85 d)(port:Int):U (Qfk d port):=by
 refine Tree.post (Qf0 d port) (W:=U) ?_
 unfold Qf0
 exact w_br (fun _=>h.block) (fun _=>w_br (fun _=>h.frame) (fun _=>w_br (fun _=>Q0o _) (fun _=>U_0)))
theorem Z81(t:Q0h):U (Qdd t):=by
 refine Tree.post (Qcx t) (W:=U) ?_
 unfold Qcx
 exact w_br (fun _=>⟨by omega,by omega⟩) (fun _=>U_0)
theorem Qwb{b:Q05}(h:U b.Target)(port:Int):U (Q4d b port):=by
 refine Tree.post (Q5g b port) (W:=U) ?_
 unfold Q5g
 exact w_br (fun _=>h) (fun _=>w_br (fun _=>w_lv fun _ _=>Q0o _) (fun _=>U_0))
structure okR(P:Nat)(r:Q01):Prop where
 m:okM P r.Machine
 clock:U r.Clock
structure okL(P:Nat)(r x:Q01):Prop where
 ok:okR P x
 log:x.Log=r.Log
 queue:x.Queue=r.Queue
theorem w0(x:Int):0≤IntKind.u64.wrap x:=by rw[IntKind.wrap_u64];omega
section
variable {P:Nat} {r:Q01} (h:okR P r)
include h
theorem in_w(port:Int){clock:Int}(hc:U clock):(Qgl r port clock).w (fun x=>U x.1∧okL P r x.2):=by
 have k:okL P r r:=⟨h,rfl,rfl⟩
 obtain⟨⟨h1,h2,h3,h4,h5,h7⟩,h6⟩:=h
 unfold Qgl
 exact w_br (fun _=>w_lv fun x hx=>⟨hx▸Qwv _ _,⟨⟨⟨h1,h2,h3,h4,h5,h7⟩,h6⟩,rfl,rfl⟩⟩) (fun _=>w_br (fun _=>⟨hc,k⟩) (fun _=>w_br (fun _=>w_lv fun x hx=>⟨hx▸Z81 _,k⟩) (fun _=>w_br (fun _=>w_lv fun x hx=>⟨hx▸Zdj h3 _,k⟩) (fun _=>w_br (fun _=>w_lv fun x hx=>⟨hx▸nicIn_w h4 _,k⟩) (fun _=>w_lv fun x hx=>⟨hx▸Qwb h5.1 _,k⟩)))))
theorem out_w(port:Int){v:Int}(hv:U v):(Qav r port v).w (fun x=>x.1.length≤1∧okL P r x.2):=by
 have k:okL P r r:=⟨h,rfl,rfl⟩
 obtain⟨⟨h1,h2,h3,h4,h5,h7⟩,h6⟩:=h
 unfold Qav
 exact w_br (fun _=>⟨Nat.le_refl _,k⟩) (fun _=>w_br (fun _=>⟨Nat.zero_le _,k⟩) (fun _=>w_br (fun _=>w_lv fun _ _=>⟨Nat.zero_le _,⟨⟨⟨h1,h2,h3,h4,h5,h7⟩,h6⟩,rfl,rfl⟩⟩) (fun _=>w_br (fun _=>Q0a (Z9g h2 h3 _ hv _) fun x hx=>⟨hx.2,⟨⟨⟨h1,h2,hx.1,h4,h5,h7⟩,h6⟩,rfl,rfl⟩⟩) (fun _=>w_br (fun _=>Q0a (Zeg h2 h4 _ hv _) fun x hx=>⟨hx.2,⟨⟨⟨h1,h2,h3,hx.1,h5,h7⟩,h6⟩,rfl,rfl⟩⟩) (fun _=>Q0a (give_w h2 h5 _ hv) fun x hx=>⟨Nat.zero_le _,⟨⟨⟨h1,hx.2,h3,h4,hx.1,h7⟩,h6⟩,rfl,rfl⟩⟩)))))
theorem Qqu{clock:Int}(hc:U clock):(Q5b r clock).w (fun x=>x.1.length≤1∧okL P r x.2):=by
 obtain⟨⟨h1,h2,h3,h4,h5,h7⟩,h6⟩:=h
 unfold Q5b
 refine Q0a (Qjo h1) fun x0 c0=>Q0a (do_w c0 h2) fun x1 hx=> ?_
 obtain⟨c1,v1,m1⟩:=hx
 refine w_br (fun _=>Z9n (in_w (r:=⟨⟨_,_,_,_,_,_,_,_,_,_⟩,_,_,_⟩) ⟨⟨c1,m1,h3,h4,h5,h7⟩,h6⟩ _ hc) fun x2 hx=> ?_) (fun _=>w_br (fun _=>Q0a (out_w (r:=⟨⟨_,_,_,_,_,_,_,_,_,_⟩,_,_,_⟩) ⟨⟨c1,m1,h3,h4,h5,h7⟩,h6⟩ _ v1) fun x4 hx=> ?_) (fun _=> ?_))
 · obtain⟨u,⟨⟨⟨k1,k2,k3,k4,k5,k7⟩,k6⟩,e1,e2⟩⟩:=hx
   exact Q0a (Z0e k1 _ u) fun x3 h3=>⟨Nat.zero_le _,⟨⟨⟨h3,k2,k3,k4,k5,w0 _⟩,k6⟩,e1,e2⟩⟩
 · obtain⟨u,⟨⟨⟨k1,k2,k3,k4,k5,k7⟩,k6⟩,e1,e2⟩⟩:=hx
   exact⟨u,⟨⟨⟨k1,k2,k3,k4,k5,w0 _⟩,k6⟩,e1,e2⟩⟩
 · repeat'(first
     |exact⟨Nat.zero_le _,⟨⟨⟨c1,m1,h3,h4,h5,w0 _⟩,h6⟩,rfl,rfl⟩⟩
     |refine w_br (fun _=> ?_) (fun _=> ?_))
end
end Go.Proofs.YtdkiadhigcfmkaaGreat
namespace Go.Proofs.YtdkiadhigcfmkaaGreat
open Go Go.GD
set_option linter.unusedVariables false
set_option linter.unusedSimpArgs false
set_option maxRecDepth 100000
theorem type_w(c:Q0c)(b:Int):(Qgq c b).w (fun _=>True):=by
 unfold Qgq
 refine w_br (fun _=>trivial) (fun h=>w_cn (decide_eq_true ?_) trivial)
 have h:=of_decide_eq_false h
 simp [maxLen];omega
theorem Zd9{P:Nat}{m:List Int}(hm:Q0u P m){n:Q0m}(hn:Qh6 n)(frame:List UInt8):(Q9c n m frame).w (fun r=>Qh6 r.1∧Q0u P r.2.2):=by
 unfold Q9c
 refine w_br (fun _=>⟨hn,hm⟩) (fun _=>w_br (fun _=>⟨hn,hm⟩) (fun _=>w_br (fun _=>⟨hn,hm⟩) (fun _=>w_lv fun x0 hx=>w_br (fun _=>⟨hn,hm⟩) (fun hb=> ?_))))
 have hp:Q1p m n.Buffer=true:=hx.symm.trans (by simpa using hb)
 rw[Qju hm hn.buffer]at hp
 have hp:=of_decide_eq_true hp
 obtain⟨b1,b2⟩:=hn.buffer
 have ew:IntKind.i64.wrap n.Buffer=n.Buffer:=by rw[IntKind.wrap_i64];omega
 exact Q0a (fill_w hm (frame:=IntKind.i64.wrap n.Buffer) (by rw[ew];exact b1) (by rw[ew];exact hp) frame) fun x hx=>⟨⟨hn.frame,hn.len,U_0,Q0o _⟩,hx⟩
section
variable {P:Nat} {r:Q01} (h:okR P r)
include h
theorem apply_w{e:Q0e}(he:U e.N):(Q7y r e).w (fun x=>okL P r x.2):=by
 have k:okL P r r:=⟨h,rfl,rfl⟩
 obtain⟨⟨h1,h2,h3,h4,h5,h7⟩,h6⟩:=h
 unfold Q7y
 repeat'(first
   |exact k
   |exact⟨⟨⟨h1,h2,h3,h4,⟨he,h5.2⟩,h7⟩,h6⟩,rfl,rfl⟩
   |exact w_lv fun _ _=>⟨⟨⟨h1,h2,h3,h4,h5,h7⟩,h6⟩,rfl,rfl⟩
   |exact Q0a (type_w _ _) fun _ _=>⟨⟨⟨h1,h2,h3,h4,h5,h7⟩,h6⟩,rfl,rfl⟩
   |exact Q0a (Zdv h2 h3 _) fun x hx=>⟨⟨⟨h1,hx.2,hx.1,h4,h5,h7⟩,h6⟩,rfl,rfl⟩
   |exact Q0a (Zd9 h2 h4 _) fun x hx=>⟨⟨⟨h1,hx.2,h3,hx.1,h5,h7⟩,h6⟩,rfl,rfl⟩
   |refine w_br (fun _=> ?_) (fun _=> ?_))
theorem offer_w{e:Q0e}(he:U e.N)(hl:r.Log.length≤1000000):(Q9i r e).w (fun x=>okR P x∧x.Log.length≤r.Log.length+1∧x.Queue=r.Queue):=by
 have acc:(Q6m r e).w (fun x=>okL P r x.2):=by
   unfold Q6m
   exact Q0a (apply_w h he) fun x hx=>hx
 unfold Q9i
 refine Q0a acc fun x hx=> ?_
 obtain⟨⟨k1,k2⟩,e1,e2⟩:=hx
 refine w_br (fun _=>w_cn (decide_eq_true (by rw[e1];omega)) ⟨⟨k1,k2⟩,by simp [e1],e2⟩) (fun _=>⟨⟨k1,k2⟩,by rw[e1];omega,e2⟩)
theorem own_w(hl:r.Log.length≤1000000)(hq:r.Queue.length≤1000000):(Qcu r).w (fun x=>okR P x∧x.Log=r.Log∧x.Queue=r.Queue):=by
 have ow:(Q7s r.Machine).w (fun m=>okM P m):=by
   obtain⟨⟨h1,h2,h3,h4,h5,h7⟩,h6⟩:=h
   unfold Q7s
   exact Q0a (copy_w h2) fun x hx=>⟨h1,by rw[hx];exact h2,h3,h4,h5,h7⟩
 unfold Qcu
 refine Q0a ow fun x hx=>w_cn (decide_eq_true (by simp;omega)) (w_cn (decide_eq_true (by simp;omega)) ⟨⟨hx,h.clock⟩,rfl,rfl⟩)
theorem arrive_w(e:Q0e)(hl:r.Log.length≤1000000)(hq:r.Queue.length≤16)(hu: ∀q∈r.Queue,U q.N)(he:U e.N):(Q7v r e).w (fun x=>okR P x.1∧x.1.Log=r.Log∧x.1.Queue.length≤16∧ ∀q∈x.1.Queue,U q.N):=by
 unfold Q7v
 refine Q0a (own_w h hl (by omega)) fun x hx=> ?_
 obtain⟨k1,k2,k3⟩:=hx
 have g:okR P x∧x.Log=r.Log∧x.Queue.length≤16∧ ∀q∈x.Queue,U q.N:=⟨k1,k2,by rw[k3];exact hq,by rw[k3];exact hu⟩
 refine w_lv fun x1 _=>w_br (fun _=>g) (fun _=>w_br (fun _=>g) (fun _=>w_br (fun _=>g) (fun hb=>w_cn (decide_eq_true (by rw[k3];omega)) ?_)))
 have hb:=of_decide_eq_false hb
 refine⟨⟨k1.m,k1.clock⟩,k2,?_,?_⟩
 · show(x.Queue++[e]).length≤16
   rw[List.length_append];simp at hb⊢;omega
 · intro q hq
   have hq:q∈x.Queue++[e]:=hq
   rw[List.mem_append]at hq
   rcases hq with hq|hq
   · exact hu q (k3▸hq)
   · rw[List.mem_singleton.1 hq];exact he
end
theorem Zbv(n:Int):(Qdb n).w (fun e=>U e.N):=by
 have u1:U 1:=⟨by omega,by omega⟩
 have ev40: ∀x y,Q96 x (IntKind.wrap .i64 (1+Int.tmod y 40)):=fun x y=>by
   show IntKind.wrap .i64 (1+Int.tmod y 40)≤1000000000000
   have h1:=Int.tmod_lt_of_pos y (b:=40) (by decide)
   have h2:=Int.lt_tmod_of_pos y (b:=40) (by decide)
   rw[IntKind.wrap_i64];omega
 unfold Qdb
 refine w_lv fun x0 _=> ?_
 repeat'(first
   |exact U_0
   |exact u1
   |exact Q0o _
   |exact w_an (show(128:Int)≤1000000000000 by decide) (w_lv fun _ _=>u1)
   |exact w_an (ev40 _ _) (w_lv fun _ _=>U_0)
   |refine w_br (fun _=> ?_) (fun _=> ?_))
end Go.Proofs.YtdkiadhigcfmkaaGreat

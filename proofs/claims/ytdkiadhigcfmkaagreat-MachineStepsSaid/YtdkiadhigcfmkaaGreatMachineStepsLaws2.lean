/-
  A part of the proof.
-/
import Derived.Test.YtdkiadhigcfmkaaGreatMachineStepsYe
import Derived.Test.YtdkiadhigcfmkaaGreatMachineStepsZa
import Derived.Test.YtdkiadhigcfmkaaGreatMachineStepsZb
import Derived.Test.YtdkiadhigcfmkaaGreatMachineStepsZg
namespace Go.Proofs.YtdkiadhigcfmkaaGreat
open Go Go.GD
set_option linter.unusedVariables false
set_option linter.unusedSimpArgs false
set_option maxRecDepth 100000
def U(x:Int):Prop:=0≤x∧x<4294967296
theorem Q0l(x:Int):U (IntKind.u32.wrap x):=by rw[IntKind.wrap_u32];unfold U;omega
theorem Qhe(x y:Int):U (iand .u32 x y):=Q0l _
theorem U_or(x y:Int):U (ior .u32 x y):=Q0l _
theorem U_0:U 0:=⟨by omega,by omega⟩
theorem Qv8{m:List Int}(h: ∀w∈m,U w){v:Int}(hv:U v)(i:Nat): ∀w∈m.set i v,U w:=by
 intro w hw
 rcases List.mem_or_eq_of_mem_set hw with h1|h1
 · exact h w h1
 · rw[h1];exact hv
structure Q10(P:Nat)(m:List Int):Prop where
 len:m.length=32*P
 p1:0≤P
 p2:P≤32
 u: ∀w∈m,U w
structure Qaq(d:Q0d):Prop where
 block:U d.Block
 frame:U d.Frame
 opBlock:U d.OpBlock
 opFrame:U d.OpFrame
structure Qj6(n:Q0m):Prop where
 frame:U n.Frame
 len:U n.Len
 buffer:U n.Buffer
 got:U n.Got
theorem Qjo{l:List Int}(h: ∀w∈l,U w)(i:Nat):U (l.getD i 0):=by
 by_cases hi:i<l.length
 · have:l.getD i 0=l[i]:=by simp [List.getD,hi]
   rw[this];exact h _ (List.getElem_mem hi)
 · have:l.getD i 0=0:=by simp [List.getD,List.getElem?_eq_none (by omega:l.length≤i)]
   rw[this];exact U_0
structure Q1v(c:Q02):Prop where
 x: ∀w∈A16.l c.X,U w
 pc:U c.Pc
 csr: ∀w∈A8.l c.Csr,U w
theorem Z2z{X:A16 Int}(h: ∀w∈A16.l X,U w){v:Int}(hv:U v)(i:Nat): ∀w∈A16.l (A16.of 0 (List.set (A16.l X) i v)),U w:=by
 have hs:=Qv8 h hv i
 intro w hw
 simp only[A16.l,A16.of,List.mem_cons,List.not_mem_nil,or_false]at hw
 repeat(first|(rcases hw with rfl|hw; · exact Qjo hs _)|(subst hw;exact Qjo hs _))
theorem Qp5{X:A8 Int}(h: ∀w∈A8.l X,U w){v:Int}(hv:U v)(i:Nat): ∀w∈A8.l (A8.of 0 (List.set (A8.l X) i v)),U w:=by
 have hs:=Qv8 h hv i
 intro w hw
 simp only[A8.l,A8.of,List.mem_cons,List.not_mem_nil,or_false]at hw
 repeat(first|(rcases hw with rfl|hw; · exact Qjo hs _)|(subst hw;exact Qjo hs _))
section
variable {c:Q02} (h:Q1v c)
include h
theorem Q1v.a(i:Nat):U ((A8.l c.Csr).getD i 0):=Qjo h.csr i
theorem Q1v.r(i:Nat):U ((A16.l c.X).getD i 0):=Qjo h.x i
theorem Q1v.a0:U c.Csr.a0:=h.a 0
theorem Q1v.a1:U c.Csr.a1:=h.a 1
theorem Q1v.a2:U c.Csr.a2:=h.a 2
theorem Q1v.a3:U c.Csr.a3:=h.a 3
theorem Q1v.a4:U c.Csr.a4:=h.a 4
theorem Q1v.a5:U c.Csr.a5:=h.a 5
theorem Q1v.a6:U c.Csr.a6:=h.a 6
theorem Q1v.a7:U c.Csr.a7:=h.a 7
theorem Q1v.pcs{p:Int}(hp:U p):Q1v {X:=c.X,Pc:=p,Csr:=c.Csr}:=⟨h.x,hp,h.csr⟩
end
section
variable {α β:Type} {W:β→Prop} {t:Tree α} {Q:α→Prop} {k:α→Tree β}
theorem Q0b(hq:t.w Q)(g: ∀x,Q x→(k x).w W):(Tree.an t.p (Tree.lv t.m k)).w W:=⟨(Tree.pp hq).1,fun y hy=>g y (by rw[hy];exact(Tree.pp hq).2)⟩
theorem Z7t(hq:t.w Q)(g: ∀x,Q x→(k x).w W):(Tree.lv t.m k).w W:=fun y hy=>g y (by rw[hy];exact t.post hq)
end
theorem rc{r:Int}(h:0≤r∧r<16):(Nat.blt 0 1&&decide (0≤r∧r<((16:Nat):Int)))=true:=by simp [Nat.blt];omega
theorem Qq3{a:Int}(h:U a)(b:Int):U (ishr .u32 a b):=by
 unfold ishr U
 obtain⟨h1,h2⟩:=h
 have hp:(0:Int)<2^(min b.toNat IntKind.u32.bits):=Int.pow_pos (by decide)
 have:=Int.fdiv_nonneg h1 (Int.le_of_lt hp)
 refine⟨this,?_⟩
 rw[Int.fdiv_eq_ediv_of_nonneg _ (Int.le_of_lt hp)]
 have h3:=Int.ediv_le_self (2^(min b.toNat IntKind.u32.bits)) h1
 omega
structure Qci(i:Q0f):Prop where
 a:0≤i.A∧i.A<16
 b:0≤i.B∧i.B<16
 c:0≤i.C∧i.C<16
 csr:i.Op=58→0≤i.Imm∧i.Imm<8
end Go.Proofs.YtdkiadhigcfmkaaGreat
namespace Go.Proofs.YtdkiadhigcfmkaaGreat
open Go Go.GD
set_option linter.unusedVariables false
set_option linter.unusedSimpArgs false
set_option maxRecDepth 100000
theorem Qvo{P:Nat}{m:List Int}(h:Q10 P m):Q0s m=P:=by
 obtain⟨h1,h2,h3,_⟩:=h
 simp only[Q0s,Q7,Tree.m]
 have e:(m.length:Int)=32*P:=by omega
 rw[e]
 have e1:(Int.tmod (32*(P:Int)) 32 !=0)=false:=by simp [Int.mul_tmod_right]
 have e2:decide ((32*(P:Int))>1024)=false:=decide_eq_false (by omega)
 rw[e1,e2]
 simp only[cond_false]
 rw[Int.mul_tdiv_cancel_left _ (by decide),IntKind.wrap_i64];omega
theorem mask_w(n:Int):(Qbw n).w (fun _=>True):=by
 unfold Qbw
 exact w_br (fun _=>trivial) (fun _=>w_cn (decide_eq_true (by rw[IntKind.wrap_u64];omega)) trivial)
theorem Qrw(w low n:Int):(Qa1 w low n).w U:=by
 unfold Qa1
 exact w_br (fun _=>U_0) (fun _=>w_br (fun _=>U_0) (fun _=>w_br (fun _=>U_0) (fun _=>w_cn (decide_eq_true (by rw[IntKind.wrap_u64];omega)) (Q0b (mask_w n) fun _ _=>Qhe _ _))))
theorem Zf3{w:Int}(hw:U w)(low n v:Int):(Q61 w low n v).w U:=by
 have h0:decide (0≤IntKind.wrap IntKind.u64 low)=true:=decide_eq_true (by rw[IntKind.wrap_u64];omega)
 unfold Q61
 exact w_br (fun _=>hw) (fun _=>w_br (fun _=>hw) (fun _=>w_br (fun _=>hw) (fun _=>Q0b (mask_w n) fun _ _=>w_cn h0 (w_cn h0 (U_or _ _)))))
theorem Qra{x:Int}(hx:U x)(n:Int):(Q43 x n).w U:=by
 have h0: ∀y,decide (0≤IntKind.wrap IntKind.u64 y)=true:=fun y=>decide_eq_true (by rw[IntKind.wrap_u64];omega)
 unfold Q43
 exact w_br (fun _=>U_0) (fun _=>w_br (fun _=>hx) (fun _=>w_cn (h0 _) (w_cn (h0 _) (Q0l _))))
section
variable {P:Nat} {m:List Int} (h:Q10 P m)
include h
theorem Qku:Q09 m:=by
 have:=h.len
 have:=h.p2
 show m.length≤35184372088832
 omega
theorem Z7z{a:Int}(ha:U a){size:Int}(hs:size=1∨size=4):(Q32 m a size).w (fun b=>b=true→a+size≤128*P):=by
 have hp:=Qvo h
 have h2:=h.p2
 obtain⟨a1,a2⟩:=ha
 have e:decide (IntKind.wrap IntKind.u32 size≠0)=true:=by rcases hs with rfl|rfl<;>decide
 have l: ∀x,x=Q0s m→decide (IntKind.wrap IntKind.u64 (IntKind.wrap IntKind.u64 a+IntKind.wrap IntKind.u64 size)≤IntKind.wrap IntKind.u64 (IntKind.wrap IntKind.u64 x*128))=true→a+size≤128*P:=fun x hx hd=>by
   rw[hx,hp]at hd
   have:=of_decide_eq_true hd
   simp only[IntKind.wrap_u64]at this
   omega
 unfold Q32
 refine w_br (fun _=>w_br (fun _=>fun h=>by cases h) (fun _=> ?_)) (fun _=> ?_)<;>
 exact w_cn e (w_br (fun _=>fun h=>by cases h) (fun _=>w_lv fun x hx=>l x hx))
theorem idxP{a:Int}(ha:U a)(hl:a<128*P):(Nat.beq 1 1&&Nat.blt 0 1&&decide (0≤IntKind.wrap IntKind.u32 (Int.tdiv a 4)∧IntKind.wrap IntKind.u32 (Int.tdiv a 4)<(m.length:Int)))=true:=by
 obtain⟨a1,a2⟩:=ha
 have e:IntKind.wrap IntKind.u32 (Int.tdiv a 4)=a/4:=by rw[IntKind.wrap_u32,Int.tdiv_eq_ediv_of_nonneg a1];omega
 have:=h.len
 rw[e];simp [Nat.blt];omega
theorem Qo1{a:Int}(ha:U a){size:Int}(hs:size=1∨size=4):(Q6i m a size).w (fun r=>U r.1∧(r.2=true→a<128*P)):=by
 unfold Q6i
 refine Q0b (Z7z h ha hs) fun x hx=>w_br (fun _=>⟨U_0,fun h=>by cases h⟩) (fun hb=> ?_)
 have hl:=hx (by simpa using hb)
 have hl:a<128*P:=by omega
 exact w_cn (idxP h ha hl) (w_br (fun _=>Q0b (Qrw _ _ _) fun y hy=>⟨hy,fun _=>hl⟩) (fun _=>⟨Qjo h.u _,fun _=>hl⟩))
theorem Qv3{a:Int}(ha:U a){size:Int}(hs:size=1∨size=4){v:Int}(hv:U v):(Q5k m a size v).w (fun r=>Q10 P r.1):=by
 have st: ∀i v,U v→Q10 P (m.set i v):=fun i v hv=>⟨by simp [h.len],h.p1,h.p2,Qv8 h.u hv i⟩
 have hcl:Q04 m=m:=rfl
 unfold Q5k
 refine w_an (Qku h) (w_lv fun x0 hx0=> ?_)
 rw[hcl]at hx0;subst hx0
 refine Q0b (Z7z h ha hs) fun x hx=>w_br (fun _=>h) (fun hb=> ?_)
 have hl:=hx (by simpa using hb)
 have hl:a<128*P:=by omega
 exact w_br (fun _=>w_cn (idxP h ha hl) (Q0b (Zf3 (Qjo h.u _) _ _ _) fun y hy=>w_cn (idxP h ha hl) (st _ _ hy))) (fun _=>w_cn (idxP h ha hl) (st _ _ hv))
end
end Go.Proofs.YtdkiadhigcfmkaaGreat
namespace Go.Proofs.YtdkiadhigcfmkaaGreat
open Go Go.GD
set_option linter.unusedVariables false
set_option linter.unusedSimpArgs false
set_option maxRecDepth 100000
theorem Z9x{r:Int}{used:Bool}(h:Q7h r used=true):0≤r∧r<16:=by
 simp only[Q7h,Qcd,Tree.m]at h
 cases used
 · have h:(r==0)=true:=h
   have:=eq_of_beq h;omega
 · cases h1:decide (r≥0)<;>rw[h1]at h
   · cases h
   · have h1:=of_decide_eq_true h1
     have h:=of_decide_eq_true h
     omega
theorem validP_ok{i:Q0f}(h:Qck i=true):Qci i:=by
 have no:false=true→Qci i:=fun h=>by cases h
 refine(Tree.post (Qfq i) (W:=fun b=>b=true→Qci i) ?_) h
 unfold Qfq
 refine w_lv fun x0 h0=>w_br (fun _=>w_lv fun x1 h1=>w_br (fun b1=>w_lv fun x2 h2=>w_br (fun b2=>w_lv fun x3 h3=>w_br (fun b3=>w_br (fun b4=>fun b5=> ?_) (fun _=>no)) (fun _=>no)) (fun _=>no)) (fun _=>no)) (fun _=>no)
 have b4:=of_decide_eq_true b4
 have b5:=of_decide_eq_true b5
 refine⟨Z9x (h1.symm.trans b1),Z9x (h2.symm.trans b2),Z9x (h3.symm.trans b3),fun e=> ?_⟩
 rw[e]at h0
 have h0:x0=({a:=true,b:=false,c:=false,low:=0,high:=7},true):=h0
 subst h0
 simp at b4 b5;omega
theorem Qvg(w:Int):(Q85 w).w (fun r=>r.2=true→Qci r.1):=by
 have no: ∀{p:Prop},false=true→p:=fun h=>by cases h
 have l: ∀i,(Tree.lv (Qck i) fun x=> .br (!x) (.lf ((⟨0,0,0,0,0⟩:Q0f),false)) (.lf (i,true))).w (fun r=>r.2=true→Qci r.1):=fun i=>w_lv fun x hx=>w_br (fun _=>no) (fun hb=>fun _=>validP_ok (hx.symm.trans (by simpa using hb)))
 unfold Q85
 exact Q0b (Qrw _ _ _) fun x0 _=>Q0b (Qrw _ _ _) fun x1 _=>Q0b (Qrw _ _ _) fun x2 _=>w_lv fun x3 _=>w_br (fun _=>no) (fun _=>Q0b (Qrw _ _ _) fun x4 h4=>w_br (fun _=>l _) (fun _=>w_br (fun _=>Q0b (Qra h4 _) fun x6 _=>l _) (fun _=>l _)))
section
variable {P:Nat} {m:List Int} (h:Q10 P m)
include h
theorem pageP_eq{f:Int}(hf:U f):Q8j m f=decide (f<P):=by
 have:=Qvo h
 obtain⟨h1,h2⟩:=hf
 have h3:=h.p2
 simp only[Q8j,Qgg,Tree.m,letv,this]
 congr 1
 rw[IntKind.wrap_u64,IntKind.wrap_u64,Int.emod_eq_of_lt h1 (by omega),Int.emod_eq_of_lt (by omega) (by omega)]
theorem walkP_w{root va:Int}(hv:U va)(access:Int):(Q6o m root va access).w (fun t=>U t.Addr∧U t.Entry):=by
 have bad:U (0:Int)∧U (0:Int):=⟨U_0,U_0⟩
 have fr: ∀x,(Q4u x).w U:=fun x=>by
   unfold Q4u
   exact Q0b (Qrw _ _ _) fun y hy=>hy
 unfold Q6o
 exact w_lv fun x0 _=>w_br (fun _=>bad) (fun _=>w_br (fun _=>bad) (fun _=>w_lv fun x1 _=>w_br (fun _=>bad) (fun _=>Q0b (Qo1 h (Q0l _) (.inr rfl)) fun x2 _=>w_br (fun _=>bad) (fun _=>w_lv fun x3 _=>w_br (fun _=>bad) (fun _=>Q0b (fr _) fun x4 _=>w_lv fun x5 _=>w_br (fun _=>bad) (fun _=>Q0b (fr _) fun x6 _=>⟨Q0l _,Q0l _⟩))))))
theorem touchP_w{a:Int}(ha:U a)(access:Int):(Q5l m a access).w (Q10 P):=by
 have hcl:Q04 m=m:=rfl
 unfold Q5l
 exact Q0b (Qo1 h ha (.inr rfl)) fun x0 _=>w_br (fun _=>w_an (Qku h) (w_lv fun x1 h1=>by rw[h1,hcl];exact h)) (fun _=>w_br (fun _=>Q0b (Qv3 h ha (.inr rfl) (U_or _ _)) fun x hx=>hx) (fun _=>Q0b (Qv3 h ha (.inr rfl) (U_or _ _)) fun x hx=>hx))
theorem Qhn{c:Q02}{va:Int}(hv:U va){size:Int}(hs:size=1∨size=4)(access:Int):(Q6d c m va size access).w (fun r=>U r.1∧Q10 P r.2.1):=by
 have hcl:Q04 m=m:=rfl
 have e:decide (IntKind.wrap IntKind.u32 size≠0)=true:=by rcases hs with rfl|rfl<;>decide
 have cl: ∀(K:List Int→Int×List Int×Int),(∀x,x=m→U (K x).1∧Q10 P (K x).2.1)→(Tree.an (Q09 m) (.lv (Q04 m) fun x=> .lf (K x))).w (fun r=>U r.1∧Q10 P r.2.1):=fun K hK=>w_an (Qku h) (w_lv fun x hx=>hK x (hx.trans hcl))
 have z: ∀(k:Nat) (x:List Int),x=m→U (0:Int)∧Q10 P x:=fun _ x hx=>⟨U_0,hx▸h⟩
 have v: ∀x,x=m→U va∧Q10 P x:=fun x hx=>⟨hv,hx▸h⟩
 have main: ∀(x0:Int×Bool),(Tree.cn (decide (IntKind.wrap IntKind.u32 size≠0)) (.br (Int.tmod va (IntKind.wrap IntKind.u32 size) !=0) (.an (Q09 m) (.lv (Q04 m) fun x3=> .lf ((0:Int),x3,(3:Int)))) (.lv (Qa0 c) fun x4=> .br (!x4) (.br (iand IntKind.u32 c.Csr.a0 4 !=0) (.an (Q7v m c.Csr.a6 va access) (.lv (Qfw m c.Csr.a6 va access) fun x5=> .br (x5.Cause !=0) (.an (Q09 m) (.lv (Q04 m) fun x6=> .lf (0,x6,x5.Cause))) (.an (Q6s m x5.Entry access) (.lv (Q9v m x5.Entry access) fun x7=> .lf (x5.Addr,x7,0))))) (.an (Q21 m va size) (.lv (Q3l m va size) fun x8=> .br (!x8.snd) (.an (Q09 m) (.lv (Q04 m) fun x9=> .lf (0,x9,x0.fst))) (.an (Q09 m) (.lv (Q04 m) fun x10=> .lf (va,x10,0)))))) (.an (Q21 m va size) (.lv (Q3l m va size) fun x11=> .br (!x11.snd) (.an (Q09 m) (.lv (Q04 m) fun x12=> .lf (0,x12,x0.fst))) (.an (Q09 m) (.lv (Q04 m) fun x13=> .lf (va,x13,0)))))))).w (fun r=>U r.1∧Q10 P r.2.1):=fun x0=>
   w_cn e (w_br (fun _=>cl _ (z 0)) (fun _=>w_lv fun x4 _=>w_br (fun _=>w_br (fun _=>Q0b (walkP_w h hv access) fun x5 hx=>w_br (fun _=>cl _ (z 0)) (fun _=>Q0b (touchP_w h hx.2 access) fun x7 h7=>⟨hx.1,h7⟩)) (fun _=>Q0b (Qo1 h hv hs) fun x8 _=>w_br (fun _=>cl _ (z 0)) (fun _=>cl _ v))) (fun _=>Q0b (Qo1 h hv hs) fun x8 _=>w_br (fun _=>cl _ (z 0)) (fun _=>cl _ v))))
 unfold Q6d
 exact w_lv fun x0 _=>w_br (fun _=>cl _ (z 0)) (fun _=>w_br (fun _=>w_br (fun _=>cl _ (z 0)) (fun _=>main x0)) (fun _=>main x0))
theorem Z3i{c:Q02}(hc:Q1v c):(Qbn c m).w (fun r=>U r.1∧Q10 P r.2.1):=by
 unfold Qbn
 exact Q0b (Qhn h hc.pc (.inr rfl) 1) fun x0 h0=>w_br (fun _=>⟨U_0,h0.2⟩) (fun _=>Q0b (Qo1 h0.2 h0.1 (.inr rfl)) fun x1 h1=>⟨h1.1,h0.2⟩)
end
theorem moveP_w{s a b:Int}:U (Q7g s a b):=by
 refine Tree.post (Qlw s a b) (W:=U) ?_
 unfold Qlw
 exact w_br (fun _=>Q0l _) (fun _=>Q0l _)
section
variable {c:Q02} (h:Q1v c)
include h
theorem Qnx(k:Int){b:Int}(hb:U b):Q1v (Q3f c k b):=by
 refine(Tree.post (Qhz c k b) (W:=Q1v) ?_)
 unfold Qhz
 refine w_lv fun _ _=>w_lv fun _ _=>⟨h.x,h.a1,?_⟩
 intro w hw
 simp only[A8.l,List.mem_cons,List.not_mem_nil,or_false]at hw
 rcases hw with rfl|rfl|rfl|rfl|rfl|rfl|rfl|rfl
 · exact Q0l _
 · exact h.a1
 · exact h.pc
 · exact Q0l _
 · exact hb
 · exact h.a5
 · exact h.a6
 · exact h.a7
theorem returnP_w:Q1v (Qbm c):=by
 refine(Tree.post (Qcv c) (W:=Q1v) ?_)
 unfold Qcv
 refine w_lv fun x0 _=>w_lv fun x1 h1=>⟨h.x,h.a2,?_⟩
 intro w hw
 simp only[A8.l,List.mem_cons,List.not_mem_nil,or_false]at hw
 rcases hw with rfl|rfl|rfl|rfl|rfl|rfl|rfl|rfl
 · rw[h1];exact moveP_w
 · exact h.a1
 · exact h.a2
 · exact h.a3
 · exact h.a4
 · exact h.a5
 · exact h.a6
 · exact h.a7
theorem Qmt{r:Int}(hr:0≤r∧r<16){v:Int}(hv:U v):(Q97 c r v).w Q1v:=by
 unfold Q97
 exact w_br (fun _=>w_cn (rc hr) ⟨Z2z h.x hv _,h.pc,h.csr⟩) (fun _=>h)
theorem Zcn(k:Int){v:Int}(hv:U v):(Q89 c k v).w Q1v:=by
 have ok: ∀i v,U v→Q1v {X:=c.X,Pc:=c.Pc,Csr:=A8.of 0 (List.set (A8.l c.Csr) i v)}:=fun i v hv=>⟨h.x,h.pc,Qp5 h.csr hv i⟩
 unfold Q89
 repeat'(first
   |exact h
   |exact ok _ _ (Q0l _)
   |exact ok _ _ hv
   |refine w_br (fun hk=> ?_) (fun _=> ?_)
   |refine w_cn (by rw[eq_of_beq (by assumption:(k==_)=true)];decide) ?_)
end
theorem Z81{a b:Int}(ha:U a)(hb:U b):(Q6k a b).w (fun r=>U r.1∧U r.2):=by
 have u1:U 4294967295:=⟨by omega,by omega⟩
 unfold Q6k
 refine w_br (fun _=>⟨u1,ha⟩) (fun h=> ?_)
 have h: ¬b=0:=by simpa using h
 obtain⟨b1,b2⟩:=hb
 have hc:decide (IntKind.wrap IntKind.i32 b≠0)=true:=decide_eq_true (by rw[IntKind.wrap_i32];omega)
 exact w_br (fun _=>w_br (fun _=>⟨ha,U_0⟩) (fun _=>w_cn hc (w_cn hc ⟨Q0l _,Q0l _⟩))) (fun _=>w_cn hc (w_cn hc ⟨Q0l _,Q0l _⟩))
theorem truth_w(b:Bool):U (Qk6 b):=by cases b<;>exact⟨by decide,by decide⟩
theorem Z1d(op:Int){a b:Int}(ha:U a)(hb:U b):(Qhk op a b).w (fun r=>U r.1):=by
 unfold Qhk
 repeat'(first
   |refine w_br (fun _=> ?_) (fun _=> ?_)
   |exact Q0b (Z81 ha hb) fun x hx=>hx.1
   |exact Q0b (Z81 ha hb) fun x hx=>hx.2
   |exact w_lv fun x hx=>(by rw[hx];exact truth_w _)
   |refine w_lf ?_)
 all_goals(first
   |exact Q0l _
   |exact Qq3 ha _
   |exact U_0)
theorem Z4p(op:Int):Qd0 op=1∨Qd0 op=4:=by
 simp only[Qd0,Qn9,Tree.m]
 cases op==32<;>cases op==35<;>simp
section
variable {c:Q02} (h:Q1v c) {i:Q0f} (hi:Qci i)
include h hi
theorem Ze4:(Q2y c i).w (fun r=>Q1v r.1∧U r.2.Value):=by
 have k: ∀{x:Q02} {p:Int},Q1v x→U p→Q1v {X:=x.X,Pc:=p,Csr:=x.Csr}:=fun hx hp=>⟨hx.x,hp,hx.csr⟩
 unfold Q2y
 refine w_cn (rc hi.a) (w_cn (rc hi.b) ?_)
 repeat'(first
   |refine w_br (fun _=> ?_) (fun _=> ?_)
   |exact Q0b (Qmt h hi.a (Q0l _)) fun x hx=>⟨k hx (Q0l _),U_0⟩
   |exact w_lv fun x _=>w_br (fun _=>⟨k h (Q0l _),U_0⟩) (fun _=>⟨k h (Q0l _),U_0⟩)
   |exact w_lv fun x hx=>⟨by rw[hx];exact Qnx h _ U_0,U_0⟩
   |exact w_lv fun x hx=>⟨by rw[hx];exact returnP_w h,U_0⟩
   |exact w_cn (by have:=hi.csr (by simp_all);simp [Nat.blt];omega) (Q0b (Qmt h hi.a (h.a _)) fun x hx=>⟨k hx (Q0l _),U_0⟩)
   |exact Q0b (Zcn h _ (h.r _)) fun x hx=>⟨k hx (Q0l _),U_0⟩
   |refine w_cn (rc hi.c) ?_
   |exact Q0b (Z1d _ (h.r _) (Q0l _)) fun y hy=>Q0b (Qmt h hi.a hy) fun x hx=>⟨k hx (Q0l _),U_0⟩
   |exact Q0b (Z1d _ (h.r _) (h.r _)) fun y hy=>Q0b (Qmt h hi.a hy) fun x hx=>⟨k hx (Q0l _),U_0⟩
   |refine w_lf ?_)
 all_goals(first
   |exact⟨k h (Q0l _),U_0⟩
   |exact⟨k h (Q0l _),h.r _⟩)
theorem Qvj{P:Nat}{m:List Int}(hm:Q10 P m):(Q9x c m i).w (fun r=>Q1v r.1∧Q10 P r.2):=by
 have w:=Z4p i.Op
 unfold Q9x
 refine w_cn (rc hi.b) (w_lv fun x0 h0=> ?_)
 rw[←h0]at w
 refine Q0b (Qhn hm (Q0l _) w 2) fun x1 h1=>w_br (fun _=>w_lv fun y hy=>⟨by rw[hy];exact Qnx h _ (Q0l _),h1.2⟩) (fun _=>w_lv fun x3 h3=> ?_)
 rw[h0,←h3]at w
 exact Q0b (Qo1 h1.2 h1.1 w) fun x4 h4=>w_br (fun _=>Q0b (Qra h4.1 8) fun y hy=>Q0b (Qmt h hi.a hy) fun x hx=>⟨⟨hx.x,Q0l _,hx.csr⟩,h1.2⟩) (fun _=>Q0b (Qmt h hi.a h4.1) fun x hx=>⟨⟨hx.x,Q0l _,hx.csr⟩,h1.2⟩)
theorem Qsc{P:Nat}{m:List Int}(hm:Q10 P m):(Q7n c m i).w (fun r=>Q1v r.1∧Q10 P r.2):=by
 have w:=Z4p i.Op
 unfold Q7n
 refine w_cn (rc hi.b) (w_lv fun x0 h0=> ?_)
 rw[←h0]at w
 refine Q0b (Qhn hm (Q0l _) w 3) fun x1 h1=>w_br (fun _=>w_lv fun y hy=>⟨by rw[hy];exact Qnx h _ (Q0l _),h1.2⟩) (fun _=>w_lv fun x3 h3=>w_cn (rc hi.a) ?_)
 rw[h0,←h3]at w
 exact Q0b (Qv3 h1.2 h1.1 w (h.r _)) fun x hx=>⟨⟨h.x,Q0l _,h.csr⟩,hx⟩
end
theorem execP_w{c:Q02}(h:Q1v c){P:Nat}{m:List Int}(hm:Q10 P m):(Q75 c m).w (fun r=>Q1v r.1∧Q10 P r.2.1∧U r.2.2.Value):=by
 unfold Q75
 refine Q0b (Z3i hm h) fun x0 h0=>w_br (fun _=>w_lv fun y hy=>⟨by rw[hy];exact Qnx h _ h.pc,h0.2,U_0⟩) (fun _=>Q0b (Qvg _) fun x2 h2=>w_br (fun _=>w_lv fun y hy=>⟨by rw[hy];exact Qnx h _ h0.1,h0.2,U_0⟩) (fun hb=> ?_))
 have hi:=h2 (by simpa using hb)
 refine w_lv fun x4 _=> ?_
 repeat'(first
   |refine w_br (fun _=> ?_) (fun _=> ?_)
   |exact Q0b (Qvj h hi h0.2) fun x hx=>⟨hx.1,hx.2,U_0⟩
   |exact Q0b (Qsc h hi h0.2) fun x hx=>⟨hx.1,hx.2,U_0⟩
   |exact Q0b (Ze4 h hi) fun x hx=>⟨hx.1,h0.2,hx.2⟩
   |exact w_lv fun y hy=>⟨by rw[hy];exact Qnx h _ h0.1,h0.2,U_0⟩
   |refine w_lv fun _ _=> ?_)
end Go.Proofs.YtdkiadhigcfmkaaGreat
namespace Go.Proofs.YtdkiadhigcfmkaaGreat
open Go Go.GD
set_option linter.unusedVariables false
set_option linter.unusedSimpArgs false
set_option maxRecDepth 100000
theorem Zd{a:Int}(h:U a)(k:Nat)(hk:k≤32):0≤ishr .u32 a k∧ishr .u32 a k*2^k≤a:=by
 obtain⟨h1,h2⟩:=h
 unfold ishr
 have e:min (k:Int).toNat IntKind.u32.bits=k:=by show min (k:Int).toNat 32=k;omega
 have hp:(0:Int)<2^k:=Int.pow_pos (by decide)
 rw[e,Int.fdiv_eq_ediv_of_nonneg _ (Int.le_of_lt hp)]
 exact⟨Int.ediv_nonneg h1 (Int.le_of_lt hp),Int.ediv_mul_le a (Int.ne_of_gt hp)⟩
theorem Zd0(x:Int):0≤IntKind.u8.wrap x∧IntKind.u8.wrap x<256:=by rw[IntKind.wrap_u8];omega
theorem len32_w{x:Int}(h:U x):(Q1x x).w (fun _=>True):=by
 have s16:=Zd h 16 (by omega)
 have s8:=Zd h 8 (by omega)
 have s24:=Zd (Qq3 h 16) 8 (by omega)
 obtain⟨h1,h2⟩:=h
 unfold Q1x
 repeat'(first
   |refine w_br (fun _=> ?_) (fun _=> ?_)
   |refine w_cn (decide_eq_true ⟨?_,Int.lt_of_lt_of_le (b:=256) ?_ (Int.le_of_eq (by kernel_rfl))⟩) ?_
   |exact trivial
   |refine w_lf ?_)
 all_goals(first
   |trivial
   |exact(Zd0 _).1
   |exact(Zd0 _).2
   |(simp only[decide_eq_true_eq,decide_eq_false_iff_not]at*;simp at s16 s8 s24;omega))
theorem and255(a:Int):iand .u32 a 255<256:=by
 unfold iand
 rw[IntKind.wrap_u32]
 have:(BitVec.ofInt IntKind.u32.bits a&&&BitVec.ofInt IntKind.u32.bits 255).toNat≤255:=by
   show(BitVec.ofInt 32 a&&&BitVec.ofInt 32 255).toNat≤255
   rw[BitVec.toNat_and]
   exact Nat.le_trans Nat.and_le_right (by decide)
 omega
theorem ones_w{x:Int}(h:U x):(Q1t x).w (fun _=>True):=by
 have s24:=Zd h 24 (by omega)
 obtain⟨h1,h2⟩:=h
 have i24:ishr .u32 x 24<256:=by simp at s24;omega
 unfold Q1t
 repeat'(first
   |refine w_cn (decide_eq_true ⟨?_,Int.lt_of_lt_of_le (b:=256) ?_ (Int.le_of_eq (by kernel_rfl))⟩) ?_
   |exact trivial
   |refine w_lf ?_)
 all_goals(first
   |trivial
   |exact(Q0l _).1
   |exact s24.1
   |exact i24
   |exact and255 _)
structure okS(P:Nat)(m:Q00):Prop where
 cpu:Q1v m.Cpu
 mem:Q10 P m.Mem
 disk:Qaq m.Disk
 nic:Qj6 m.Nic
 target:U m.Balloon.Target
 given:U m.Balloon.Given
theorem Zd3{b:Q05}(h:U b.Given):(Q5t b).w (fun _=>True):=by
 unfold Q5t
 exact Q0b (ones_w h) fun _ _=>trivial
theorem mayP_w{m:Q00}(h:U m.Balloon.Given):(Q56 m).w (fun _=>True):=by
 have b: ∀x,(Q59 m.Balloon x).w (fun _=>True):=fun x=>by
   unfold Q59
   exact Q0b (len32_w h) fun _ _=>trivial
 have d:(Q1e m).w (fun _=>True):=by
   unfold Q1e
   exact w_lv fun _ _=>w_lv fun _ _=>w_br (fun _=>w_lv fun _ _=>w_br (fun _=>w_lv fun _ _=>w_br (fun _=>w_lv fun _ _=>w_br (fun _=>Q0b (b _) fun _ _=>trivial) (fun _=>trivial)) (fun _=>trivial)) (fun _=>trivial)) (fun _=>trivial)
 unfold Q56
 repeat'(first
   |refine w_br (fun _=> ?_) (fun _=> ?_)
   |exact Q0b d fun _ _=>trivial
   |refine w_lv fun _ _=> ?_
   |exact trivial)
theorem linesP_w{m:Q00}(h:U m.Balloon.Given):(Q4h m).w (fun _=>True):=by
 have p:(Q2v m.Balloon).w (fun _=>True):=by
   unfold Q2v
   exact Q0b (Zd3 h) fun _ _=>trivial
 unfold Q4h
 refine w_lv fun x0 _=>w_lv fun x1 _=>w_lv fun x2 _=>w_lv fun x3 _=>Q0b p fun x4 _=>w_lp (inv:=fun z=>0≤z.2∧z.2≤5) (μ:=Qgf m) ⟨by omega,by omega⟩ (Nat.lt_succ_self _) (fun z hz=> ?_)
 obtain⟨z1,z2⟩:=hz
 have ew:z.2<5→IntKind.i64.wrap (z.2+1)=z.2+1:=fun _=>by rw[IntKind.wrap_i64];omega
 refine w_br (fun hb=> ?_) (fun _=>trivial)
 have hb:=of_decide_eq_true hb
 have nx:(0≤IntKind.i64.wrap (z.2+1)∧IntKind.i64.wrap (z.2+1)≤5)∧(5-IntKind.i64.wrap (z.2+1)).toNat<(5-z.2).toNat:=by rw[ew hb];omega
 refine w_cn (by simp;omega) (w_br (fun _=>w_cn (decide_eq_true z1) (w_nx nx)) (fun _=>w_nx nx))
theorem Z24{m:Q00}(h:U m.Balloon.Given):(Q2s m).w U:=by
 unfold Q2s
 exact Q0b (linesP_w h) fun _ _=>Qhe _ _
theorem runsP_w{m:Q00}(h:U m.Balloon.Given):(Q3z m).w (fun _=>True):=by
 have i:(Q31 m).w (fun _=>True):=by
   unfold Q31
   exact w_br (fun _=>Q0b (Z24 h) fun _ _=>trivial) (fun _=>trivial)
 unfold Q3z
 exact Q0b (mayP_w h) fun _ _=>w_br (fun _=>w_br (fun _=>Q0b i fun _ _=>w_br (fun _=>trivial) (fun _=>trivial)) (fun _=>trivial)) (fun _=>trivial)
end Go.Proofs.YtdkiadhigcfmkaaGreat
namespace Go.Proofs.YtdkiadhigcfmkaaGreat
open Go Go.GD
set_option linter.unusedVariables false
set_option linter.unusedSimpArgs false
theorem Qcc{P:Nat}{m:List Int}(h:Q10 P m):Q2p m=P:=by
 obtain⟨h1,h2,h3,_⟩:=h
 simp only[Q2p,Qlf,Tree.m]
 have e:(m.length:Int)=32*P:=by omega
 rw[e]
 have e1:(Int.tmod (32*(P:Int)) 32 !=0)=false:=by simp [Int.mul_tmod_right]
 have e2:decide ((32*(P:Int))>1024)=false:=decide_eq_false (by omega)
 rw[e1,e2]
 simp only[cond_false]
 rw[Int.mul_tdiv_cancel_left _ (by decide),IntKind.wrap_i64];omega
theorem Qq9{P:Nat}{m:List Int}(h:Q10 P m){f:Int}(hf:U f):Q29 m f=decide (f<P):=by
 have:=Qcc h
 obtain⟨h1,h2⟩:=hf
 have h3:=h.p2
 simp only[Q29,Qgb,Tree.m,letv,this]
 congr 1
 rw[IntKind.wrap_u64,IntKind.wrap_u64,Int.emod_eq_of_lt h1 (by omega),Int.emod_eq_of_lt (by omega) (by omega)]
theorem copy_w{P:Nat}{m:List Int}(h:Q10 P m):(Q80 m).w (fun r=>r=m):=by
 obtain⟨h1,h2,h3,_⟩:=h
 unfold Q80
 refine w_cn ?_ ?_
 · simp [Nat.blt,D.plain];omega
 · show _=_
   simp
theorem put_w{P:Nat}{m:List Int}(h:Q10 P m){addr size v:Int}(ha:U addr)(hl:addr<4*m.length)(hv:U v):(Qef m addr size v).w (Q10 P):=by
 obtain⟨h1,h2,h3,h4⟩:=h
 obtain⟨a1,a2⟩:=ha
 have e:IntKind.wrap IntKind.u32 (Int.tdiv addr 4)=addr/4:=by rw[IntKind.wrap_u32,Int.tdiv_eq_ediv_of_nonneg a1];omega
 have hc:(Nat.beq 1 1&&Nat.blt 0 1&&decide (0≤IntKind.wrap IntKind.u32 (Int.tdiv addr 4)∧IntKind.wrap IntKind.u32 (Int.tdiv addr 4)<(m.length:Int)))=true:=by
   rw[e];simp [Nat.blt];omega
 have h0: ∀x,decide (0≤IntKind.wrap IntKind.u32 x)=true:=fun x=>decide_eq_true (Q0l x).1
 have hs: ∀i v,U v→Q10 P (m.set i v):=fun i v hv=>⟨by simp [h1],h2,h3,Qv8 h4 hv i⟩
 unfold Qef
 exact w_br (fun _=>w_cn hc (hs _ _ hv)) (fun _=>w_cn hc (w_cn (h0 _) (w_cn (h0 _) (w_cn hc (hs _ _ (U_or _ _))))))
theorem fill_w{P:Nat}{m:List Int}(h:Q10 P m){frame:Int}(f0:0≤frame)(f1:frame<P)(s:List UInt8):(Qbo m frame s).w (Q10 P):=by
 unfold Qbo
 have h3:=h.p2
 refine w_lp (inv:=fun z=>0≤z.1∧z.1≤128∧Q10 P z.2) (μ:=Qka m frame s) ⟨by omega,by omega,h⟩ (Nat.lt_succ_self _) (fun v0 hv0=> ?_)
 obtain⟨i0,i1,hm⟩:=hv0
 refine w_br (fun h1=>w_br (fun h2=>w_cn ?_ ?_) (fun _=>hm)) (fun _=>hm)
 · have:=of_decide_eq_true h1
   simp [Nat.blt];omega
 · have h2:=of_decide_eq_true h2
   have e:IntKind.wrap IntKind.u32 (IntKind.wrap IntKind.i64 (IntKind.wrap IntKind.i64 (frame*128)+v0.1))=frame*128+v0.1:=by
     rw[IntKind.wrap_u32,IntKind.wrap_i64,IntKind.wrap_i64];omega
   rw[e]
   obtain⟨g1,g2⟩:=Tree.pp (put_w hm (size:=1) (addr:=frame*128+v0.1) ⟨by omega,by omega⟩ (by rw[hm.len];omega) (Q0l (UInt8.toNat (List.getD s (Int.toNat v0.1) 0))))
   refine w_an g1 (w_lv fun x0 hx0=> ?_)
   rw[hx0]
   have ew:IntKind.i64.wrap (v0.1+1)=v0.1+1:=by rw[IntKind.wrap_i64];omega
   refine w_nx ?_
   show(0≤IntKind.i64.wrap (v0.1+1)∧IntKind.i64.wrap (v0.1+1)≤128∧Q10 P _)∧(128-IntKind.i64.wrap (v0.1+1)).toNat<(128-v0.1).toNat
   rw[ew]
   exact⟨⟨by omega,by omega,g2⟩,by omega⟩
theorem finish_w{P:Nat}{m:List Int}(h:Q10 P m){d:Q0d}(hd:Qaq d)(e:Q0k):(Qa7 d m e).w (fun r=>Qaq r.1∧Q10 P r.2.2):=by
 have fl:Q29 m d.OpFrame=true→(Qbo m (IntKind.i64.wrap d.OpFrame) e.Data).w (Q10 P):=fun hp=>by
   rw[Qq9 h hd.opFrame]at hp
   have:=of_decide_eq_true hp
   have h1:=hd.opFrame.1
   have h3:=h.p2
   have ew:IntKind.i64.wrap d.OpFrame=d.OpFrame:=by rw[IntKind.wrap_i64];omega
   rw[ew]
   exact fill_w h h1 this _
 have l0:Qaq d∧Q10 P m:=⟨hd,h⟩
 have l1: ∀st,Qaq {Blocks:=d.Blocks,Block:=d.Block,Frame:=d.Frame,State:=st,Cmd:=0,OpBlock:=0,OpFrame:=0,OpData:=[]}:=fun st=>⟨hd.block,hd.frame,U_0,U_0⟩
 unfold Qa7
 repeat'(first
   |exact l0
   |exact⟨l1 _,h⟩
   |refine w_br (fun _=> ?_) (fun _=> ?_)
   |refine w_lv (fun _ _=> ?_))
 all_goals(
   first
     | (have hp:Q29 m d.OpFrame=true:=by simp_all
        obtain⟨g1,g2⟩:=Tree.pp (fl hp)
        refine w_an g1 (w_lv fun x hx=> ?_)
        rw[hx]
        exact w_br (fun _=>⟨l1 _,g2⟩) (fun _=>⟨l1 _,g2⟩))
     |(exfalso;simp_all;done))
end Go.Proofs.YtdkiadhigcfmkaaGreat
namespace Go.Proofs.YtdkiadhigcfmkaaGreat
open Go Go.GD
set_option linter.unusedVariables false
set_option linter.unusedSimpArgs false
set_option maxRecDepth 100000
section
variable {c:Q02} (h:Q1v c)
include h
theorem Qyj(k:Int){b:Int}(hb:U b):Q1v (Q20 c k b):=by
 refine(Tree.post (Qg1 c k b) (W:=Q1v) ?_)
 unfold Qg1
 refine w_lv fun _ _=>w_lv fun _ _=>⟨h.x,h.a1,?_⟩
 intro w hw
 simp only[A8.l,List.mem_cons,List.not_mem_nil,or_false]at hw
 rcases hw with rfl|rfl|rfl|rfl|rfl|rfl|rfl|rfl
 · exact U_or _ _
 · exact h.a1
 · exact h.pc
 · exact Q0l _
 · exact hb
 · exact h.a5
 · exact h.a6
 · exact h.a7
theorem return_w:Q1v (Qes c):=by
 refine(Tree.post (Qae c) (W:=Q1v) ?_)
 unfold Qae
 refine w_lv fun _ _=>w_lv fun _ _=>⟨h.x,h.a2,?_⟩
 intro w hw
 simp only[A8.l,List.mem_cons,List.not_mem_nil,or_false]at hw
 rcases hw with rfl|rfl|rfl|rfl|rfl|rfl|rfl|rfl
 · exact U_or _ _
 · exact h.a1
 · exact h.a2
 · exact h.a3
 · exact h.a4
 · exact h.a5
 · exact h.a6
 · exact h.a7
theorem Qyo(r:Int){v:Int}(hv:U v):(Qb9 c r v).w Q1v:=by
 unfold Qb9
 refine w_br (fun h1=>w_br (fun h2=>w_cn ?_ ⟨Z2z h.x hv _,h.pc,h.csr⟩) (fun _=>h)) (fun _=>h)
 have h1:=of_decide_eq_true h1
 have h2:=of_decide_eq_true h2
 simp [Nat.blt];omega
theorem write_w(k:Int){v:Int}(hv:U v):(Q9y c k v).w Q1v:=by
 have ok: ∀i v,U v→Q1v {X:=c.X,Pc:=c.Pc,Csr:=A8.of 0 (List.set (A8.l c.Csr) i v)}:=fun i v hv=>⟨h.x,h.pc,Qp5 h.csr hv i⟩
 unfold Q9y
 repeat'(first
   |exact h
   |exact ok _ _ (Q0l _)
   |exact ok _ _ hv
   |refine w_br (fun hk=> ?_) (fun _=> ?_)
   |refine w_cn (by rw[eq_of_beq (by assumption:(k==_)=true)];decide) ?_)
end
section
variable {P:Nat} {m:List Int} (h:Q10 P m)
include h
theorem Z36(a:Int){size:Int}(hs:size=1∨size=4):(Q6b m a size).w (fun b=>b=true→a<128*P):=by
 have hp:=Qcc h
 have h2:=h.p2
 have e:decide (IntKind.wrap IntKind.u32 size≠0)=true:=by rcases hs with rfl|rfl<;>decide
 have l: ∀x,x=Q2p m→decide (a<IntKind.wrap IntKind.u32 (IntKind.wrap IntKind.i64 (128*x)))=true→a<128*P:=fun x hx hd=>by
   rw[hx,hp,IntKind.wrap_u32,IntKind.wrap_i64]at hd
   have:=of_decide_eq_true hd
   omega
 unfold Q6b
 refine w_br (fun _=>w_br (fun _=>fun h=>by cases h) (fun _=> ?_)) (fun _=> ?_)<;>
 exact w_cn e (w_br (fun _=>w_lv fun x hx=>l x hx) (fun _=>fun h=>by cases h))
theorem idx{a:Int}(ha:U a)(hl:a<128*P):(Nat.beq 1 1&&Nat.blt 0 1&&decide (0≤IntKind.wrap IntKind.u32 (Int.tdiv a 4)∧IntKind.wrap IntKind.u32 (Int.tdiv a 4)<(m.length:Int)))=true:=by
 obtain⟨a1,a2⟩:=ha
 have e:IntKind.wrap IntKind.u32 (Int.tdiv a 4)=a/4:=by rw[IntKind.wrap_u32,Int.tdiv_eq_ediv_of_nonneg a1];omega
 have:=h.len
 rw[e];simp [Nat.blt];omega
theorem Z97{a:Int}(ha:U a){size:Int}(hs:size=1∨size=4):(Q5j m a size).w (fun r=>U r.1):=by
 obtain⟨g1,g2⟩:=Tree.pp (Z36 h a hs)
 unfold Q5j
 refine w_an g1 (w_lv fun x hx=>w_br (fun _=>U_0) (fun hb=> ?_))
 have hb:x=true:=by simpa using hb
 have hl:=g2 (hx.symm.trans hb)
 refine w_cn (idx h ha hl) (w_br (fun _=>w_cn (decide_eq_true (Q0l _).1) (Q0l _)) (fun _=>Qjo h.u _))
theorem mark_w{a:Int}(ha:U a)(access:Int):(Qbe m a access).w (Q10 P):=by
 obtain⟨g1,g2⟩:=Tree.pp (Z36 h a (size:=4) (.inr rfl))
 have hs: ∀{m:List Int} i v,Q10 P m→U v→Q10 P (m.set i v):=fun i v h hv=>⟨by simp [h.len],h.p1,h.p2,Qv8 h.u hv i⟩
 unfold Qbe
 refine w_an g1 (w_lv fun x hx=>w_br (fun _=>h) (fun hb=> ?_))
 have hb:x=true:=by simpa using hb
 have hl:=g2 (hx.symm.trans hb)
 have i0:=idx h ha hl
 have h':=hs (Int.toNat (IntKind.wrap IntKind.u32 (Int.tdiv a 4))) (ior IntKind.u32 (List.getD m (Int.toNat (IntKind.wrap IntKind.u32 (Int.tdiv a 4))) 0) 8) h (U_or _ _)
 have i1:=idx h' ha hl
 exact w_cn i0 (w_cn i0 (w_br (fun _=>w_cn i1 (w_cn i1 (hs _ _ h' (U_or _ _)))) (fun _=>h')))
theorem walk_w{root va:Int}(hr:U root)(hv:U va)(access:Int):(Q8a m root va access).w (fun t=>U t.Addr∧U t.Entry∧(t.Cause=0→t.Addr<128*P)):=by
 have hp:=Qcc h
 have h2:=h.p2
 have hlen:=h.len
 obtain⟨r1,r2⟩:=hr
 obtain⟨v1,v2⟩:=hv
 unfold Q8a
 refine w_lv fun x0 hx0=>w_lv fun x1 hx1=>w_lv fun x2 _=> ?_
 have hc:x0≠0:=by
   rw[hx0]
   simp only[Q2m,Q79,Tree.m]
   cases access==1<;>cases access==3<;>simp
 rw[hp]at hx1
 have bad:U (0:Int)∧U (0:Int)∧(x0=0→(0:Int)<128*P):=⟨U_0,U_0,fun e=>absurd e hc⟩
 refine w_br (fun _=>bad) (fun _=>w_br (fun _=>bad) (fun hva=>w_br (fun _=>bad) (fun hro=> ?_)))
 have hva:=of_decide_eq_false hva
 have hro:=of_decide_eq_false hro
 have e1:IntKind.wrap IntKind.u32 x1=P:=by rw[hx1,IntKind.wrap_u32];omega
 rw[e1]at hro
 have e2:IntKind.wrap IntKind.u32 (IntKind.wrap IntKind.u32 (root*128)+IntKind.wrap IntKind.u32 (4*IntKind.wrap IntKind.u32 (Int.tdiv va 128)))=root*128+4*(va/128):=by
   rw[Int.tdiv_eq_ediv_of_nonneg v1,IntKind.wrap_u32,IntKind.wrap_u32,IntKind.wrap_u32,IntKind.wrap_u32];omega
 have hU:U (IntKind.wrap IntKind.u32 (IntKind.wrap IntKind.u32 (root*128)+IntKind.wrap IntKind.u32 (4*IntKind.wrap IntKind.u32 (Int.tdiv va 128)))):=Q0l _
 have ci:=idx h hU (by rw[e2];omega)
 have good: ∀w:Int,decide (iand IntKind.u32 w 255≥IntKind.wrap IntKind.u32 x1)=false→(U (IntKind.wrap IntKind.u32 (IntKind.wrap IntKind.u32 (iand IntKind.u32 w 255*128)+Int.tmod va 128))∧U (IntKind.wrap IntKind.u32 (IntKind.wrap IntKind.u32 (root*128)+IntKind.wrap IntKind.u32 (4*IntKind.wrap IntKind.u32 (Int.tdiv va 128))))∧((0:Int)=0→IntKind.wrap IntKind.u32 (IntKind.wrap IntKind.u32 (iand IntKind.u32 w 255*128)+Int.tmod va 128)<128*P)):=fun w hw=>by
   have hw:=of_decide_eq_false hw
   rw[e1]at hw
   have hn:=(Qhe w 255).1
   refine⟨Q0l _,Q0l _,fun _=> ?_⟩
   rw[Int.tmod_eq_emod_of_nonneg v1,IntKind.wrap_u32,IntKind.wrap_u32]
   generalize iand IntKind.u32 w 255=q at*
   omega
 refine w_cn ci ?_
 repeat'(first
   |exact bad
   |exact good _ (by assumption)
   |refine w_br (fun _=> ?_) (fun _=> ?_)
   |refine w_cn ci ?_)
theorem Z4k{c:Q02}(hc:Q1v c){va:Int}(hv:U va){size:Int}(hs:size=1∨size=4)(access:Int):(Q7m c m va size access).w (fun r=>Q10 P r.2.2∧U r.1∧(r.2.1=0→r.1<128*P)):=by
 have e:decide (IntKind.wrap IntKind.u32 size≠0)=true:=by rcases hs with rfl|rfl<;>decide
 obtain⟨g1,g2⟩:=Tree.pp (Z36 h va hs)
 obtain⟨k1,k2⟩:=Tree.pp (walk_w h hc.a6 hv access)
 have bad: ∀k:Int,k≠0→Q10 P m∧U (0:Int)∧(k=0→(0:Int)<128*P):=fun k hk=>⟨h,U_0,fun e=>absurd e hk⟩
 have hca:Q2m access≠0:=by
   simp only[Q2m,Q79,Tree.m]
   cases access==1<;>cases access==3<;>simp
 unfold Q7m
 refine w_lv fun x0 _=>w_br (fun _=>bad 5 (by decide)) (fun _=>w_br (fun h1=>w_br (fun h2=> ?_) (fun _=> ?_)) (fun _=> ?_))
 · exact bad 5 (by decide)
 all_goals(
   refine w_cn e (w_br (fun _=>bad 3 (by decide)) (fun _=>w_lv fun x1 _=>w_br (fun _=>w_an g1 (w_lv fun x2 hx2=>w_br (fun _=>w_lv fun x3 hx3=>bad x3 (by rw[hx3];exact hca)) (fun hb=> ?_))) (fun _=>w_an k1 (w_lv fun x4 hx4=>w_br (fun hb=> ?_) (fun hb=> ?_)))))
   · have hb:x2=true:=by simpa using hb
     exact⟨h,hv,fun _=>g2 (hx2.symm.trans hb)⟩
   · exact bad _ (by simpa using hb)
   · obtain⟨t1,t2,t3⟩:=k2
     rw[show(Q8a m c.Csr.a6 va access).m=x4 from hx4.symm]at t1 t2 t3
     obtain⟨m1,m2⟩:=Tree.pp (mark_w h t2 access)
     refine w_an m1 (w_lv fun x5 hx5=> ?_)
     exact⟨hx5▸m2,t1,fun _=>t3 (by simpa using hb)⟩)
end
end Go.Proofs.YtdkiadhigcfmkaaGreat
namespace Go.Proofs.YtdkiadhigcfmkaaGreat
open Go Go.GD
set_option linter.unusedVariables false
set_option linter.unusedSimpArgs false
set_option maxRecDepth 100000
theorem reg_ok{r:Int}(h:Q6q r=true):0≤r∧r<16:=by
 simp only[Q6q,Qb,Tree.m]at h
 cases h1:decide (r≥0)<;>rw[h1]at h
 · cases h
 · have h1:=of_decide_eq_true h1
   have h:=of_decide_eq_true h
   omega
theorem valid_ok{i:Q0f}(hi:IntKind.wrap .i64 i.Imm=i.Imm)(h:Q72 i=true):Qci i:=by
 have no:false=true→Qci i:=fun h=>by cases h
 refine(Tree.post (Qch i) (W:=fun b=>b=true→Qci i) ?_) h
 unfold Qch
 refine w_lv fun x0 h0=>w_br (fun _=>no) (fun _=>w_lv fun x1 h1=>w_br (fun _=>no) (fun b1=>w_lv fun x2 h2=>w_br (fun _=>no) (fun b2=>w_lv fun x3 h3=>w_br (fun _=>no) (fun b3=>w_lv fun x4 h4=>w_br (fun _=>no) (fun b4=>w_br (fun _=>no) (fun b5=> ?_))))))
 have b1:x1=true:=by simpa using b1
 have b2:x2=true:=by simpa using b2
 have b3:x3=true:=by simpa using b3
 have b4:=of_decide_eq_false b4
 have b5:=of_decide_eq_false b5
 rw[hi]at b4 b5
 have ok:Qci i:=⟨reg_ok (h1.symm.trans b1),reg_ok (h2.symm.trans b2),reg_ok (h3.symm.trans b3),fun e=>by
   rw[e]at h0
   have h0:x0=8:=h0
   subst h0
   have h4:x4=(0,7):=h4
   subst h4
   simp at b4 b5;omega⟩
 repeat'(first
   |exact fun _=>ok
   |exact no
   |refine w_br (fun _=> ?_) (fun _=> ?_))
theorem Zd7(w:Int):(Q8q w).w (fun r=>r.2=true→Qci r.1):=by
 have no: ∀{p:Prop},false=true→p:=fun h=>by cases h
 have e: ∀x,IntKind.wrap .i64 (IntKind.wrap .i32 x)=IntKind.wrap .i32 x:=fun x=>by rw[IntKind.wrap_i64,IntKind.wrap_i32];omega
 have ok: ∀i,IntKind.wrap .i64 i.Imm=i.Imm→ ∀x,x=Q72 i→(!x)=false→true=true→Qci i:=fun i hi x hx hb _=>valid_ok hi (hx.symm.trans (by simpa using hb))
 unfold Q8q
 refine w_lv fun x0 _=> ?_
 have l: ∀i,IntKind.wrap .i64 i.Imm=i.Imm→(Tree.lv (Q72 i) fun x=> .br (!x) (.lf ((⟨0,0,0,0,0⟩:Q0f),false)) (.lf (i,true))).w (fun r=>r.2=true→Qci r.1):=fun i hi=>w_lv fun x hx=>w_br (fun _=>no) (fun hb=>ok i hi x hx hb)
 refine w_br (fun _=>no) (fun _=>w_br (fun _=>l _ rfl) (fun _=>w_br (fun _=>l _ (e _)) (fun _=>w_br (fun _=>l _ (e _)) (fun _=>l _ (e _)))))
theorem bit_w(b:Bool):U (Q9k b):=by cases b<;>exact⟨by decide,by decide⟩
theorem Zcz{a b:Int}(ha:U a)(hb:U b):(Q8i a b).w (fun r=>U r.1∧U r.2):=by
 unfold Q8i
 refine w_br (fun _=>⟨⟨by omega,by omega⟩,ha⟩) (fun h=> ?_)
 have h: ¬b=0:=by simpa using h
 obtain⟨b1,b2⟩:=hb
 have hc:decide (IntKind.wrap IntKind.i64 (IntKind.wrap IntKind.i32 b)≠0)=true:=decide_eq_true (by rw[IntKind.wrap_i64,IntKind.wrap_i32];omega)
 exact w_cn hc (w_cn hc ⟨Q0l _,Q0l _⟩)
theorem alu_w(op:Int){a b:Int}(ha:U a)(hb:U b):(Qhu op a b).w (fun r=>U r.1):=by
 unfold Qhu
 refine w_lv fun x0 _=> ?_
 repeat'(first
   |exact Q0l _
   |exact Qq3 ha _
   |exact U_0
   |refine w_br (fun _=> ?_) (fun _=> ?_)
   |exact Q0b (Zcz ha hb) fun x hx=>hx.1
   |exact Q0b (Zcz ha hb) fun x hx=>hx.2
   |exact w_lv fun x hx=>(by rw[hx];exact bit_w _))
theorem signext_w{x:Int}(hx:U x):(Q5y x 8).w U:=by
 unfold Q5y
 have h0:decide (0≤IntKind.wrap IntKind.u64 8)=true:=by decide
 refine w_br (fun h=>absurd h (by decide)) fun _=>w_br (fun h=>absurd h (by decide)) fun _=>w_cn h0 (w_cn (by decide) (w_br (fun _=>w_cn h0 (U_or _ _)) (fun _=>Qhe _ _)))
section
variable {c:Q02} (h:Q1v c) {i:Q0f} (hi:Qci i)
include h hi
theorem system_w:(Qan c i).w (fun r=>Q1v r.1∧U r.2.Value):=by
 unfold Qan
 refine w_br (fun _=>w_lv fun x hx=>⟨hx▸Qyj h _ U_0,U_0⟩) (fun _=>w_br (fun _=>w_lv fun x hx=>⟨hx▸return_w h,U_0⟩) (fun _=>w_br (fun e=>w_cn ?_ (Q0b (Qyo h _ (h.a _)) fun x hx=>⟨hx.pcs (Q0l _),U_0⟩)) (fun _=>w_br (fun _=>w_cn (rc hi.a) (Q0b (write_w h _ (h.r _)) fun x hx=>⟨hx.pcs (Q0l _),U_0⟩)) (fun _=> ?_))))
 · have:=hi.csr (by simpa using e)
   simp [Nat.blt];omega
 · have k:=h.pcs (Q0l (c.Pc+4))
   repeat'(first
     |exact⟨k,U_0⟩
     |exact⟨k,h.r _⟩
     |refine w_br (fun _=> ?_) (fun _=> ?_)
     |refine w_cn (rc hi.a) ?_)
theorem jump_w:(Qf2 c i).w Q1v:=by
 unfold Qf2
 exact w_br (fun _=>Q0b (Qyo h _ (Q0l _)) fun x hx=>hx.pcs (Q0l _)) (fun _=>w_br (fun _=>w_cn (rc hi.b) (Q0b (Qyo h _ (Q0l _)) fun x hx=>hx.pcs (Q0l _))) (fun _=>w_cn (rc hi.a) (w_cn (rc hi.b) (w_lv fun x _=>w_br (fun _=>h.pcs (Q0l _)) (fun _=>h.pcs (Q0l _))))))
theorem Zew{P:Nat}{m:List Int}(hm:Q10 P m):(Q7y c m i).w (fun r=>Q1v r.1∧Q10 P r.2):=by
  unfold Q7y
  refine w_cn (rc hi.b) ?_
  have e1:(1:Int)=1∨(1:Int)=4:= .inl rfl
  have e4:(4:Int)=1∨(4:Int)=4:= .inr rfl
  repeat'(first
    |refine w_br (fun _=> ?_) (fun _=> ?_)
    | (refine Q0b (Z4k hm h (Q0l _) e4 _) fun x hx=> ?_
       obtain⟨m1,m2,m3⟩:=hx
       refine w_br (fun _=>w_lv fun y hy=>⟨hy▸Qyj h _ (Q0l _),m1⟩) (fun hb=> ?_)
       have m3:=m3 (by simpa using hb)
       have m4:x.1<4*x.2.2.length:=by rw[m1.len];omega
       clear hb)
    | (refine Q0b (Z4k hm h (Q0l _) e1 _) fun x hx=> ?_
       obtain⟨m1,m2,m3⟩:=hx
       refine w_br (fun _=>w_lv fun y hy=>⟨hy▸Qyj h _ (Q0l _),m1⟩) (fun hb=> ?_)
       have m3:=m3 (by simpa using hb)
       have m4:x.1<4*x.2.2.length:=by rw[m1.len];omega
       clear hb)
    |exact w_cn (rc hi.a) (Q0b (put_w (by assumption) (by assumption) (by assumption) (h.r _)) fun y hy=>⟨h.pcs (Q0l _),hy⟩)
    |(refine Q0b (Z97 (by assumption) (by assumption) e4) fun y hy=> ?_)
    |(refine Q0b (Z97 (by assumption) (by assumption) e1) fun y hy=> ?_)
    |exact Q0b (signext_w (by assumption)) fun z hz=>Q0b (Qyo h _ hz) fun u hu=>⟨hu.pcs (Q0l _),by assumption⟩
    |exact Q0b (Qyo h _ (by assumption)) fun u hu=>⟨hu.pcs (Q0l _),by assumption⟩)
end
theorem do_w{c:Q02}(h:Q1v c){P:Nat}{m:List Int}(hm:Q10 P m):(Qk8 c m).w (fun r=>Q1v r.1∧U r.2.1.Value∧Q10 P r.2.2):=by
 unfold Qk8
 refine Q0b (Z4k hm h h.pc (.inr rfl) 1) fun x0 hx=> ?_
 obtain⟨m1,m2,m3⟩:=hx
 refine w_br (fun _=>w_lv fun y hy=>⟨hy▸Qyj h _ h.pc,U_0,m1⟩) (fun hb=> ?_)
 refine Q0b (Z97 m1 m2 (.inr rfl)) fun x2 h2=>Z7t (Zd7 _) fun x3 h3=>w_br (fun _=>w_lv fun y hy=>⟨hy▸Qyj h _ h2,U_0,m1⟩) (fun b3=> ?_)
 have hi:=h3 (by simpa using b3)
 refine w_lv fun x5 _=> ?_
 repeat'(first
   |refine w_br (fun _=> ?_) (fun _=> ?_)
   |exact w_lv fun y hy=>⟨hy▸Qyj h _ h2,U_0,m1⟩
   |exact Q0b (system_w h hi) fun y hy=>⟨hy.1,hy.2,m1⟩
   |exact Q0b (jump_w h hi) fun y hy=>⟨hy,U_0,m1⟩
   |exact Q0b (Zew h hi m1) fun y hy=>⟨hy.1,U_0,hy.2⟩
   |exact Q0b (Qyo h _ (Q0l _)) fun y hy=>⟨hy.pcs (Q0l _),U_0,m1⟩
   |refine w_cn (rc hi.c) ?_
   |refine w_cn (rc hi.b) ?_
   |exact Q0b (alu_w _ (h.r _) (h.r _)) fun y hy=>Q0b (Qyo h _ hy) fun z hz=>⟨hz.pcs (Q0l _),U_0,m1⟩
   |exact Q0b (alu_w _ (h.r _) (Q0l _)) fun y hy=>Q0b (Qyo h _ hy) fun z hz=>⟨hz.pcs (Q0l _),U_0,m1⟩)
end Go.Proofs.YtdkiadhigcfmkaaGreat
namespace Go.Proofs.YtdkiadhigcfmkaaGreat
open Go Go.GD
set_option linter.unusedVariables false
set_option linter.unusedSimpArgs false
set_option maxRecDepth 100000
theorem and1{q:Int}(h:U q):iand .u32 q 1=q%2:=by
 obtain⟨h1,h2⟩:=h
 unfold iand
 rw[IntKind.wrap_u32]
 have e1:(BitVec.ofInt 32 q).toNat=q.toNat:=by rw[BitVec.toNat_ofInt];omega
 have e2:(BitVec.ofInt 32 1).toNat=1:=by decide
 have:(BitVec.ofInt IntKind.u32.bits q&&&BitVec.ofInt IntKind.u32.bits 1).toNat=q.toNat%2:=by
   show(BitVec.ofInt 32 q&&&BitVec.ofInt 32 1).toNat=_
   rw[BitVec.toNat_and,e1,e2,Nat.and_one_is_mod]
 rw[this];omega
theorem Z7d(b:Bool)(n:Int):(Qet b n).w (fun _=>True):=by
 unfold Qet
 exact w_br (fun _=>w_cn (decide_eq_true (by rw[IntKind.wrap_u64];omega)) trivial) (fun _=>trivial)
theorem lines_w(m:Q00):(Qcw m).w (fun _=>True):=by
 unfold Qcw
 exact w_lv fun _ _=>Q0b (Z7d _ _) fun _ _=>w_lv fun _ _=>Q0b (Z7d _ _) fun _ _=>w_lv fun _ _=>Q0b (Z7d _ _) fun _ _=>w_lv fun _ _=>Q0b (Z7d _ _) fun _ _=>w_lv fun _ _=>Q0b (Z7d _ _) fun _ _=>trivial
theorem Z62(m:Q00):(Q7a m).w U:=by
 unfold Q7a
 exact Q0b (lines_w m) fun _ _=>Qhe _ _
theorem idle_w(m:Q00):(Qbr m).w (fun _=>True):=by
 unfold Qbr
 exact w_br (fun _=>Q0b (Z62 m) fun _ _=>trivial) (fun _=>trivial)
theorem Z2q(m:Q00):(Qa m).w (fun _=>True):=by
 unfold Qa
 exact w_lv fun _ _=>w_br (fun _=>trivial) (fun _=>w_br (fun _=>trivial) (fun _=>Q0b (idle_w m) fun _ _=>w_br (fun _=>trivial) (fun _=>trivial)))
theorem Qj1{m:Q00}(h:Q1v m.Cpu):(Q3i m).w Q1v:=by
 unfold Q3i
 refine Q0b (Z62 m) fun x0 hx=>w_br (fun _=>h) (fun _=>w_br (fun _=>h) (fun hb=> ?_))
 have hb:x0≠0:=by simpa using hb
 have sh: ∀z:Int,0≤z→z≤31→ishr .u32 x0 (IntKind.wrap .u64 z)=x0/2^z.toNat:=fun z h1 h2=>by
   unfold ishr
   have e:min (IntKind.wrap .u64 z).toNat IntKind.u32.bits=z.toNat:=by
     show min (IntKind.wrap .u64 z).toNat 32=z.toNat
     rw[IntKind.wrap_u64];omega
   rw[e,Int.fdiv_eq_ediv_of_nonneg _ (Int.le_of_lt (Int.pow_pos (by decide)))]
 refine w_lp (inv:=fun z=>0≤z∧z≤31∧x0/2^z.toNat≠0) (μ:=Qb5 m) ⟨by omega,by omega,by simpa using hb⟩ (Nat.lt_succ_self _) (fun z hz=> ?_)
 obtain⟨z1,z2,z3⟩:=hz
 refine w_cn (decide_eq_true (by rw[IntKind.wrap_u64];omega)) (w_br (fun e=>w_nx ?_) (fun _=>w_lv fun y hy=>hy▸Qyj h _ U_0))
 have e:=eq_of_beq e
 have hq:=Qq3 hx (IntKind.wrap .u64 z)
 rw[and1 hq,sh z z1 z2]at e
 rw[sh z z1 z2]at hq
 have hlt:x0/2^z.toNat/2≠0:=by omega
 have z4:z≤30:=by
   rcases Int.lt_or_le z 31 with h|h
   · omega
   · have:z=31:=by omega
     subst this
     have:=hx.2
     have:=hx.1
     simp at z3 e hlt
     omega
 show(0≤IntKind.i64.wrap (z+1)∧IntKind.i64.wrap (z+1)≤31∧x0/2^(IntKind.i64.wrap (z+1)).toNat≠0)∧(32-IntKind.i64.wrap (z+1)).toNat<(32-z).toNat
 have ew:IntKind.i64.wrap (z+1)=z+1:=by rw[IntKind.wrap_i64];omega
 rw[ew]
 refine⟨⟨by omega,by omega,?_⟩,by omega⟩
 have et:(z+1).toNat=z.toNat+1:=by omega
 rw[et,Int.pow_succ,←Int.ediv_ediv_of_nonneg (Int.le_of_lt (Int.pow_pos (by decide)))]
 exact hlt
theorem reads_w{P:Nat}{m:Q00}(h:Q1v m.Cpu)(hm:Q10 P m.Mem):(Qd5 m).w (fun _=>True):=by
 unfold Qd5
 refine Q0b (Qj1 h) fun x0 hx=>w_br (fun _=>trivial) (fun _=>Q0b (Z97 hm hx.pc (.inr rfl)) fun x1 _=>w_lv fun x2 _=> ?_)
 exact w_br (fun _=>w_br (fun _=>w_br (fun _=>trivial) (fun _=>trivial)) (fun _=>trivial)) (fun _=>trivial)
theorem Qt6{P:Nat}{m:Q00}(h:Q1v m.Cpu)(hm:Q10 P m.Mem):(Q63 m).w (fun _=>True):=by
 unfold Q63
 exact Q0b (Z2q m) fun _ _=>w_br (fun _=>trivial) (fun _=>Q0b (reads_w h hm) fun _ _=>trivial)
theorem Qg0(l:List Int):(bytesOf l).length=l.length:=by simp [bytesOf]
theorem Qls(l:List UInt8):(Q9e l).length=l.length:=by simp [Q9e]
theorem low_w(x:Int):(Qee x 4).w (fun r=>r.length=4):=by
 unfold Qee
 refine w_lp (inv:=fun z=>0≤z.1∧z.1≤4∧(z.2.length:Int)=z.1) (μ:=Qc2 x 4) ⟨by omega,by omega,rfl⟩ (Nat.lt_succ_self _) (fun z hz=> ?_)
 obtain⟨z1,z2,z3⟩:=hz
 refine w_br (fun h=>w_cn (decide_eq_true (by rw[IntKind.wrap_u64];omega)) (w_cn (decide_eq_true (by omega)) (w_nx ?_))) (fun h=> ?_)
 · have h:=of_decide_eq_true h
   show(0≤IntKind.i64.wrap (z.1+1)∧IntKind.i64.wrap (z.1+1)≤4∧((z.2++[_]).length:Int)=IntKind.i64.wrap (z.1+1))∧(4-IntKind.i64.wrap (z.1+1)).toNat<(4-z.1).toNat
   have ew:IntKind.i64.wrap (z.1+1)=z.1+1:=by rw[IntKind.wrap_i64];omega
   rw[ew]
   refine⟨⟨by omega,by omega,by simp;omega⟩,by omega⟩
 · have h:=of_decide_eq_false h
   show(bytesOf z.2).length=4
   rw[Qg0];omega
theorem page_w{P:Nat}{m:List Int}(hm:Q10 P m)(frame:Int):(Q7l m frame).w (fun r=>0≤frame→frame<P→r.1.length=128):=by
 have hp:=Qcc hm
 have hl:=hm.len
 have h2:=hm.p2
 unfold Q7l
 refine w_br (fun h=>fun h0 _=>by have:=of_decide_eq_true h;omega) (fun h=>w_lv fun x0 hx=>w_br (fun h1=>fun _ h2=>by have:=of_decide_eq_true h1;rw[hx,hp]at this;omega) (fun h1=> ?_))
 have h:=of_decide_eq_false h
 have h1:=of_decide_eq_false h1
 rw[hx,hp]at h1
 refine w_lp (inv:=fun z=>0≤z.1∧z.1≤32∧(z.2.length:Int)=4*z.1) (μ:=Qfi m frame) ⟨by omega,by omega,rfl⟩ (Nat.lt_succ_self _) (fun z hz=> ?_)
 obtain⟨z1,z2,z3⟩:=hz
 refine w_br (fun hb=> ?_) (fun hb=> ?_)
 · have hb:=of_decide_eq_true hb
   have e:IntKind.wrap IntKind.i64 (IntKind.wrap IntKind.i64 (frame*32)+z.1)=frame*32+z.1:=by rw[IntKind.wrap_i64,IntKind.wrap_i64];omega
   refine w_cn (by rw[e];simp [Nat.blt];omega) (w_an (show(4:Int)≤1000000000000 by decide) (Z7t (low_w _) fun x1 h4=>w_cn (decide_eq_true (by rw[Qls,h4];omega)) (w_nx ?_)))
   show(0≤IntKind.i64.wrap (z.1+1)∧IntKind.i64.wrap (z.1+1)≤32∧((z.2++Q9e x1).length:Int)=4*IntKind.i64.wrap (z.1+1))∧(32-IntKind.i64.wrap (z.1+1)).toNat<(32-z.1).toNat
   have ew:IntKind.i64.wrap (z.1+1)=z.1+1:=by rw[IntKind.wrap_i64];omega
   rw[ew,List.length_append,Qls,h4]
   exact⟨⟨by omega,by omega,by omega⟩,by omega⟩
 · have hb:=of_decide_eq_false hb
   intro _ _
   show(bytesOf z.2).length=128
   rw[Qg0];omega
theorem Z8b{P:Nat}{m:List Int}(hm:Q10 P m){d:Q0d}(hd:Qaq d)(port:Int){v:Int}(hv:U v)(at0:Int):(Q78 d m port v at0).w (fun r=>Qaq r.1∧r.2.length≤1):=by
 have k: ∀st,Qaq {Blocks:=d.Blocks,Block:=d.Block,Frame:=d.Frame,State:=st,Cmd:=d.Cmd,OpBlock:=d.OpBlock,OpFrame:=d.OpFrame,OpData:=d.OpData}:=fun st=>⟨hd.block,hd.frame,hd.opBlock,hd.opFrame⟩
 have k2: ∀c o,Qaq {Blocks:=d.Blocks,Block:=d.Block,Frame:=d.Frame,State:=1,Cmd:=c,OpBlock:=d.Block,OpFrame:=d.Frame,OpData:=o}:=fun c o=>⟨hd.block,hd.frame,hd.block,hd.frame⟩
 have k3:Qaq {Blocks:=d.Blocks,Block:=v,Frame:=d.Frame,State:=d.State,Cmd:=d.Cmd,OpBlock:=d.OpBlock,OpFrame:=d.OpFrame,OpData:=d.OpData}:=⟨hv,hd.frame,hd.opBlock,hd.opFrame⟩
 have k4:Qaq {Blocks:=d.Blocks,Block:=d.Block,Frame:=v,State:=d.State,Cmd:=d.Cmd,OpBlock:=d.OpBlock,OpFrame:=d.OpFrame,OpData:=d.OpData}:=⟨hd.block,hv,hd.opBlock,hd.opFrame⟩
 unfold Q78
 repeat'(first
   |refine w_br (fun _=> ?_) (fun _=> ?_)
   |exact Q0b (page_w hm _) fun _ _=>w_lv fun _ _=>⟨k2 _ _,Nat.le_refl _⟩
   |refine w_lv (fun _ _=> ?_)
   |refine w_lf ?_)
 all_goals(first
   |exact⟨hd,Nat.zero_le _⟩
   |exact⟨k _,Nat.zero_le _⟩
   |exact⟨k2 _ _,Nat.le_refl _⟩
   |exact⟨k3,Nat.zero_le _⟩
   |exact⟨k4,Nat.zero_le _⟩)
theorem Zdi{P:Nat}{m:List Int}(hm:Q10 P m){n:Q0m}(hn:Qj6 n)(port:Int){v:Int}(hv:U v)(at0:Int):(Q8h n m port v at0).w (fun r=>Qj6 r.1∧r.2.length≤1):=by
 have k1:Qj6 {Frame:=v,Len:=n.Len,Posted:=n.Posted,Buffer:=n.Buffer,Received:=n.Received,Got:=n.Got}:=⟨hv,hn.len,hn.buffer,hn.got⟩
 have k2:Qj6 {Frame:=n.Frame,Len:=v,Posted:=n.Posted,Buffer:=n.Buffer,Received:=n.Received,Got:=n.Got}:=⟨hn.frame,hv,hn.buffer,hn.got⟩
 have k3:Qj6 {Frame:=n.Frame,Len:=n.Len,Posted:=n.Posted,Buffer:=n.Buffer,Received:=false,Got:=0}:=⟨hn.frame,hn.len,hn.buffer,U_0⟩
 have k4: ∀p r,Qj6 {Frame:=n.Frame,Len:=n.Len,Posted:=p,Buffer:=n.Frame,Received:=r,Got:=n.Got}:=fun p r=>⟨hn.frame,hn.len,hn.frame,hn.got⟩
 have send: ∀K:List UInt8×Bool→Tree (Q0m×List Q08),Q29 m n.Frame=true→(∀x:List UInt8×Bool,x.1.length=128→(K x).w (fun r=>Qj6 r.1∧r.2.length≤1))→(Tree.an (Qdx m (IntKind.wrap .i64 n.Frame)) (.lv (Qfb m (IntKind.wrap .i64 n.Frame)) K)).w (fun r=>Qj6 r.1∧r.2.length≤1):=fun K hp hK=>by
   rw[Qq9 hm hn.frame]at hp
   have hp:=of_decide_eq_true hp
   obtain⟨f1,f2⟩:=hn.frame
   have ew:IntKind.i64.wrap n.Frame=n.Frame:=by rw[IntKind.wrap_i64];omega
   exact Q0b (page_w hm _) fun x hx=>hK x (hx (by rw[ew];exact f1) (by rw[ew];exact hp))
 unfold Q8h
 repeat'(first
   |refine w_br (fun _=> ?_) (fun _=> ?_)
   |refine send _ (by simp_all) (fun x hx=>w_cn (by simp_all;exact hn.len.1) ?_)
   |refine w_lv (fun _ _=> ?_)
   |refine w_lf ?_)
 all_goals(first
   |exact⟨hn,Nat.zero_le _⟩
   |exact⟨hn,Nat.le_refl _⟩
   |exact⟨k1,Nat.zero_le _⟩
   |exact⟨k2,Nat.zero_le _⟩
   |exact⟨k3,Nat.zero_le _⟩
   |exact⟨k4 _ _,Nat.zero_le _⟩)
def okB(b:Q05):Prop:=U b.Target∧U b.Given
theorem give_w{P:Nat}{m:List Int}(hm:Q10 P m){b:Q05}(hb:okB b)(port:Int){v:Int}(hv:U v):(Q3j b m port v).w (fun r=>okB r.1∧Q10 P r.2):=by
 have hv0:decide (0≤v)=true:=decide_eq_true hv.1
 have h2:=hm.p2
 have rest:(Tree.br (port==11) (.br (decide (v<32)) (.cn (decide (0≤v)) (.lf (({Target:=b.Target,Given:=Qgh .u32 b.Given (ishl .u32 1 v)}:Q05),m))) (.lf (b,m))) (.lf (b,m))).w (fun r=>okB r.1∧Q10 P r.2):=
   w_br (fun _=>w_br (fun _=>w_cn hv0 ⟨⟨hb.1,Q0l _⟩,hm⟩) (fun _=>⟨hb,hm⟩)) (fun _=>⟨hb,hm⟩)
 unfold Q3j
 refine w_br (fun _=>w_lv fun x0 hx=>w_br (fun hp=>w_cn hv0 (w_br (fun _=>w_cn hv0 ?_) (fun _=>rest))) (fun _=>rest)) (fun _=>rest)
 have hp:Q29 m v=true:=hx.symm.trans hp
 rw[Qq9 hm hv]at hp
 have hp:=of_decide_eq_true hp
 obtain⟨v1,v2⟩:=hv
 refine w_lp (inv:=fun z=>0≤z.1∧z.1≤32∧Q10 P z.2) (μ:=Qf8 b m port v) ⟨by omega,by omega,hm⟩ (Nat.lt_succ_self _) (fun z hz=> ?_)
 obtain⟨z1,z2,z3⟩:=hz
 have hl:=z3.len
 refine w_br (fun h=> ?_) (fun _=>⟨⟨hb.1,Q0l _⟩,z3⟩)
 have h:=of_decide_eq_true h
 have e:IntKind.wrap IntKind.i64 (IntKind.wrap IntKind.i64 (IntKind.wrap IntKind.i64 v*32)+z.1)=v*32+z.1:=by rw[IntKind.wrap_i64,IntKind.wrap_i64,IntKind.wrap_i64];omega
 refine w_cn (by rw[e];simp [Nat.blt];omega) (w_nx ?_)
 show(0≤IntKind.i64.wrap (z.1+1)∧IntKind.i64.wrap (z.1+1)≤32∧Q10 P (List.set _ _ _))∧(32-IntKind.i64.wrap (z.1+1)).toNat<(32-z.1).toNat
 have ew:IntKind.i64.wrap (z.1+1)=z.1+1:=by rw[IntKind.wrap_i64];omega
 rw[ew]
 exact⟨⟨by omega,by omega,⟨by simp [hl],z3.p1,z3.p2,Qv8 z3.u U_0 _⟩⟩,by omega⟩
structure okM(P:Nat)(m:Q00):Prop where
 cpu:Q1v m.Cpu
 mem:Q10 P m.Mem
 disk:Qaq m.Disk
 nic:Qj6 m.Nic
 target:okB m.Balloon
 cnt:0≤m.Count
theorem Qx7(c:Q0c)(port:Int):U (Q42 c port).2:=by
 refine Tree.post (Q2j c port) (W:=fun r=>U r.2) ?_
 have u1:U 4294967295:=⟨by omega,by omega⟩
 unfold Q2j
 refine w_br (fun _=>w_br (fun _=>u1) (fun h=>w_br (fun _=>w_cn ?_ (w_cn ?_ (Q0l _))) (fun _=>w_br (fun _=>Q0l _) (fun _=>U_0)))) (fun h1=>w_br (fun h=>(by rw[h1]at h;cases h)) (fun _=>w_br (fun _=>Q0l _) (fun _=>U_0)))
 · have h: ¬(c.Keys.length:Int)=0:=by simpa using h
   exact decide_eq_true ⟨by omega,by omega,by omega⟩
 · have h: ¬(c.Keys.length:Int)=0:=by simpa using h
   simp [Nat.blt];omega
theorem nicIn_w{n:Q0m}(h:Qj6 n)(port:Int):U (Qej n port):=by
 refine Tree.post (Qd7 n port) (W:=U) ?_
 have u1:U 1:=⟨by omega,by omega⟩
 unfold Qd7
 exact w_br (fun _=>h.frame) (fun _=>w_br (fun _=>h.got) (fun _=>w_br (fun _=>w_br (fun _=>w_br (fun _=>Q0l _) (fun _=>u1)) (fun _=>w_br (fun _=>Q0l _) (fun _=>U_0))) (fun _=>U_0)))
theorem Zdg{d:Q0d}(h:Qaq d)(port:Int):U (Qg7 d port):=by
 refine Tree.post (Qe4 d port) (W:=U) ?_
 unfold Qe4
 exact w_br (fun _=>h.block) (fun _=>w_br (fun _=>h.frame) (fun _=>w_br (fun _=>Q0l _) (fun _=>U_0)))
theorem Z70(t:Q0i):U (Qd9 t):=by
 refine Tree.post (Qc3 t) (W:=U) ?_
 unfold Qc3
 exact w_br (fun _=>⟨by omega,by omega⟩) (fun _=>U_0)
theorem Qxs{b:Q05}(h:U b.Target)(port:Int):U (Q40 b port):=by
 refine Tree.post (Q4w b port) (W:=U) ?_
 unfold Q4w
 exact w_br (fun _=>h) (fun _=>w_br (fun _=>w_lv fun _ _=>Q0l _) (fun _=>U_0))
structure okR(P:Nat)(r:Q01):Prop where
 m:okM P r.Machine
 clock:U r.Clock
structure okL(P:Nat)(r x:Q01):Prop where
 ok:okR P x
 log:x.Log=r.Log
 queue:x.Queue=r.Queue
theorem w0(x:Int):0≤IntKind.u64.wrap x:=by rw[IntKind.wrap_u64];omega
section
variable {P:Nat} {r:Q01} (h:okR P r)
include h
theorem in_w(port:Int){clock:Int}(hc:U clock):(Qik r port clock).w (fun x=>U x.1∧okL P r x.2):=by
 have k:okL P r r:=⟨h,rfl,rfl⟩
 obtain⟨⟨h1,h2,h3,h4,h5,h7⟩,h6⟩:=h
 unfold Qik
 exact w_br (fun _=>w_lv fun x hx=>⟨hx▸Qx7 _ _,⟨⟨⟨h1,h2,h3,h4,h5,h7⟩,h6⟩,rfl,rfl⟩⟩) (fun _=>w_br (fun _=>⟨hc,k⟩) (fun _=>w_br (fun _=>w_lv fun x hx=>⟨hx▸Z70 _,k⟩) (fun _=>w_br (fun _=>w_lv fun x hx=>⟨hx▸Zdg h3 _,k⟩) (fun _=>w_br (fun _=>w_lv fun x hx=>⟨hx▸nicIn_w h4 _,k⟩) (fun _=>w_lv fun x hx=>⟨hx▸Qxs h5.1 _,k⟩)))))
theorem out_w(port:Int){v:Int}(hv:U v):(Qcu r port v).w (fun x=>x.1.length≤1∧okL P r x.2):=by
 have k:okL P r r:=⟨h,rfl,rfl⟩
 obtain⟨⟨h1,h2,h3,h4,h5,h7⟩,h6⟩:=h
 unfold Qcu
 exact w_br (fun _=>⟨Nat.le_refl _,k⟩) (fun _=>w_br (fun _=>⟨Nat.zero_le _,k⟩) (fun _=>w_br (fun _=>w_lv fun _ _=>⟨Nat.zero_le _,⟨⟨⟨h1,h2,h3,h4,h5,h7⟩,h6⟩,rfl,rfl⟩⟩) (fun _=>w_br (fun _=>Q0b (Z8b h2 h3 _ hv _) fun x hx=>⟨hx.2,⟨⟨⟨h1,h2,hx.1,h4,h5,h7⟩,h6⟩,rfl,rfl⟩⟩) (fun _=>w_br (fun _=>Q0b (Zdi h2 h4 _ hv _) fun x hx=>⟨hx.2,⟨⟨⟨h1,h2,h3,hx.1,h5,h7⟩,h6⟩,rfl,rfl⟩⟩) (fun _=>Q0b (give_w h2 h5 _ hv) fun x hx=>⟨Nat.zero_le _,⟨⟨⟨h1,hx.2,h3,h4,hx.1,h7⟩,h6⟩,rfl,rfl⟩⟩)))))
theorem Qpi{clock:Int}(hc:U clock):(Q6x r clock).w (fun x=>x.1.length≤1∧okL P r x.2):=by
 obtain⟨⟨h1,h2,h3,h4,h5,h7⟩,h6⟩:=h
 unfold Q6x
 refine Q0b (Qj1 h1) fun x0 c0=>Q0b (do_w c0 h2) fun x1 hx=> ?_
 obtain⟨c1,v1,m1⟩:=hx
 refine w_br (fun _=>Z7t (in_w (r:=⟨⟨_,_,_,_,_,_,_,_,_,_⟩,_,_,_⟩) ⟨⟨c1,m1,h3,h4,h5,h7⟩,h6⟩ _ hc) fun x2 hx=> ?_) (fun _=>w_br (fun _=>Q0b (out_w (r:=⟨⟨_,_,_,_,_,_,_,_,_,_⟩,_,_,_⟩) ⟨⟨c1,m1,h3,h4,h5,h7⟩,h6⟩ _ v1) fun x4 hx=> ?_) (fun _=> ?_))
 · obtain⟨u,⟨⟨⟨k1,k2,k3,k4,k5,k7⟩,k6⟩,e1,e2⟩⟩:=hx
   exact Q0b (Qyo k1 _ u) fun x3 h3=>⟨Nat.zero_le _,⟨⟨⟨h3,k2,k3,k4,k5,w0 _⟩,k6⟩,e1,e2⟩⟩
 · obtain⟨u,⟨⟨⟨k1,k2,k3,k4,k5,k7⟩,k6⟩,e1,e2⟩⟩:=hx
   exact⟨u,⟨⟨⟨k1,k2,k3,k4,k5,w0 _⟩,k6⟩,e1,e2⟩⟩
 · repeat'(first
     |exact⟨Nat.zero_le _,⟨⟨⟨c1,m1,h3,h4,h5,w0 _⟩,h6⟩,rfl,rfl⟩⟩
     |refine w_br (fun _=> ?_) (fun _=> ?_))
end
end Go.Proofs.YtdkiadhigcfmkaaGreat
namespace Go.Proofs.YtdkiadhigcfmkaaGreat
open Go Go.GD
set_option linter.unusedVariables false
set_option linter.unusedSimpArgs false
set_option maxRecDepth 100000
theorem type_w(c:Q0c)(b:Int):(Qfm c b).w (fun _=>True):=by
 unfold Qfm
 refine w_br (fun _=>trivial) (fun h=>w_cn (decide_eq_true ?_) trivial)
 have h:=of_decide_eq_false h
 simp [maxLen];omega
theorem accept_w{P:Nat}{m:List Int}(hm:Q10 P m){n:Q0m}(hn:Qj6 n)(frame:List UInt8):(Qac n m frame).w (fun r=>Qj6 r.1∧Q10 P r.2.2):=by
 unfold Qac
 refine w_br (fun _=>⟨hn,hm⟩) (fun _=>w_br (fun _=>⟨hn,hm⟩) (fun _=>w_br (fun _=>⟨hn,hm⟩) (fun _=>w_lv fun x0 hx=>w_br (fun _=>⟨hn,hm⟩) (fun hb=> ?_))))
 have hp:Q29 m n.Buffer=true:=hx.symm.trans (by simpa using hb)
 rw[Qq9 hm hn.buffer]at hp
 have hp:=of_decide_eq_true hp
 obtain⟨b1,b2⟩:=hn.buffer
 have ew:IntKind.i64.wrap n.Buffer=n.Buffer:=by rw[IntKind.wrap_i64];omega
 exact Q0b (fill_w hm (frame:=IntKind.i64.wrap n.Buffer) (by rw[ew];exact b1) (by rw[ew];exact hp) frame) fun x hx=>⟨⟨hn.frame,hn.len,U_0,Q0l _⟩,hx⟩
section
variable {P:Nat} {r:Q01} (h:okR P r)
include h
theorem apply_w{e:Q0k}(he:U e.N):(Q99 r e).w (fun x=>okL P r x.2):=by
 have k:okL P r r:=⟨h,rfl,rfl⟩
 obtain⟨⟨h1,h2,h3,h4,h5,h7⟩,h6⟩:=h
 unfold Q99
 repeat'(first
   |exact k
   |exact⟨⟨⟨h1,h2,h3,h4,⟨he,h5.2⟩,h7⟩,h6⟩,rfl,rfl⟩
   |exact w_lv fun _ _=>⟨⟨⟨h1,h2,h3,h4,h5,h7⟩,h6⟩,rfl,rfl⟩
   |exact Q0b (type_w _ _) fun _ _=>⟨⟨⟨h1,h2,h3,h4,h5,h7⟩,h6⟩,rfl,rfl⟩
   |exact Q0b (finish_w h2 h3 _) fun x hx=>⟨⟨⟨h1,hx.2,hx.1,h4,h5,h7⟩,h6⟩,rfl,rfl⟩
   |exact Q0b (accept_w h2 h4 _) fun x hx=>⟨⟨⟨h1,hx.2,h3,hx.1,h5,h7⟩,h6⟩,rfl,rfl⟩
   |refine w_br (fun _=> ?_) (fun _=> ?_))
theorem offer_w{e:Q0k}(he:U e.N)(hl:r.Log.length≤1000000):(Qao r e).w (fun x=>okR P x∧x.Log.length≤r.Log.length+1∧x.Queue=r.Queue):=by
 have acc:(Q7r r e).w (fun x=>okL P r x.2):=by
   unfold Q7r
   exact Q0b (apply_w h he) fun x hx=>hx
 unfold Qao
 refine Q0b acc fun x hx=> ?_
 obtain⟨⟨k1,k2⟩,e1,e2⟩:=hx
 refine w_br (fun _=>w_cn (decide_eq_true (by rw[e1];omega)) ⟨⟨k1,k2⟩,by simp [e1],e2⟩) (fun _=>⟨⟨k1,k2⟩,by rw[e1];omega,e2⟩)
theorem own_w(hl:r.Log.length≤1000000)(hq:r.Queue.length≤1000000):(Qfg r).w (fun x=>okR P x∧x.Log=r.Log∧x.Queue=r.Queue):=by
 have ow:(Q77 r.Machine).w (fun m=>okM P m):=by
   obtain⟨⟨h1,h2,h3,h4,h5,h7⟩,h6⟩:=h
   unfold Q77
   exact Q0b (copy_w h2) fun x hx=>⟨h1,by rw[hx];exact h2,h3,h4,h5,h7⟩
 unfold Qfg
 refine Q0b ow fun x hx=>w_cn (decide_eq_true (by simp;omega)) (w_cn (decide_eq_true (by simp;omega)) ⟨⟨hx,h.clock⟩,rfl,rfl⟩)
theorem arrive_w(e:Q0k)(hl:r.Log.length≤1000000)(hq:r.Queue.length≤16)(hu: ∀q∈r.Queue,U q.N)(he:U e.N):(Q96 r e).w (fun x=>okR P x.1∧x.1.Log=r.Log∧x.1.Queue.length≤16∧ ∀q∈x.1.Queue,U q.N):=by
 unfold Q96
 refine Q0b (own_w h hl (by omega)) fun x hx=> ?_
 obtain⟨k1,k2,k3⟩:=hx
 have g:okR P x∧x.Log=r.Log∧x.Queue.length≤16∧ ∀q∈x.Queue,U q.N:=⟨k1,k2,by rw[k3];exact hq,by rw[k3];exact hu⟩
 refine w_lv fun x1 _=>w_br (fun _=>g) (fun _=>w_br (fun _=>g) (fun _=>w_br (fun _=>g) (fun hb=>w_cn (decide_eq_true (by rw[k3];omega)) ?_)))
 have hb:=of_decide_eq_false hb
 refine⟨⟨k1.m,k1.clock⟩,k2,?_,?_⟩
 · show(x.Queue++[e]).length≤16
   rw[List.length_append];simp at hb⊢;omega
 · intro q hq
   have hq:q∈x.Queue++[e]:=hq
   rw[List.mem_append]at hq
   rcases hq with hq|hq
   · exact hu q (k3▸hq)
   · rw[List.mem_singleton.1 hq];exact he
end
theorem event_w(n:Int):(Qcf n).w (fun e=>U e.N):=by
 have u1:U 1:=⟨by omega,by omega⟩
 have ev40: ∀x y,Q3t x (IntKind.wrap .i64 (1+Int.tmod y 40)):=fun x y=>by
   show IntKind.wrap .i64 (1+Int.tmod y 40)≤1000000000000
   have h1:=Int.tmod_lt_of_pos y (b:=40) (by decide)
   have h2:=Int.lt_tmod_of_pos y (b:=40) (by decide)
   rw[IntKind.wrap_i64];omega
 unfold Qcf
 refine w_lv fun x0 _=> ?_
 repeat'(first
   |exact U_0
   |exact u1
   |exact Q0l _
   |exact w_an (show(128:Int)≤1000000000000 by decide) (w_lv fun _ _=>u1)
   |exact w_an (ev40 _ _) (w_lv fun _ _=>U_0)
   |refine w_br (fun _=> ?_) (fun _=> ?_))
end Go.Proofs.YtdkiadhigcfmkaaGreat

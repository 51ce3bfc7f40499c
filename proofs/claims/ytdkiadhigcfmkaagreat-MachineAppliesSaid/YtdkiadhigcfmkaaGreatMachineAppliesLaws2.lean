/-
  A part of the proof.
-/
import Derived.Test.YtdkiadhigcfmkaaGreatMachineAppliesYe
import Derived.Test.YtdkiadhigcfmkaaGreatMachineAppliesZa
import Derived.Test.YtdkiadhigcfmkaaGreatMachineAppliesZb
import Derived.Test.YtdkiadhigcfmkaaGreatMachineAppliesZg
namespace Go.Proofs.YtdkiadhigcfmkaaGreat
open Go Go.GD
set_option linter.unusedVariables false
set_option linter.unusedSimpArgs false
set_option maxRecDepth 100000
def U(x:Int):Prop:=0≤x∧x<4294967296
theorem Q17(x:Int):U (IntKind.u32.wrap x):=by rw[IntKind.wrap_u32];unfold U;omega
theorem Qhb(x y:Int):U (iand .u32 x y):=Q17 _
theorem U_or(x y:Int):U (ior .u32 x y):=Q17 _
theorem U_0:U 0:=⟨by omega,by omega⟩
theorem Qyg{m:List Int}(h: ∀w∈m,U w){v:Int}(hv:U v)(i:Nat): ∀w∈m.set i v,U w:=by
 intro w hw
 rcases List.mem_or_eq_of_mem_set hw with h1|h1
 · exact h w h1
 · rw[h1];exact hv
structure Q1d(P:Nat)(m:List Int):Prop where
 len:m.length=32*P
 p1:0≤P
 p2:P≤32
 u: ∀w∈m,U w
structure Q6d(d:Q0b):Prop where
 block:U d.Block
 frame:U d.Frame
 opBlock:U d.OpBlock
 opFrame:U d.OpFrame
structure Qfw(n:Q0k):Prop where
 frame:U n.Frame
 len:U n.Len
 buffer:U n.Buffer
 got:U n.Got
theorem Ql1{l:List Int}(h: ∀w∈l,U w)(i:Nat):U (l.getD i 0):=by
 by_cases hi:i<l.length
 · have:l.getD i 0=l[i]:=by simp [List.getD,hi]
   rw[this];exact h _ (List.getElem_mem hi)
 · have:l.getD i 0=0:=by simp [List.getD,List.getElem?_eq_none (by omega:l.length≤i)]
   rw[this];exact U_0
structure Q3j(c:Q03):Prop where
 x: ∀w∈A16.l c.X,U w
 pc:U c.Pc
 csr: ∀w∈A8.l c.Csr,U w
theorem okX_set{X:A16 Int}(h: ∀w∈A16.l X,U w){v:Int}(hv:U v)(i:Nat): ∀w∈A16.l (A16.of 0 (List.set (A16.l X) i v)),U w:=by
 have hs:=Qyg h hv i
 intro w hw
 simp only[A16.l,A16.of,List.mem_cons,List.not_mem_nil,or_false]at hw
 repeat(first|(rcases hw with rfl|hw; · exact Ql1 hs _)|(subst hw;exact Ql1 hs _))
theorem Qvk{X:A8 Int}(h: ∀w∈A8.l X,U w){v:Int}(hv:U v)(i:Nat): ∀w∈A8.l (A8.of 0 (List.set (A8.l X) i v)),U w:=by
 have hs:=Qyg h hv i
 intro w hw
 simp only[A8.l,A8.of,List.mem_cons,List.not_mem_nil,or_false]at hw
 repeat(first|(rcases hw with rfl|hw; · exact Ql1 hs _)|(subst hw;exact Ql1 hs _))
section
variable {c:Q03} (h:Q3j c)
include h
theorem Q3j.a(i:Nat):U ((A8.l c.Csr).getD i 0):=Ql1 h.csr i
theorem Q3j.r(i:Nat):U ((A16.l c.X).getD i 0):=Ql1 h.x i
theorem Q3j.a0:U c.Csr.a0:=h.a 0
theorem Q3j.a1:U c.Csr.a1:=h.a 1
theorem Q3j.a2:U c.Csr.a2:=h.a 2
theorem Q3j.a3:U c.Csr.a3:=h.a 3
theorem Q3j.a4:U c.Csr.a4:=h.a 4
theorem Q3j.a5:U c.Csr.a5:=h.a 5
theorem Q3j.a6:U c.Csr.a6:=h.a 6
theorem Q3j.a7:U c.Csr.a7:=h.a 7
theorem Q3j.pcs{p:Int}(hp:U p):Q3j {X:=c.X,Pc:=p,Csr:=c.Csr}:=⟨h.x,hp,h.csr⟩
end
section
variable {α β:Type} {W:β→Prop} {t:Tree α} {Q:α→Prop} {k:α→Tree β}
theorem Q0l(hq:t.w Q)(g: ∀x,Q x→(k x).w W):(Tree.an t.p (Tree.lv t.m k)).w W:=⟨(Tree.pp hq).1,fun y hy=>g y (by rw[hy];exact(Tree.pp hq).2)⟩
theorem Zbd(hq:t.w Q)(g: ∀x,Q x→(k x).w W):(Tree.lv t.m k).w W:=fun y hy=>g y (by rw[hy];exact t.post hq)
end
theorem rc{r:Int}(h:0≤r∧r<16):(Nat.blt 0 1&&decide (0≤r∧r<((16:Nat):Int)))=true:=by simp [Nat.blt];omega
theorem U_shr{a:Int}(h:U a)(b:Int):U (ishr .u32 a b):=by
 unfold ishr U
 obtain⟨h1,h2⟩:=h
 have hp:(0:Int)<2^(min b.toNat IntKind.u32.bits):=Int.pow_pos (by decide)
 have:=Int.fdiv_nonneg h1 (Int.le_of_lt hp)
 refine⟨this,?_⟩
 rw[Int.fdiv_eq_ediv_of_nonneg _ (Int.le_of_lt hp)]
 have h3:=Int.ediv_le_self (2^(min b.toNat IntKind.u32.bits)) h1
 omega
structure Ql7(i:Q0i):Prop where
 a:0≤i.A∧i.A<16
 b:0≤i.B∧i.B<16
 c:0≤i.C∧i.C<16
 csr:i.Op=58→0≤i.Imm∧i.Imm<8
end Go.Proofs.YtdkiadhigcfmkaaGreat
namespace Go.Proofs.YtdkiadhigcfmkaaGreat
open Go Go.GD
set_option linter.unusedVariables false
set_option linter.unusedSimpArgs false
set_option maxRecDepth 100000
section
variable {P:Nat} {m:List Int} (h:Q1d P m)
include h
theorem Qc7:Q0c m:=by
 have:=h.len
 have:=h.p2
 show m.length≤35184372088832
 omega
end
end Go.Proofs.YtdkiadhigcfmkaaGreat
namespace Go.Proofs.YtdkiadhigcfmkaaGreat
open Go Go.GD
set_option linter.unusedVariables false
set_option linter.unusedSimpArgs false
set_option maxRecDepth 100000
section
variable {P:Nat} {m:List Int} (h:Q1d P m)
include h
end
section
variable {c:Q03} (h:Q3j c)
include h
end
section
variable {c:Q03} (h:Q3j c) {i:Q0i} (hi:Ql7 i)
include h hi
end
end Go.Proofs.YtdkiadhigcfmkaaGreat
namespace Go.Proofs.YtdkiadhigcfmkaaGreat
open Go Go.GD
set_option linter.unusedVariables false
set_option linter.unusedSimpArgs false
set_option maxRecDepth 100000
theorem shr_lt{a:Int}(h:U a)(k:Nat)(hk:k≤32):0≤ishr .u32 a k∧ishr .u32 a k*2^k≤a:=by
 obtain⟨h1,h2⟩:=h
 unfold ishr
 have e:min (k:Int).toNat IntKind.u32.bits=k:=by show min (k:Int).toNat 32=k;omega
 have hp:(0:Int)<2^k:=Int.pow_pos (by decide)
 rw[e,Int.fdiv_eq_ediv_of_nonneg _ (Int.le_of_lt hp)]
 exact⟨Int.ediv_nonneg h1 (Int.le_of_lt hp),Int.ediv_mul_le a (Int.ne_of_gt hp)⟩
theorem Zat(x:Int):0≤IntKind.u8.wrap x∧IntKind.u8.wrap x<256:=by rw[IntKind.wrap_u8];omega
theorem len32_w{x:Int}(h:U x):(Q1m x).w (fun _=>True):=by
 have s16:=shr_lt h 16 (by omega)
 have s8:=shr_lt h 8 (by omega)
 have s24:=shr_lt (U_shr h 16) 8 (by omega)
 obtain⟨h1,h2⟩:=h
 unfold Q1m
 repeat'(first
   |refine w_br (fun _=> ?_) (fun _=> ?_)
   |refine w_cn (decide_eq_true ⟨?_,Int.lt_of_lt_of_le (b:=256) ?_ (Int.le_of_eq (by kernel_rfl))⟩) ?_
   |exact trivial
   |refine w_lf ?_)
 all_goals(first
   |trivial
   |exact(Zat _).1
   |exact(Zat _).2
   |(simp only[decide_eq_true_eq,decide_eq_false_iff_not]at*;simp at s16 s8 s24;omega))
structure okS(P:Nat)(m:Q00):Prop where
 cpu:Q3j m.Cpu
 mem:Q1d P m.Mem
 disk:Q6d m.Disk
 nic:Qfw m.Nic
 target:U m.Balloon.Target
 given:U m.Balloon.Given
theorem mayP_w{m:Q00}(h:U m.Balloon.Given):(Q3w m).w (fun _=>True):=by
 have b: ∀x,(Q2u m.Balloon x).w (fun _=>True):=fun x=>by
   unfold Q2u
   exact Q0l (len32_w h) fun _ _=>trivial
 have d:(Q1a m).w (fun _=>True):=by
   unfold Q1a
   exact w_lv fun _ _=>w_lv fun _ _=>w_br (fun _=>w_lv fun _ _=>w_br (fun _=>w_lv fun _ _=>w_br (fun _=>w_lv fun _ _=>w_br (fun _=>Q0l (b _) fun _ _=>trivial) (fun _=>trivial)) (fun _=>trivial)) (fun _=>trivial)) (fun _=>trivial)
 unfold Q3w
 repeat'(first
   |refine w_br (fun _=> ?_) (fun _=> ?_)
   |exact Q0l d fun _ _=>trivial
   |refine w_lv fun _ _=> ?_
   |exact trivial)
end Go.Proofs.YtdkiadhigcfmkaaGreat
namespace Go.Proofs.YtdkiadhigcfmkaaGreat
open Go Go.GD
set_option linter.unusedVariables false
set_option linter.unusedSimpArgs false
theorem Qk0{P:Nat}{m:List Int}(h:Q1d P m):Q2j m=P:=by
 obtain⟨h1,h2,h3,_⟩:=h
 simp only[Q2j,Qij,Tree.m]
 have e:(m.length:Int)=32*P:=by omega
 rw[e]
 have e1:(Int.tmod (32*(P:Int)) 32 !=0)=false:=by simp [Int.mul_tmod_right]
 have e2:decide ((32*(P:Int))>1024)=false:=decide_eq_false (by omega)
 rw[e1,e2]
 simp only[cond_false]
 rw[Int.mul_tdiv_cancel_left _ (by decide),IntKind.wrap_i64];omega
theorem Qlu{P:Nat}{m:List Int}(h:Q1d P m){f:Int}(hf:U f):Q1j m f=decide (f<P):=by
 have:=Qk0 h
 obtain⟨h1,h2⟩:=hf
 have h3:=h.p2
 simp only[Q1j,Qcz,Tree.m,letv,this]
 congr 1
 rw[IntKind.wrap_u64,IntKind.wrap_u64,Int.emod_eq_of_lt h1 (by omega),Int.emod_eq_of_lt (by omega) (by omega)]
theorem copy_w{P:Nat}{m:List Int}(h:Q1d P m):(Q5e m).w (fun r=>r=m):=by
 obtain⟨h1,h2,h3,_⟩:=h
 unfold Q5e
 refine w_cn ?_ ?_
 · simp [Nat.blt,D.plain];omega
 · show _=_
   simp
theorem put_w{P:Nat}{m:List Int}(h:Q1d P m){addr size v:Int}(ha:U addr)(hl:addr<4*m.length)(hv:U v):(Qby m addr size v).w (Q1d P):=by
 obtain⟨h1,h2,h3,h4⟩:=h
 obtain⟨a1,a2⟩:=ha
 have e:IntKind.wrap IntKind.u32 (Int.tdiv addr 4)=addr/4:=by rw[IntKind.wrap_u32,Int.tdiv_eq_ediv_of_nonneg a1];omega
 have hc:(Nat.beq 1 1&&Nat.blt 0 1&&decide (0≤IntKind.wrap IntKind.u32 (Int.tdiv addr 4)∧IntKind.wrap IntKind.u32 (Int.tdiv addr 4)<(m.length:Int)))=true:=by
   rw[e];simp [Nat.blt];omega
 have h0: ∀x,decide (0≤IntKind.wrap IntKind.u32 x)=true:=fun x=>decide_eq_true (Q17 x).1
 have hs: ∀i v,U v→Q1d P (m.set i v):=fun i v hv=>⟨by simp [h1],h2,h3,Qyg h4 hv i⟩
 unfold Qby
 exact w_br (fun _=>w_cn hc (hs _ _ hv)) (fun _=>w_cn hc (w_cn (h0 _) (w_cn (h0 _) (w_cn hc (hs _ _ (U_or _ _))))))
theorem fill_w{P:Nat}{m:List Int}(h:Q1d P m){frame:Int}(f0:0≤frame)(f1:frame<P)(s:List UInt8):(Q5f m frame s).w (Q1d P):=by
 unfold Q5f
 have h3:=h.p2
 refine w_lp (inv:=fun z=>0≤z.1∧z.1≤128∧Q1d P z.2) (μ:=Qca m frame s) ⟨by omega,by omega,h⟩ (Nat.lt_succ_self _) (fun v0 hv0=> ?_)
 obtain⟨i0,i1,hm⟩:=hv0
 refine w_br (fun h1=>w_br (fun h2=>w_cn ?_ ?_) (fun _=>hm)) (fun _=>hm)
 · have:=of_decide_eq_true h1
   simp [Nat.blt];omega
 · have h2:=of_decide_eq_true h2
   have e:IntKind.wrap IntKind.u32 (IntKind.wrap IntKind.i64 (IntKind.wrap IntKind.i64 (frame*128)+v0.1))=frame*128+v0.1:=by
     rw[IntKind.wrap_u32,IntKind.wrap_i64,IntKind.wrap_i64];omega
   rw[e]
   obtain⟨g1,g2⟩:=Tree.pp (put_w hm (size:=1) (addr:=frame*128+v0.1) ⟨by omega,by omega⟩ (by rw[hm.len];omega) (Q17 (UInt8.toNat (List.getD s (Int.toNat v0.1) 0))))
   refine w_an g1 (w_lv fun x0 hx0=> ?_)
   rw[hx0]
   have ew:IntKind.i64.wrap (v0.1+1)=v0.1+1:=by rw[IntKind.wrap_i64];omega
   refine w_nx ?_
   show(0≤IntKind.i64.wrap (v0.1+1)∧IntKind.i64.wrap (v0.1+1)≤128∧Q1d P _)∧(128-IntKind.i64.wrap (v0.1+1)).toNat<(128-v0.1).toNat
   rw[ew]
   exact⟨⟨by omega,by omega,g2⟩,by omega⟩
theorem Zap{P:Nat}{m:List Int}(h:Q1d P m){d:Q0b}(hd:Q6d d)(e:Q0d):(Q5w d m e).w (fun r=>Q6d r.1∧Q1d P r.2.2):=by
 have fl:Q1j m d.OpFrame=true→(Q5f m (IntKind.i64.wrap d.OpFrame) e.Data).w (Q1d P):=fun hp=>by
   rw[Qlu h hd.opFrame]at hp
   have:=of_decide_eq_true hp
   have h1:=hd.opFrame.1
   have h3:=h.p2
   have ew:IntKind.i64.wrap d.OpFrame=d.OpFrame:=by rw[IntKind.wrap_i64];omega
   rw[ew]
   exact fill_w h h1 this _
 have l0:Q6d d∧Q1d P m:=⟨hd,h⟩
 have l1: ∀st,Q6d {Blocks:=d.Blocks,Block:=d.Block,Frame:=d.Frame,State:=st,Cmd:=0,OpBlock:=0,OpFrame:=0,OpData:=[]}:=fun st=>⟨hd.block,hd.frame,U_0,U_0⟩
 unfold Q5w
 repeat'(first
   |exact l0
   |exact⟨l1 _,h⟩
   |refine w_br (fun _=> ?_) (fun _=> ?_)
   |refine w_lv (fun _ _=> ?_))
 all_goals(
   first
     | (have hp:Q1j m d.OpFrame=true:=by simp_all
        obtain⟨g1,g2⟩:=Tree.pp (fl hp)
        refine w_an g1 (w_lv fun x hx=> ?_)
        rw[hx]
        exact w_br (fun _=>⟨l1 _,g2⟩) (fun _=>⟨l1 _,g2⟩))
     |(exfalso;simp_all;done))
end Go.Proofs.YtdkiadhigcfmkaaGreat
namespace Go.Proofs.YtdkiadhigcfmkaaGreat
open Go Go.GD
set_option linter.unusedVariables false
set_option linter.unusedSimpArgs false
set_option maxRecDepth 100000
section
variable {c:Q03} (h:Q3j c)
include h
theorem Qvj(k:Int){b:Int}(hb:U b):Q3j (Q5n c k b):=by
 refine(Tree.post (Qg9 c k b) (W:=Q3j) ?_)
 unfold Qg9
 refine w_lv fun _ _=>w_lv fun _ _=>⟨h.x,h.a1,?_⟩
 intro w hw
 simp only[A8.l,List.mem_cons,List.not_mem_nil,or_false]at hw
 rcases hw with rfl|rfl|rfl|rfl|rfl|rfl|rfl|rfl
 · exact U_or _ _
 · exact h.a1
 · exact h.pc
 · exact Q17 _
 · exact hb
 · exact h.a5
 · exact h.a6
 · exact h.a7
theorem return_w:Q3j (Qlg c):=by
 refine(Tree.post (Qbw c) (W:=Q3j) ?_)
 unfold Qbw
 refine w_lv fun _ _=>w_lv fun _ _=>⟨h.x,h.a2,?_⟩
 intro w hw
 simp only[A8.l,List.mem_cons,List.not_mem_nil,or_false]at hw
 rcases hw with rfl|rfl|rfl|rfl|rfl|rfl|rfl|rfl
 · exact U_or _ _
 · exact h.a1
 · exact h.a2
 · exact h.a3
 · exact h.a4
 · exact h.a5
 · exact h.a6
 · exact h.a7
theorem Qyy(r:Int){v:Int}(hv:U v):(Qfd c r v).w Q3j:=by
 unfold Qfd
 refine w_br (fun h1=>w_br (fun h2=>w_cn ?_ ⟨okX_set h.x hv _,h.pc,h.csr⟩) (fun _=>h)) (fun _=>h)
 have h1:=of_decide_eq_true h1
 have h2:=of_decide_eq_true h2
 simp [Nat.blt];omega
theorem write_w(k:Int){v:Int}(hv:U v):(Qam c k v).w Q3j:=by
 have ok: ∀i v,U v→Q3j {X:=c.X,Pc:=c.Pc,Csr:=A8.of 0 (List.set (A8.l c.Csr) i v)}:=fun i v hv=>⟨h.x,h.pc,Qvk h.csr hv i⟩
 unfold Qam
 repeat'(first
   |exact h
   |exact ok _ _ (Q17 _)
   |exact ok _ _ hv
   |refine w_br (fun hk=> ?_) (fun _=> ?_)
   |refine w_cn (by rw[eq_of_beq (by assumption:(k==_)=true)];decide) ?_)
end
section
variable {P:Nat} {m:List Int} (h:Q1d P m)
include h
theorem Z3(a:Int){size:Int}(hs:size=1∨size=4):(Q8n m a size).w (fun b=>b=true→a<128*P):=by
 have hp:=Qk0 h
 have h2:=h.p2
 have e:decide (IntKind.wrap IntKind.u32 size≠0)=true:=by rcases hs with rfl|rfl<;>decide
 have l: ∀x,x=Q2j m→decide (a<IntKind.wrap IntKind.u32 (IntKind.wrap IntKind.i64 (128*x)))=true→a<128*P:=fun x hx hd=>by
   rw[hx,hp,IntKind.wrap_u32,IntKind.wrap_i64]at hd
   have:=of_decide_eq_true hd
   omega
 unfold Q8n
 refine w_br (fun _=>w_br (fun _=>fun h=>by cases h) (fun _=> ?_)) (fun _=> ?_)<;>
 exact w_cn e (w_br (fun _=>w_lv fun x hx=>l x hx) (fun _=>fun h=>by cases h))
theorem idx{a:Int}(ha:U a)(hl:a<128*P):(Nat.beq 1 1&&Nat.blt 0 1&&decide (0≤IntKind.wrap IntKind.u32 (Int.tdiv a 4)∧IntKind.wrap IntKind.u32 (Int.tdiv a 4)<(m.length:Int)))=true:=by
 obtain⟨a1,a2⟩:=ha
 have e:IntKind.wrap IntKind.u32 (Int.tdiv a 4)=a/4:=by rw[IntKind.wrap_u32,Int.tdiv_eq_ediv_of_nonneg a1];omega
 have:=h.len
 rw[e];simp [Nat.blt];omega
theorem Zbj{a:Int}(ha:U a){size:Int}(hs:size=1∨size=4):(Qc8 m a size).w (fun r=>U r.1):=by
 obtain⟨g1,g2⟩:=Tree.pp (Z3 h a hs)
 unfold Qc8
 refine w_an g1 (w_lv fun x hx=>w_br (fun _=>U_0) (fun hb=> ?_))
 have hb:x=true:=by simpa using hb
 have hl:=g2 (hx.symm.trans hb)
 refine w_cn (idx h ha hl) (w_br (fun _=>w_cn (decide_eq_true (Q17 _).1) (Q17 _)) (fun _=>Ql1 h.u _))
theorem mark_w{a:Int}(ha:U a)(access:Int):(Qco m a access).w (Q1d P):=by
 obtain⟨g1,g2⟩:=Tree.pp (Z3 h a (size:=4) (.inr rfl))
 have hs: ∀{m:List Int} i v,Q1d P m→U v→Q1d P (m.set i v):=fun i v h hv=>⟨by simp [h.len],h.p1,h.p2,Qyg h.u hv i⟩
 unfold Qco
 refine w_an g1 (w_lv fun x hx=>w_br (fun _=>h) (fun hb=> ?_))
 have hb:x=true:=by simpa using hb
 have hl:=g2 (hx.symm.trans hb)
 have i0:=idx h ha hl
 have h':=hs (Int.toNat (IntKind.wrap IntKind.u32 (Int.tdiv a 4))) (ior IntKind.u32 (List.getD m (Int.toNat (IntKind.wrap IntKind.u32 (Int.tdiv a 4))) 0) 8) h (U_or _ _)
 have i1:=idx h' ha hl
 exact w_cn i0 (w_cn i0 (w_br (fun _=>w_cn i1 (w_cn i1 (hs _ _ h' (U_or _ _)))) (fun _=>h')))
theorem walk_w{root va:Int}(hr:U root)(hv:U va)(access:Int):(Q9d m root va access).w (fun t=>U t.Addr∧U t.Entry∧(t.Cause=0→t.Addr<128*P)):=by
 have hp:=Qk0 h
 have h2:=h.p2
 have hlen:=h.len
 obtain⟨r1,r2⟩:=hr
 obtain⟨v1,v2⟩:=hv
 unfold Q9d
 refine w_lv fun x0 hx0=>w_lv fun x1 hx1=>w_lv fun x2 _=> ?_
 have hc:x0≠0:=by
   rw[hx0]
   simp only[Q7k,Q9s,Tree.m]
   cases access==1<;>cases access==3<;>simp
 rw[hp]at hx1
 have bad:U (0:Int)∧U (0:Int)∧(x0=0→(0:Int)<128*P):=⟨U_0,U_0,fun e=>absurd e hc⟩
 refine w_br (fun _=>bad) (fun _=>w_br (fun _=>bad) (fun hva=>w_br (fun _=>bad) (fun hro=> ?_)))
 have hva:=of_decide_eq_false hva
 have hro:=of_decide_eq_false hro
 have e1:IntKind.wrap IntKind.u32 x1=P:=by rw[hx1,IntKind.wrap_u32];omega
 rw[e1]at hro
 have e2:IntKind.wrap IntKind.u32 (IntKind.wrap IntKind.u32 (root*128)+IntKind.wrap IntKind.u32 (4*IntKind.wrap IntKind.u32 (Int.tdiv va 128)))=root*128+4*(va/128):=by
   rw[Int.tdiv_eq_ediv_of_nonneg v1,IntKind.wrap_u32,IntKind.wrap_u32,IntKind.wrap_u32,IntKind.wrap_u32];omega
 have hU:U (IntKind.wrap IntKind.u32 (IntKind.wrap IntKind.u32 (root*128)+IntKind.wrap IntKind.u32 (4*IntKind.wrap IntKind.u32 (Int.tdiv va 128)))):=Q17 _
 have ci:=idx h hU (by rw[e2];omega)
 have good: ∀w:Int,decide (iand IntKind.u32 w 255≥IntKind.wrap IntKind.u32 x1)=false→(U (IntKind.wrap IntKind.u32 (IntKind.wrap IntKind.u32 (iand IntKind.u32 w 255*128)+Int.tmod va 128))∧U (IntKind.wrap IntKind.u32 (IntKind.wrap IntKind.u32 (root*128)+IntKind.wrap IntKind.u32 (4*IntKind.wrap IntKind.u32 (Int.tdiv va 128))))∧((0:Int)=0→IntKind.wrap IntKind.u32 (IntKind.wrap IntKind.u32 (iand IntKind.u32 w 255*128)+Int.tmod va 128)<128*P)):=fun w hw=>by
   have hw:=of_decide_eq_false hw
   rw[e1]at hw
   have hn:=(Qhb w 255).1
   refine⟨Q17 _,Q17 _,fun _=> ?_⟩
   rw[Int.tmod_eq_emod_of_nonneg v1,IntKind.wrap_u32,IntKind.wrap_u32]
   generalize iand IntKind.u32 w 255=q at*
   omega
 refine w_cn ci ?_
 repeat'(first
   |exact bad
   |exact good _ (by assumption)
   |refine w_br (fun _=> ?_) (fun _=> ?_)
   |refine w_cn ci ?_)
theorem Z8w{c:Q03}(hc:Q3j c){va:Int}(hv:U va){size:Int}(hs:size=1∨size=4)(access:Int):(Qaf c m va size access).w (fun r=>Q1d P r.2.2∧U r.1∧(r.2.1=0→r.1<128*P)):=by
 have e:decide (IntKind.wrap IntKind.u32 size≠0)=true:=by rcases hs with rfl|rfl<;>decide
 obtain⟨g1,g2⟩:=Tree.pp (Z3 h va hs)
 obtain⟨k1,k2⟩:=Tree.pp (walk_w h hc.a6 hv access)
 have bad: ∀k:Int,k≠0→Q1d P m∧U (0:Int)∧(k=0→(0:Int)<128*P):=fun k hk=>⟨h,U_0,fun e=>absurd e hk⟩
 have hca:Q7k access≠0:=by
   simp only[Q7k,Q9s,Tree.m]
   cases access==1<;>cases access==3<;>simp
 unfold Qaf
 refine w_lv fun x0 _=>w_br (fun _=>bad 5 (by decide)) (fun _=>w_br (fun h1=>w_br (fun h2=> ?_) (fun _=> ?_)) (fun _=> ?_))
 · exact bad 5 (by decide)
 all_goals(
   refine w_cn e (w_br (fun _=>bad 3 (by decide)) (fun _=>w_lv fun x1 _=>w_br (fun _=>w_an g1 (w_lv fun x2 hx2=>w_br (fun _=>w_lv fun x3 hx3=>bad x3 (by rw[hx3];exact hca)) (fun hb=> ?_))) (fun _=>w_an k1 (w_lv fun x4 hx4=>w_br (fun hb=> ?_) (fun hb=> ?_)))))
   · have hb:x2=true:=by simpa using hb
     exact⟨h,hv,fun _=>g2 (hx2.symm.trans hb)⟩
   · exact bad _ (by simpa using hb)
   · obtain⟨t1,t2,t3⟩:=k2
     rw[show(Q9d m c.Csr.a6 va access).m=x4 from hx4.symm]at t1 t2 t3
     obtain⟨m1,m2⟩:=Tree.pp (mark_w h t2 access)
     refine w_an m1 (w_lv fun x5 hx5=> ?_)
     exact⟨hx5▸m2,t1,fun _=>t3 (by simpa using hb)⟩)
end
end Go.Proofs.YtdkiadhigcfmkaaGreat
namespace Go.Proofs.YtdkiadhigcfmkaaGreat
open Go Go.GD
set_option linter.unusedVariables false
set_option linter.unusedSimpArgs false
set_option maxRecDepth 100000
theorem reg_ok{r:Int}(h:Q6 r=true):0≤r∧r<16:=by
 simp only[Q6,Qck,Tree.m]at h
 cases h1:decide (r≥0)<;>rw[h1]at h
 · cases h
 · have h1:=of_decide_eq_true h1
   have h:=of_decide_eq_true h
   omega
theorem valid_ok{i:Q0i}(hi:IntKind.wrap .i64 i.Imm=i.Imm)(h:Q7n i=true):Ql7 i:=by
 have no:false=true→Ql7 i:=fun h=>by cases h
 refine(Tree.post (Qe i) (W:=fun b=>b=true→Ql7 i) ?_) h
 unfold Qe
 refine w_lv fun x0 h0=>w_br (fun _=>no) (fun _=>w_lv fun x1 h1=>w_br (fun _=>no) (fun b1=>w_lv fun x2 h2=>w_br (fun _=>no) (fun b2=>w_lv fun x3 h3=>w_br (fun _=>no) (fun b3=>w_lv fun x4 h4=>w_br (fun _=>no) (fun b4=>w_br (fun _=>no) (fun b5=> ?_))))))
 have b1:x1=true:=by simpa using b1
 have b2:x2=true:=by simpa using b2
 have b3:x3=true:=by simpa using b3
 have b4:=of_decide_eq_false b4
 have b5:=of_decide_eq_false b5
 rw[hi]at b4 b5
 have ok:Ql7 i:=⟨reg_ok (h1.symm.trans b1),reg_ok (h2.symm.trans b2),reg_ok (h3.symm.trans b3),fun e=>by
   rw[e]at h0
   have h0:x0=8:=h0
   subst h0
   have h4:x4=(0,7):=h4
   subst h4
   simp at b4 b5;omega⟩
 repeat'(first
   |exact fun _=>ok
   |exact no
   |refine w_br (fun _=> ?_) (fun _=> ?_))
theorem decode_w(w:Int):(Qb9 w).w (fun r=>r.2=true→Ql7 r.1):=by
 have no: ∀{p:Prop},false=true→p:=fun h=>by cases h
 have e: ∀x,IntKind.wrap .i64 (IntKind.wrap .i32 x)=IntKind.wrap .i32 x:=fun x=>by rw[IntKind.wrap_i64,IntKind.wrap_i32];omega
 have ok: ∀i,IntKind.wrap .i64 i.Imm=i.Imm→ ∀x,x=Q7n i→(!x)=false→true=true→Ql7 i:=fun i hi x hx hb _=>valid_ok hi (hx.symm.trans (by simpa using hb))
 unfold Qb9
 refine w_lv fun x0 _=> ?_
 have l: ∀i,IntKind.wrap .i64 i.Imm=i.Imm→(Tree.lv (Q7n i) fun x=> .br (!x) (.lf ((⟨0,0,0,0,0⟩:Q0i),false)) (.lf (i,true))).w (fun r=>r.2=true→Ql7 r.1):=fun i hi=>w_lv fun x hx=>w_br (fun _=>no) (fun hb=>ok i hi x hx hb)
 refine w_br (fun _=>no) (fun _=>w_br (fun _=>l _ rfl) (fun _=>w_br (fun _=>l _ (e _)) (fun _=>w_br (fun _=>l _ (e _)) (fun _=>l _ (e _)))))
theorem bit_w(b:Bool):U (Qe3 b):=by cases b<;>exact⟨by decide,by decide⟩
theorem Zaq{a b:Int}(ha:U a)(hb:U b):(Q8h a b).w (fun r=>U r.1∧U r.2):=by
 unfold Q8h
 refine w_br (fun _=>⟨⟨by omega,by omega⟩,ha⟩) (fun h=> ?_)
 have h: ¬b=0:=by simpa using h
 obtain⟨b1,b2⟩:=hb
 have hc:decide (IntKind.wrap IntKind.i64 (IntKind.wrap IntKind.i32 b)≠0)=true:=decide_eq_true (by rw[IntKind.wrap_i64,IntKind.wrap_i32];omega)
 exact w_cn hc (w_cn hc ⟨Q17 _,Q17 _⟩)
theorem alu_w(op:Int){a b:Int}(ha:U a)(hb:U b):(Qfo op a b).w (fun r=>U r.1):=by
 unfold Qfo
 refine w_lv fun x0 _=> ?_
 repeat'(first
   |exact Q17 _
   |exact U_shr ha _
   |exact U_0
   |refine w_br (fun _=> ?_) (fun _=> ?_)
   |exact Q0l (Zaq ha hb) fun x hx=>hx.1
   |exact Q0l (Zaq ha hb) fun x hx=>hx.2
   |exact w_lv fun x hx=>(by rw[hx];exact bit_w _))
theorem signext_w{x:Int}(hx:U x):(Q4f x 8).w U:=by
 unfold Q4f
 have h0:decide (0≤IntKind.wrap IntKind.u64 8)=true:=by decide
 refine w_br (fun h=>absurd h (by decide)) fun _=>w_br (fun h=>absurd h (by decide)) fun _=>w_cn h0 (w_cn (by decide) (w_br (fun _=>w_cn h0 (U_or _ _)) (fun _=>Qhb _ _)))
section
variable {c:Q03} (h:Q3j c) {i:Q0i} (hi:Ql7 i)
include h hi
theorem system_w:(Q8l c i).w (fun r=>Q3j r.1∧U r.2.Value):=by
 unfold Q8l
 refine w_br (fun _=>w_lv fun x hx=>⟨hx▸Qvj h _ U_0,U_0⟩) (fun _=>w_br (fun _=>w_lv fun x hx=>⟨hx▸return_w h,U_0⟩) (fun _=>w_br (fun e=>w_cn ?_ (Q0l (Qyy h _ (h.a _)) fun x hx=>⟨hx.pcs (Q17 _),U_0⟩)) (fun _=>w_br (fun _=>w_cn (rc hi.a) (Q0l (write_w h _ (h.r _)) fun x hx=>⟨hx.pcs (Q17 _),U_0⟩)) (fun _=> ?_))))
 · have:=hi.csr (by simpa using e)
   simp [Nat.blt];omega
 · have k:=h.pcs (Q17 (c.Pc+4))
   repeat'(first
     |exact⟨k,U_0⟩
     |exact⟨k,h.r _⟩
     |refine w_br (fun _=> ?_) (fun _=> ?_)
     |refine w_cn (rc hi.a) ?_)
theorem jump_w:(Qcg c i).w Q3j:=by
 unfold Qcg
 exact w_br (fun _=>Q0l (Qyy h _ (Q17 _)) fun x hx=>hx.pcs (Q17 _)) (fun _=>w_br (fun _=>w_cn (rc hi.b) (Q0l (Qyy h _ (Q17 _)) fun x hx=>hx.pcs (Q17 _))) (fun _=>w_cn (rc hi.a) (w_cn (rc hi.b) (w_lv fun x _=>w_br (fun _=>h.pcs (Q17 _)) (fun _=>h.pcs (Q17 _))))))
theorem Zdi{P:Nat}{m:List Int}(hm:Q1d P m):(Q5s c m i).w (fun r=>Q3j r.1∧Q1d P r.2):=by
  unfold Q5s
  refine w_cn (rc hi.b) ?_
  have e1:(1:Int)=1∨(1:Int)=4:= .inl rfl
  have e4:(4:Int)=1∨(4:Int)=4:= .inr rfl
  repeat'(first
    |refine w_br (fun _=> ?_) (fun _=> ?_)
    | (refine Q0l (Z8w hm h (Q17 _) e4 _) fun x hx=> ?_
       obtain⟨m1,m2,m3⟩:=hx
       refine w_br (fun _=>w_lv fun y hy=>⟨hy▸Qvj h _ (Q17 _),m1⟩) (fun hb=> ?_)
       have m3:=m3 (by simpa using hb)
       have m4:x.1<4*x.2.2.length:=by rw[m1.len];omega
       clear hb)
    | (refine Q0l (Z8w hm h (Q17 _) e1 _) fun x hx=> ?_
       obtain⟨m1,m2,m3⟩:=hx
       refine w_br (fun _=>w_lv fun y hy=>⟨hy▸Qvj h _ (Q17 _),m1⟩) (fun hb=> ?_)
       have m3:=m3 (by simpa using hb)
       have m4:x.1<4*x.2.2.length:=by rw[m1.len];omega
       clear hb)
    |exact w_cn (rc hi.a) (Q0l (put_w (by assumption) (by assumption) (by assumption) (h.r _)) fun y hy=>⟨h.pcs (Q17 _),hy⟩)
    |(refine Q0l (Zbj (by assumption) (by assumption) e4) fun y hy=> ?_)
    |(refine Q0l (Zbj (by assumption) (by assumption) e1) fun y hy=> ?_)
    |exact Q0l (signext_w (by assumption)) fun z hz=>Q0l (Qyy h _ hz) fun u hu=>⟨hu.pcs (Q17 _),by assumption⟩
    |exact Q0l (Qyy h _ (by assumption)) fun u hu=>⟨hu.pcs (Q17 _),by assumption⟩)
end
theorem do_w{c:Q03}(h:Q3j c){P:Nat}{m:List Int}(hm:Q1d P m):(Qi9 c m).w (fun r=>Q3j r.1∧U r.2.1.Value∧Q1d P r.2.2):=by
 unfold Qi9
 refine Q0l (Z8w hm h h.pc (.inr rfl) 1) fun x0 hx=> ?_
 obtain⟨m1,m2,m3⟩:=hx
 refine w_br (fun _=>w_lv fun y hy=>⟨hy▸Qvj h _ h.pc,U_0,m1⟩) (fun hb=> ?_)
 refine Q0l (Zbj m1 m2 (.inr rfl)) fun x2 h2=>Zbd (decode_w _) fun x3 h3=>w_br (fun _=>w_lv fun y hy=>⟨hy▸Qvj h _ h2,U_0,m1⟩) (fun b3=> ?_)
 have hi:=h3 (by simpa using b3)
 refine w_lv fun x5 _=> ?_
 repeat'(first
   |refine w_br (fun _=> ?_) (fun _=> ?_)
   |exact w_lv fun y hy=>⟨hy▸Qvj h _ h2,U_0,m1⟩
   |exact Q0l (system_w h hi) fun y hy=>⟨hy.1,hy.2,m1⟩
   |exact Q0l (jump_w h hi) fun y hy=>⟨hy,U_0,m1⟩
   |exact Q0l (Zdi h hi m1) fun y hy=>⟨hy.1,U_0,hy.2⟩
   |exact Q0l (Qyy h _ (Q17 _)) fun y hy=>⟨hy.pcs (Q17 _),U_0,m1⟩
   |refine w_cn (rc hi.c) ?_
   |refine w_cn (rc hi.b) ?_
   |exact Q0l (alu_w _ (h.r _) (h.r _)) fun y hy=>Q0l (Qyy h _ hy) fun z hz=>⟨hz.pcs (Q17 _),U_0,m1⟩
   |exact Q0l (alu_w _ (h.r _) (Q17 _)) fun y hy=>Q0l (Qyy h _ hy) fun z hz=>⟨hz.pcs (Q17 _),U_0,m1⟩)
end Go.Proofs.YtdkiadhigcfmkaaGreat
namespace Go.Proofs.YtdkiadhigcfmkaaGreat
open Go Go.GD
set_option linter.unusedVariables false
set_option linter.unusedSimpArgs false
set_option maxRecDepth 100000
theorem and1{q:Int}(h:U q):iand .u32 q 1=q%2:=by
 obtain⟨h1,h2⟩:=h
 unfold iand
 rw[IntKind.wrap_u32]
 have e1:(BitVec.ofInt 32 q).toNat=q.toNat:=by rw[BitVec.toNat_ofInt];omega
 have e2:(BitVec.ofInt 32 1).toNat=1:=by decide
 have:(BitVec.ofInt IntKind.u32.bits q&&&BitVec.ofInt IntKind.u32.bits 1).toNat=q.toNat%2:=by
   show(BitVec.ofInt 32 q&&&BitVec.ofInt 32 1).toNat=_
   rw[BitVec.toNat_and,e1,e2,Nat.and_one_is_mod]
 rw[this];omega
theorem Z4y(b:Bool)(n:Int):(Qda b n).w (fun _=>True):=by
 unfold Qda
 exact w_br (fun _=>w_cn (decide_eq_true (by rw[IntKind.wrap_u64];omega)) trivial) (fun _=>trivial)
theorem lines_w(m:Q00):(Qao m).w (fun _=>True):=by
 unfold Qao
 exact w_lv fun _ _=>Q0l (Z4y _ _) fun _ _=>w_lv fun _ _=>Q0l (Z4y _ _) fun _ _=>w_lv fun _ _=>Q0l (Z4y _ _) fun _ _=>w_lv fun _ _=>Q0l (Z4y _ _) fun _ _=>w_lv fun _ _=>Q0l (Z4y _ _) fun _ _=>trivial
theorem Z5r(m:Q00):(Q6v m).w U:=by
 unfold Q6v
 exact Q0l (lines_w m) fun _ _=>Qhb _ _
theorem idle_w(m:Q00):(Qcp m).w (fun _=>True):=by
 unfold Qcp
 exact w_br (fun _=>Q0l (Z5r m) fun _ _=>trivial) (fun _=>trivial)
theorem Z9d(m:Q00):(Qak m).w (fun _=>True):=by
 unfold Qak
 exact w_lv fun _ _=>w_br (fun _=>trivial) (fun _=>w_br (fun _=>trivial) (fun _=>Q0l (idle_w m) fun _ _=>w_br (fun _=>trivial) (fun _=>trivial)))
theorem Qg7{m:Q00}(h:Q3j m.Cpu):(Q3s m).w Q3j:=by
 unfold Q3s
 refine Q0l (Z5r m) fun x0 hx=>w_br (fun _=>h) (fun _=>w_br (fun _=>h) (fun hb=> ?_))
 have hb:x0≠0:=by simpa using hb
 have sh: ∀z:Int,0≤z→z≤31→ishr .u32 x0 (IntKind.wrap .u64 z)=x0/2^z.toNat:=fun z h1 h2=>by
   unfold ishr
   have e:min (IntKind.wrap .u64 z).toNat IntKind.u32.bits=z.toNat:=by
     show min (IntKind.wrap .u64 z).toNat 32=z.toNat
     rw[IntKind.wrap_u64];omega
   rw[e,Int.fdiv_eq_ediv_of_nonneg _ (Int.le_of_lt (Int.pow_pos (by decide)))]
 refine w_lp (inv:=fun z=>0≤z∧z≤31∧x0/2^z.toNat≠0) (μ:=Q8t m) ⟨by omega,by omega,by simpa using hb⟩ (Nat.lt_succ_self _) (fun z hz=> ?_)
 obtain⟨z1,z2,z3⟩:=hz
 refine w_cn (decide_eq_true (by rw[IntKind.wrap_u64];omega)) (w_br (fun e=>w_nx ?_) (fun _=>w_lv fun y hy=>hy▸Qvj h _ U_0))
 have e:=eq_of_beq e
 have hq:=U_shr hx (IntKind.wrap .u64 z)
 rw[and1 hq,sh z z1 z2]at e
 rw[sh z z1 z2]at hq
 have hlt:x0/2^z.toNat/2≠0:=by omega
 have z4:z≤30:=by
   rcases Int.lt_or_le z 31 with h|h
   · omega
   · have:z=31:=by omega
     subst this
     have:=hx.2
     have:=hx.1
     simp at z3 e hlt
     omega
 show(0≤IntKind.i64.wrap (z+1)∧IntKind.i64.wrap (z+1)≤31∧x0/2^(IntKind.i64.wrap (z+1)).toNat≠0)∧(32-IntKind.i64.wrap (z+1)).toNat<(32-z).toNat
 have ew:IntKind.i64.wrap (z+1)=z+1:=by rw[IntKind.wrap_i64];omega
 rw[ew]
 refine⟨⟨by omega,by omega,?_⟩,by omega⟩
 have et:(z+1).toNat=z.toNat+1:=by omega
 rw[et,Int.pow_succ,←Int.ediv_ediv_of_nonneg (Int.le_of_lt (Int.pow_pos (by decide)))]
 exact hlt
theorem reads_w{P:Nat}{m:Q00}(h:Q3j m.Cpu)(hm:Q1d P m.Mem):(Qah m).w (fun _=>True):=by
 unfold Qah
 refine Q0l (Qg7 h) fun x0 hx=>w_br (fun _=>trivial) (fun _=>Q0l (Zbj hm hx.pc (.inr rfl)) fun x1 _=>w_lv fun x2 _=> ?_)
 exact w_br (fun _=>w_br (fun _=>w_br (fun _=>trivial) (fun _=>trivial)) (fun _=>trivial)) (fun _=>trivial)
theorem Qr8{P:Nat}{m:Q00}(h:Q3j m.Cpu)(hm:Q1d P m.Mem):(Q4o m).w (fun _=>True):=by
 unfold Q4o
 exact Q0l (Z9d m) fun _ _=>w_br (fun _=>trivial) (fun _=>Q0l (reads_w h hm) fun _ _=>trivial)
theorem Qgg(l:List Int):(bytesOf l).length=l.length:=by simp [bytesOf]
theorem Qzo(l:List UInt8):(Qad l).length=l.length:=by simp [Qad]
theorem low_w(x:Int):(Qbz x 4).w (fun r=>r.length=4):=by
 unfold Qbz
 refine w_lp (inv:=fun z=>0≤z.1∧z.1≤4∧(z.2.length:Int)=z.1) (μ:=Q9o x 4) ⟨by omega,by omega,rfl⟩ (Nat.lt_succ_self _) (fun z hz=> ?_)
 obtain⟨z1,z2,z3⟩:=hz
 refine w_br (fun h=>w_cn (decide_eq_true (by rw[IntKind.wrap_u64];omega)) (w_cn (decide_eq_true (by omega)) (w_nx ?_))) (fun h=> ?_)
 · have h:=of_decide_eq_true h
   show(0≤IntKind.i64.wrap (z.1+1)∧IntKind.i64.wrap (z.1+1)≤4∧((z.2++[_]).length:Int)=IntKind.i64.wrap (z.1+1))∧(4-IntKind.i64.wrap (z.1+1)).toNat<(4-z.1).toNat
   have ew:IntKind.i64.wrap (z.1+1)=z.1+1:=by rw[IntKind.wrap_i64];omega
   rw[ew]
   refine⟨⟨by omega,by omega,by simp;omega⟩,by omega⟩
 · have h:=of_decide_eq_false h
   show(bytesOf z.2).length=4
   rw[Qgg];omega
theorem page_w{P:Nat}{m:List Int}(hm:Q1d P m)(frame:Int):(Qdh m frame).w (fun r=>0≤frame→frame<P→r.1.length=128):=by
 have hp:=Qk0 hm
 have hl:=hm.len
 have h2:=hm.p2
 unfold Qdh
 refine w_br (fun h=>fun h0 _=>by have:=of_decide_eq_true h;omega) (fun h=>w_lv fun x0 hx=>w_br (fun h1=>fun _ h2=>by have:=of_decide_eq_true h1;rw[hx,hp]at this;omega) (fun h1=> ?_))
 have h:=of_decide_eq_false h
 have h1:=of_decide_eq_false h1
 rw[hx,hp]at h1
 refine w_lp (inv:=fun z=>0≤z.1∧z.1≤32∧(z.2.length:Int)=4*z.1) (μ:=Qig m frame) ⟨by omega,by omega,rfl⟩ (Nat.lt_succ_self _) (fun z hz=> ?_)
 obtain⟨z1,z2,z3⟩:=hz
 refine w_br (fun hb=> ?_) (fun hb=> ?_)
 · have hb:=of_decide_eq_true hb
   have e:IntKind.wrap IntKind.i64 (IntKind.wrap IntKind.i64 (frame*32)+z.1)=frame*32+z.1:=by rw[IntKind.wrap_i64,IntKind.wrap_i64];omega
   refine w_cn (by rw[e];simp [Nat.blt];omega) (w_an (show(4:Int)≤1000000000000 by decide) (Zbd (low_w _) fun x1 h4=>w_cn (decide_eq_true (by rw[Qzo,h4];omega)) (w_nx ?_)))
   show(0≤IntKind.i64.wrap (z.1+1)∧IntKind.i64.wrap (z.1+1)≤32∧((z.2++Qad x1).length:Int)=4*IntKind.i64.wrap (z.1+1))∧(32-IntKind.i64.wrap (z.1+1)).toNat<(32-z.1).toNat
   have ew:IntKind.i64.wrap (z.1+1)=z.1+1:=by rw[IntKind.wrap_i64];omega
   rw[ew,List.length_append,Qzo,h4]
   exact⟨⟨by omega,by omega,by omega⟩,by omega⟩
 · have hb:=of_decide_eq_false hb
   intro _ _
   show(bytesOf z.2).length=128
   rw[Qgg];omega
theorem Z7c{P:Nat}{m:List Int}(hm:Q1d P m){d:Q0b}(hd:Q6d d)(port:Int){v:Int}(hv:U v)(at0:Int):(Q6q d m port v at0).w (fun r=>Q6d r.1∧r.2.length≤1):=by
 have k: ∀st,Q6d {Blocks:=d.Blocks,Block:=d.Block,Frame:=d.Frame,State:=st,Cmd:=d.Cmd,OpBlock:=d.OpBlock,OpFrame:=d.OpFrame,OpData:=d.OpData}:=fun st=>⟨hd.block,hd.frame,hd.opBlock,hd.opFrame⟩
 have k2: ∀c o,Q6d {Blocks:=d.Blocks,Block:=d.Block,Frame:=d.Frame,State:=1,Cmd:=c,OpBlock:=d.Block,OpFrame:=d.Frame,OpData:=o}:=fun c o=>⟨hd.block,hd.frame,hd.block,hd.frame⟩
 have k3:Q6d {Blocks:=d.Blocks,Block:=v,Frame:=d.Frame,State:=d.State,Cmd:=d.Cmd,OpBlock:=d.OpBlock,OpFrame:=d.OpFrame,OpData:=d.OpData}:=⟨hv,hd.frame,hd.opBlock,hd.opFrame⟩
 have k4:Q6d {Blocks:=d.Blocks,Block:=d.Block,Frame:=v,State:=d.State,Cmd:=d.Cmd,OpBlock:=d.OpBlock,OpFrame:=d.OpFrame,OpData:=d.OpData}:=⟨hd.block,hv,hd.opBlock,hd.opFrame⟩
 unfold Q6q
 repeat'(first
   |refine w_br (fun _=> ?_) (fun _=> ?_)
   |exact Q0l (page_w hm _) fun _ _=>w_lv fun _ _=>⟨k2 _ _,Nat.le_refl _⟩
   |refine w_lv (fun _ _=> ?_)
   |refine w_lf ?_)
 all_goals(first
   |exact⟨hd,Nat.zero_le _⟩
   |exact⟨k _,Nat.zero_le _⟩
   |exact⟨k2 _ _,Nat.le_refl _⟩
   |exact⟨k3,Nat.zero_le _⟩
   |exact⟨k4,Nat.zero_le _⟩)
theorem Zar{P:Nat}{m:List Int}(hm:Q1d P m){n:Q0k}(hn:Qfw n)(port:Int){v:Int}(hv:U v)(at0:Int):(Q7u n m port v at0).w (fun r=>Qfw r.1∧r.2.length≤1):=by
 have k1:Qfw {Frame:=v,Len:=n.Len,Posted:=n.Posted,Buffer:=n.Buffer,Received:=n.Received,Got:=n.Got}:=⟨hv,hn.len,hn.buffer,hn.got⟩
 have k2:Qfw {Frame:=n.Frame,Len:=v,Posted:=n.Posted,Buffer:=n.Buffer,Received:=n.Received,Got:=n.Got}:=⟨hn.frame,hv,hn.buffer,hn.got⟩
 have k3:Qfw {Frame:=n.Frame,Len:=n.Len,Posted:=n.Posted,Buffer:=n.Buffer,Received:=false,Got:=0}:=⟨hn.frame,hn.len,hn.buffer,U_0⟩
 have k4: ∀p r,Qfw {Frame:=n.Frame,Len:=n.Len,Posted:=p,Buffer:=n.Frame,Received:=r,Got:=n.Got}:=fun p r=>⟨hn.frame,hn.len,hn.frame,hn.got⟩
 have send: ∀K:List UInt8×Bool→Tree (Q0k×List Q0a),Q1j m n.Frame=true→(∀x:List UInt8×Bool,x.1.length=128→(K x).w (fun r=>Qfw r.1∧r.2.length≤1))→(Tree.an (Qbj m (IntKind.wrap .i64 n.Frame)) (.lv (Qmd m (IntKind.wrap .i64 n.Frame)) K)).w (fun r=>Qfw r.1∧r.2.length≤1):=fun K hp hK=>by
   rw[Qlu hm hn.frame]at hp
   have hp:=of_decide_eq_true hp
   obtain⟨f1,f2⟩:=hn.frame
   have ew:IntKind.i64.wrap n.Frame=n.Frame:=by rw[IntKind.wrap_i64];omega
   exact Q0l (page_w hm _) fun x hx=>hK x (hx (by rw[ew];exact f1) (by rw[ew];exact hp))
 unfold Q7u
 repeat'(first
   |refine w_br (fun _=> ?_) (fun _=> ?_)
   |refine send _ (by simp_all) (fun x hx=>w_cn (by simp_all;exact hn.len.1) ?_)
   |refine w_lv (fun _ _=> ?_)
   |refine w_lf ?_)
 all_goals(first
   |exact⟨hn,Nat.zero_le _⟩
   |exact⟨hn,Nat.le_refl _⟩
   |exact⟨k1,Nat.zero_le _⟩
   |exact⟨k2,Nat.zero_le _⟩
   |exact⟨k3,Nat.zero_le _⟩
   |exact⟨k4 _ _,Nat.zero_le _⟩)
def okB(b:Q04):Prop:=U b.Target∧U b.Given
theorem give_w{P:Nat}{m:List Int}(hm:Q1d P m){b:Q04}(hb:okB b)(port:Int){v:Int}(hv:U v):(Qdb b m port v).w (fun r=>okB r.1∧Q1d P r.2):=by
 have hv0:decide (0≤v)=true:=decide_eq_true hv.1
 have h2:=hm.p2
 have rest:(Tree.br (port==11) (.br (decide (v<32)) (.cn (decide (0≤v)) (.lf (({Target:=b.Target,Given:=Qka .u32 b.Given (ishl .u32 1 v)}:Q04),m))) (.lf (b,m))) (.lf (b,m))).w (fun r=>okB r.1∧Q1d P r.2):=
   w_br (fun _=>w_br (fun _=>w_cn hv0 ⟨⟨hb.1,Q17 _⟩,hm⟩) (fun _=>⟨hb,hm⟩)) (fun _=>⟨hb,hm⟩)
 unfold Qdb
 refine w_br (fun _=>w_lv fun x0 hx=>w_br (fun hp=>w_cn hv0 (w_br (fun _=>w_cn hv0 ?_) (fun _=>rest))) (fun _=>rest)) (fun _=>rest)
 have hp:Q1j m v=true:=hx.symm.trans hp
 rw[Qlu hm hv]at hp
 have hp:=of_decide_eq_true hp
 obtain⟨v1,v2⟩:=hv
 refine w_lp (inv:=fun z=>0≤z.1∧z.1≤32∧Q1d P z.2) (μ:=Qjd b m port v) ⟨by omega,by omega,hm⟩ (Nat.lt_succ_self _) (fun z hz=> ?_)
 obtain⟨z1,z2,z3⟩:=hz
 have hl:=z3.len
 refine w_br (fun h=> ?_) (fun _=>⟨⟨hb.1,Q17 _⟩,z3⟩)
 have h:=of_decide_eq_true h
 have e:IntKind.wrap IntKind.i64 (IntKind.wrap IntKind.i64 (IntKind.wrap IntKind.i64 v*32)+z.1)=v*32+z.1:=by rw[IntKind.wrap_i64,IntKind.wrap_i64,IntKind.wrap_i64];omega
 refine w_cn (by rw[e];simp [Nat.blt];omega) (w_nx ?_)
 show(0≤IntKind.i64.wrap (z.1+1)∧IntKind.i64.wrap (z.1+1)≤32∧Q1d P (List.set _ _ _))∧(32-IntKind.i64.wrap (z.1+1)).toNat<(32-z.1).toNat
 have ew:IntKind.i64.wrap (z.1+1)=z.1+1:=by rw[IntKind.wrap_i64];omega
 rw[ew]
 exact⟨⟨by omega,by omega,⟨by simp [hl],z3.p1,z3.p2,Qyg z3.u U_0 _⟩⟩,by omega⟩
structure okM(P:Nat)(m:Q00):Prop where
 cpu:Q3j m.Cpu
 mem:Q1d P m.Mem
 disk:Q6d m.Disk
 nic:Qfw m.Nic
 target:okB m.Balloon
 cnt:0≤m.Count
theorem Qut(c:Q09)(port:Int):U (Q9j c port).2:=by
 refine Tree.post (Q3n c port) (W:=fun r=>U r.2) ?_
 have u1:U 4294967295:=⟨by omega,by omega⟩
 unfold Q3n
 refine w_br (fun _=>w_br (fun _=>u1) (fun h=>w_br (fun _=>w_cn ?_ (w_cn ?_ (Q17 _))) (fun _=>w_br (fun _=>Q17 _) (fun _=>U_0)))) (fun h1=>w_br (fun h=>(by rw[h1]at h;cases h)) (fun _=>w_br (fun _=>Q17 _) (fun _=>U_0)))
 · have h: ¬(c.Keys.length:Int)=0:=by simpa using h
   exact decide_eq_true ⟨by omega,by omega,by omega⟩
 · have h: ¬(c.Keys.length:Int)=0:=by simpa using h
   simp [Nat.blt];omega
theorem nicIn_w{n:Q0k}(h:Qfw n)(port:Int):U (Qjq n port):=by
 refine Tree.post (Qej n port) (W:=U) ?_
 have u1:U 1:=⟨by omega,by omega⟩
 unfold Qej
 exact w_br (fun _=>h.frame) (fun _=>w_br (fun _=>h.got) (fun _=>w_br (fun _=>w_br (fun _=>w_br (fun _=>Q17 _) (fun _=>u1)) (fun _=>w_br (fun _=>Q17 _) (fun _=>U_0))) (fun _=>U_0)))
theorem Zc6{d:Q0b}(h:Q6d d)(port:Int):U (Qgr d port):=by
 refine Tree.post (Qbi d port) (W:=U) ?_
 unfold Qbi
 exact w_br (fun _=>h.block) (fun _=>w_br (fun _=>h.frame) (fun _=>w_br (fun _=>Q17 _) (fun _=>U_0)))
theorem Z6a(t:Q0h):U (Qeu t):=by
 refine Tree.post (Q9v t) (W:=U) ?_
 unfold Q9v
 exact w_br (fun _=>⟨by omega,by omega⟩) (fun _=>U_0)
theorem Qwt{b:Q04}(h:U b.Target)(port:Int):U (Q9u b port):=by
 refine Tree.post (Q74 b port) (W:=U) ?_
 unfold Q74
 exact w_br (fun _=>h) (fun _=>w_br (fun _=>w_lv fun _ _=>Q17 _) (fun _=>U_0))
structure okR(P:Nat)(r:Q01):Prop where
 m:okM P r.Machine
 clock:U r.Clock
structure okL(P:Nat)(r x:Q01):Prop where
 ok:okR P x
 log:x.Log=r.Log
 queue:x.Queue=r.Queue
theorem w0(x:Int):0≤IntKind.u64.wrap x:=by rw[IntKind.wrap_u64];omega
section
variable {P:Nat} {r:Q01} (h:okR P r)
include h
theorem in_w(port:Int){clock:Int}(hc:U clock):(Qh2 r port clock).w (fun x=>U x.1∧okL P r x.2):=by
 have k:okL P r r:=⟨h,rfl,rfl⟩
 obtain⟨⟨h1,h2,h3,h4,h5,h7⟩,h6⟩:=h
 unfold Qh2
 exact w_br (fun _=>w_lv fun x hx=>⟨hx▸Qut _ _,⟨⟨⟨h1,h2,h3,h4,h5,h7⟩,h6⟩,rfl,rfl⟩⟩) (fun _=>w_br (fun _=>⟨hc,k⟩) (fun _=>w_br (fun _=>w_lv fun x hx=>⟨hx▸Z6a _,k⟩) (fun _=>w_br (fun _=>w_lv fun x hx=>⟨hx▸Zc6 h3 _,k⟩) (fun _=>w_br (fun _=>w_lv fun x hx=>⟨hx▸nicIn_w h4 _,k⟩) (fun _=>w_lv fun x hx=>⟨hx▸Qwt h5.1 _,k⟩)))))
theorem out_w(port:Int){v:Int}(hv:U v):(Qa5 r port v).w (fun x=>x.1.length≤1∧okL P r x.2):=by
 have k:okL P r r:=⟨h,rfl,rfl⟩
 obtain⟨⟨h1,h2,h3,h4,h5,h7⟩,h6⟩:=h
 unfold Qa5
 exact w_br (fun _=>⟨Nat.le_refl _,k⟩) (fun _=>w_br (fun _=>⟨Nat.zero_le _,k⟩) (fun _=>w_br (fun _=>w_lv fun _ _=>⟨Nat.zero_le _,⟨⟨⟨h1,h2,h3,h4,h5,h7⟩,h6⟩,rfl,rfl⟩⟩) (fun _=>w_br (fun _=>Q0l (Z7c h2 h3 _ hv _) fun x hx=>⟨hx.2,⟨⟨⟨h1,h2,hx.1,h4,h5,h7⟩,h6⟩,rfl,rfl⟩⟩) (fun _=>w_br (fun _=>Q0l (Zar h2 h4 _ hv _) fun x hx=>⟨hx.2,⟨⟨⟨h1,h2,h3,hx.1,h5,h7⟩,h6⟩,rfl,rfl⟩⟩) (fun _=>Q0l (give_w h2 h5 _ hv) fun x hx=>⟨Nat.zero_le _,⟨⟨⟨h1,hx.2,h3,h4,hx.1,h7⟩,h6⟩,rfl,rfl⟩⟩)))))
theorem Qok{clock:Int}(hc:U clock):(Q54 r clock).w (fun x=>x.1.length≤1∧okL P r x.2):=by
 obtain⟨⟨h1,h2,h3,h4,h5,h7⟩,h6⟩:=h
 unfold Q54
 refine Q0l (Qg7 h1) fun x0 c0=>Q0l (do_w c0 h2) fun x1 hx=> ?_
 obtain⟨c1,v1,m1⟩:=hx
 refine w_br (fun _=>Zbd (in_w (r:=⟨⟨_,_,_,_,_,_,_,_,_,_⟩,_,_,_⟩) ⟨⟨c1,m1,h3,h4,h5,h7⟩,h6⟩ _ hc) fun x2 hx=> ?_) (fun _=>w_br (fun _=>Q0l (out_w (r:=⟨⟨_,_,_,_,_,_,_,_,_,_⟩,_,_,_⟩) ⟨⟨c1,m1,h3,h4,h5,h7⟩,h6⟩ _ v1) fun x4 hx=> ?_) (fun _=> ?_))
 · obtain⟨u,⟨⟨⟨k1,k2,k3,k4,k5,k7⟩,k6⟩,e1,e2⟩⟩:=hx
   exact Q0l (Qyy k1 _ u) fun x3 h3=>⟨Nat.zero_le _,⟨⟨⟨h3,k2,k3,k4,k5,w0 _⟩,k6⟩,e1,e2⟩⟩
 · obtain⟨u,⟨⟨⟨k1,k2,k3,k4,k5,k7⟩,k6⟩,e1,e2⟩⟩:=hx
   exact⟨u,⟨⟨⟨k1,k2,k3,k4,k5,w0 _⟩,k6⟩,e1,e2⟩⟩
 · repeat'(first
     |exact⟨Nat.zero_le _,⟨⟨⟨c1,m1,h3,h4,h5,w0 _⟩,h6⟩,rfl,rfl⟩⟩
     |refine w_br (fun _=> ?_) (fun _=> ?_))
end
end Go.Proofs.YtdkiadhigcfmkaaGreat
namespace Go.Proofs.YtdkiadhigcfmkaaGreat
open Go Go.GD
set_option linter.unusedVariables false
set_option linter.unusedSimpArgs false
set_option maxRecDepth 100000
theorem type_w(c:Q09)(b:Int):(Qdn c b).w (fun _=>True):=by
 unfold Qdn
 refine w_br (fun _=>trivial) (fun h=>w_cn (decide_eq_true ?_) trivial)
 have h:=of_decide_eq_false h
 simp [maxLen];omega
theorem Zbi{P:Nat}{m:List Int}(hm:Q1d P m){n:Q0k}(hn:Qfw n)(frame:List UInt8):(Q6b n m frame).w (fun r=>Qfw r.1∧Q1d P r.2.2):=by
 unfold Q6b
 refine w_br (fun _=>⟨hn,hm⟩) (fun _=>w_br (fun _=>⟨hn,hm⟩) (fun _=>w_br (fun _=>⟨hn,hm⟩) (fun _=>w_lv fun x0 hx=>w_br (fun _=>⟨hn,hm⟩) (fun hb=> ?_))))
 have hp:Q1j m n.Buffer=true:=hx.symm.trans (by simpa using hb)
 rw[Qlu hm hn.buffer]at hp
 have hp:=of_decide_eq_true hp
 obtain⟨b1,b2⟩:=hn.buffer
 have ew:IntKind.i64.wrap n.Buffer=n.Buffer:=by rw[IntKind.wrap_i64];omega
 exact Q0l (fill_w hm (frame:=IntKind.i64.wrap n.Buffer) (by rw[ew];exact b1) (by rw[ew];exact hp) frame) fun x hx=>⟨⟨hn.frame,hn.len,U_0,Q17 _⟩,hx⟩
section
variable {P:Nat} {r:Q01} (h:okR P r)
include h
theorem apply_w{e:Q0d}(he:U e.N):(Q6w r e).w (fun x=>okL P r x.2):=by
 have k:okL P r r:=⟨h,rfl,rfl⟩
 obtain⟨⟨h1,h2,h3,h4,h5,h7⟩,h6⟩:=h
 unfold Q6w
 repeat'(first
   |exact k
   |exact⟨⟨⟨h1,h2,h3,h4,⟨he,h5.2⟩,h7⟩,h6⟩,rfl,rfl⟩
   |exact w_lv fun _ _=>⟨⟨⟨h1,h2,h3,h4,h5,h7⟩,h6⟩,rfl,rfl⟩
   |exact Q0l (type_w _ _) fun _ _=>⟨⟨⟨h1,h2,h3,h4,h5,h7⟩,h6⟩,rfl,rfl⟩
   |exact Q0l (Zap h2 h3 _) fun x hx=>⟨⟨⟨h1,hx.2,hx.1,h4,h5,h7⟩,h6⟩,rfl,rfl⟩
   |exact Q0l (Zbi h2 h4 _) fun x hx=>⟨⟨⟨h1,hx.2,h3,hx.1,h5,h7⟩,h6⟩,rfl,rfl⟩
   |refine w_br (fun _=> ?_) (fun _=> ?_))
theorem offer_w{e:Q0d}(he:U e.N)(hl:r.Log.length≤1000000):(Q80 r e).w (fun x=>okR P x∧x.Log.length≤r.Log.length+1∧x.Queue=r.Queue):=by
 have acc:(Q5o r e).w (fun x=>okL P r x.2):=by
   unfold Q5o
   exact Q0l (apply_w h he) fun x hx=>hx
 unfold Q80
 refine Q0l acc fun x hx=> ?_
 obtain⟨⟨k1,k2⟩,e1,e2⟩:=hx
 refine w_br (fun _=>w_cn (decide_eq_true (by rw[e1];omega)) ⟨⟨k1,k2⟩,by simp [e1],e2⟩) (fun _=>⟨⟨k1,k2⟩,by rw[e1];omega,e2⟩)
theorem own_w(hl:r.Log.length≤1000000)(hq:r.Queue.length≤1000000):(Qd2 r).w (fun x=>okR P x∧x.Log=r.Log∧x.Queue=r.Queue):=by
 have ow:(Q55 r.Machine).w (fun m=>okM P m):=by
   obtain⟨⟨h1,h2,h3,h4,h5,h7⟩,h6⟩:=h
   unfold Q55
   exact Q0l (copy_w h2) fun x hx=>⟨h1,by rw[hx];exact h2,h3,h4,h5,h7⟩
 unfold Qd2
 refine Q0l ow fun x hx=>w_cn (decide_eq_true (by simp;omega)) (w_cn (decide_eq_true (by simp;omega)) ⟨⟨hx,h.clock⟩,rfl,rfl⟩)
theorem arrive_w(e:Q0d)(hl:r.Log.length≤1000000)(hq:r.Queue.length≤16)(hu: ∀q∈r.Queue,U q.N)(he:U e.N):(Q6m r e).w (fun x=>okR P x.1∧x.1.Log=r.Log∧x.1.Queue.length≤16∧ ∀q∈x.1.Queue,U q.N):=by
 unfold Q6m
 refine Q0l (own_w h hl (by omega)) fun x hx=> ?_
 obtain⟨k1,k2,k3⟩:=hx
 have g:okR P x∧x.Log=r.Log∧x.Queue.length≤16∧ ∀q∈x.Queue,U q.N:=⟨k1,k2,by rw[k3];exact hq,by rw[k3];exact hu⟩
 refine w_lv fun x1 _=>w_br (fun _=>g) (fun _=>w_br (fun _=>g) (fun _=>w_br (fun _=>g) (fun hb=>w_cn (decide_eq_true (by rw[k3];omega)) ?_)))
 have hb:=of_decide_eq_false hb
 refine⟨⟨k1.m,k1.clock⟩,k2,?_,?_⟩
 · show(x.Queue++[e]).length≤16
   rw[List.length_append];simp at hb⊢;omega
 · intro q hq
   have hq:q∈x.Queue++[e]:=hq
   rw[List.mem_append]at hq
   rcases hq with hq|hq
   · exact hu q (k3▸hq)
   · rw[List.mem_singleton.1 hq];exact he
end
theorem event_w(n:Int):(Qa9 n).w (fun e=>U e.N):=by
 have u1:U 1:=⟨by omega,by omega⟩
 have ev40: ∀x y,Q2s x (IntKind.wrap .i64 (1+Int.tmod y 40)):=fun x y=>by
   show IntKind.wrap .i64 (1+Int.tmod y 40)≤1000000000000
   have h1:=Int.tmod_lt_of_pos y (b:=40) (by decide)
   have h2:=Int.lt_tmod_of_pos y (b:=40) (by decide)
   rw[IntKind.wrap_i64];omega
 unfold Qa9
 refine w_lv fun x0 _=> ?_
 repeat'(first
   |exact U_0
   |exact u1
   |exact Q17 _
   |exact w_an (show(128:Int)≤1000000000000 by decide) (w_lv fun _ _=>u1)
   |exact w_an (ev40 _ _) (w_lv fun _ _=>U_0)
   |refine w_br (fun _=> ?_) (fun _=> ?_))
end Go.Proofs.YtdkiadhigcfmkaaGreat

/-
  A part of the proof.
-/
import Derived.Test.YtpcbkbalabgnlaaGreatRecordOrderedLaws2
import Derived.Test.YtpcbkbalabgnlaaGreatRecordOrderedNewsB
import Derived.Test.YtpcbkbalabgnlaaGreatRecordOrderedZg
import Derived.Test.YtpcbkbalabgnlaaGreatRecordOrderedZt
import Derived.Test.YtpcbkbalabgnlaaGreatRecordOrderedFe
set_option linter.unusedVariables false
set_option linter.unusedSimpArgs false
namespace Go.Proofs.YtpcbkbalabgnlaaGreat
open Go Go.GD
set_option maxRecDepth 100000
theorem encode_U(i:Q0g):U (Q1k i).1:=by
 refine Tree.post (Qg0 i) (W:=λr=>U r.1) ?_
 unfold Qg0
 exact w_lv λ_ _=>w_br (λ_=>U_0) (λ_=>U_or _ _)
theorem code_w(l:List Int)(hl:l.length*8≤reachBytes):(Q9s l).w (λr=>(r.length:Int)=l.length∧ ∀w∈r,U w):=by
 have hl':l.length*8≤140737488351232:=hl
 have app: ∀{r:List Int} {x:Int},(∀w∈r,U w)→U x→ ∀w∈r++[x],U w:=λhr hx w hw=>by
   rw[List.mem_append]at hw
   rcases hw with hw|hw
   · exact hr w hw
   · rw[List.mem_singleton.1 hw];exact hx
 unfold Q9s
 refine w_lp (inv:=λz=>Qp3 l z∧ ∀w∈z.2,U w) (μ:=Qcf l) ⟨⟨by omega,by simp,by simp⟩,by simp⟩ (Nat.lt_succ_self _) (λv0 hv=> ?_)
 obtain⟨⟨h1,h2,h3⟩,h4⟩:=hv
 refine w_br (λh=> ?_) (λh=> ?_)
 · have h:=of_decide_eq_true h
   have next: ∀x:Int,U x→(Qp3 l (IntKind.wrap IntKind.i64 (v0.1+1),v0.2++[x])∧ ∀w∈v0.2++[x],U w)∧Qcf l (IntKind.wrap IntKind.i64 (v0.1+1),v0.2++[x])<Qcf l v0:=λx hx=>by
     have hw:IntKind.i64.wrap (v0.1+1)=v0.1+1:=by rw[IntKind.wrap_i64];omega
     rw[hw]
     refine⟨⟨⟨?_,?_,?_⟩,app h4 hx⟩,?_⟩
     · show 0≤v0.1+1;omega
     · show v0.1+1≤l.length;omega
     · show((v0.2++[x]).length:Int)=v0.1+1;simp;omega
     · show(l.length-(v0.1+1)).toNat<(l.length-v0.1).toNat;omega
   have hb:(Nat.beq 1 1&&Nat.blt 0 1&&decide (0≤v0.1∧v0.1<(l.length:Int)))=true:=by simp [Nat.blt];omega
   have hc:decide (4*(v0.2.length+1)≤140737488355328)=true:=decide_eq_true (by omega)
   exact w_cn hb (w_br (λ_=>w_cn hb (w_cn hc (next _ (Q0p _)))) (λ_=>w_cn hb (w_an (inst_pre _) (w_lv λx0 _=>w_lv λx1 hx=>w_cn hc (next _ (by rw[hx];exact encode_U _))))))
 · have h:=of_decide_eq_false h
   exact⟨by show(v0.2.length:Int)=l.length;omega,h4⟩
end Go.Proofs.YtpcbkbalabgnlaaGreat
namespace Go.Proofs.YtpcbkbalabgnlaaGreat
open Go Go.GD
set_option maxRecDepth 100000
theorem Qnb(steps:Int):0≤Q0l steps∧Q0l steps≤4000:=by
 refine Tree.post (Qhw steps) (W:=λr=>0≤r∧r≤4000) ?_
 unfold Qhw
 refine w_lf ?_
 constructor<;>(repeat' split)<;>omega
end Go.Proofs.YtpcbkbalabgnlaaGreat
namespace Go.Proofs.YtpcbkbalabgnlaaGreat
open Go Go.GD
set_option maxRecDepth 100000
section
variable {P:Nat} {m:Q00} (h:okM P m)
include h
theorem min_w(port:Int){clock:Int}(hc:U clock):(Qk4 m port clock).w (λx=>U x.1∧okM P x.2∧x.2.A2=m.A2):=by
 have k:=(⟨h,rfl⟩:okM P m∧m.A2=m.A2)
 obtain⟨h1,h2,h3,h4,h5,h7⟩:=h
 unfold Qk4
 exact w_br (λ_=>w_lv λx hx=>⟨hx▸Zff _ _,⟨⟨h1,h2,h3,h4,h5,h7⟩,rfl⟩⟩) (λ_=>w_br (λ_=>⟨hc,k⟩) (λ_=>w_br (λ_=>w_lv λx hx=>⟨hx▸timerIn_w _,k⟩) (λ_=>w_br (λ_=>w_lv λx hx=>⟨hx▸diskIn_w h3 _,k⟩) (λ_=>w_br (λ_=>w_lv λx hx=>⟨hx▸nicIn_w h4 _,k⟩) (λ_=>w_lv λx hx=>⟨hx▸Zer h5.1 _,k⟩)))))
theorem mout_w(port:Int){v:Int}(hv:U v):(Qe3 m port v).w (λx=>x.1.length≤1∧okM P x.2∧x.2.A2=m.A2):=by
 have k:=(⟨h,rfl⟩:okM P m∧m.A2=m.A2)
 obtain⟨h1,h2,h3,h4,h5,h7⟩:=h
 unfold Qe3
 exact w_br (λ_=>⟨Nat.le_refl _,k⟩) (λ_=>w_br (λ_=>⟨Nat.zero_le _,k⟩) (λ_=>w_br (λ_=>w_lv λ_ _=>⟨Nat.zero_le _,⟨⟨h1,h2,h3,h4,h5,h7⟩,rfl⟩⟩) (λ_=>w_br (λ_=>Q0e (diskOut_w h2 h3 _ hv _) λx hx=>⟨hx.2,⟨⟨h1,h2,hx.1,h4,h5,h7⟩,rfl⟩⟩) (λ_=>w_br (λ_=>Q0e (nicOut_w h2 h4 _ hv _) λx hx=>⟨hx.2,⟨⟨h1,h2,h3,hx.1,h5,h7⟩,rfl⟩⟩) (λ_=>Q0e (give_w h2 h5 _ hv) λx hx=>⟨Nat.zero_le _,⟨⟨h1,hx.2,h3,h4,hx.1,h7⟩,rfl⟩⟩)))))
theorem Z3{clock:Int}(hc:U clock):(Q8w m clock).w (λx=>x.1.length≤1∧okM P x.2∧x.2.A2=IntKind.wrap .u64 (m.A2+1)):=by
 obtain⟨h1,h2,h3,h4,h5,h7⟩:=h
 unfold Q8w
 refine Q0e (Qqo h1) λx0 c0=>Q0e (do_w c0 h2) λx1 hx=> ?_
 obtain⟨c1,v1,m1⟩:=hx
 refine w_br (λ_=>Zgg (min_w (m:=⟨_,_,_,_,_,_,_,_,_,_⟩) ⟨c1,m1,h3,h4,h5,h7⟩ _ hc) λx2 hx=> ?_) (λ_=>w_br (λ_=>Q0e (mout_w (m:=⟨_,_,_,_,_,_,_,_,_,_⟩) ⟨c1,m1,h3,h4,h5,h7⟩ _ v1) λx4 hx=> ?_) (λ_=> ?_))
 · obtain⟨u,⟨k1,k2,k3,k4,k5,k7⟩,k6⟩:=hx
   exact Q0e (Z52 k1 _ u) λx3 h3=>⟨Nat.zero_le _,⟨h3,k2,k3,k4,k5,w0 _⟩,congrArg (λn=>IntKind.wrap .u64 (n+1)) k6⟩
 · obtain⟨u,⟨k1,k2,k3,k4,k5,k7⟩,k6⟩:=hx
   exact⟨u,⟨k1,k2,k3,k4,k5,w0 _⟩,congrArg (λn=>IntKind.wrap .u64 (n+1)) k6⟩
 · repeat'(first
     |exact⟨Nat.zero_le _,⟨c1,m1,h3,h4,h5,w0 _⟩,rfl⟩
     |refine w_br (λ_=> ?_) (λ_=> ?_))
theorem own7_w:(Qgj m).w (λx=>okM P x∧x.A2=m.A2):=by
 obtain⟨h1,h2,h3,h4,h5,h7⟩:=h
 unfold Qgj
 exact Q0e (copy_w h2) λx hx=>⟨⟨h1,by rw[hx];exact h2,h3,h4,h5,h7⟩,rfl⟩
end
theorem U_all(n:Nat): ∀w∈List.replicate n (0:Int),U w:=λw hw=>by rw[(List.mem_replicate.1 hw).2];exact U_0
theorem zero_ok:okM 0 ⟨⟨⟨0,0,0,0,0,0,0,0,0,0,0,0,0,0,0,0⟩,0,⟨0,0,0,0,0,0,0,0⟩⟩,[],⟨[]⟩,⟨false,0,false⟩,⟨0,0,0,0,0,0,0,[]⟩,⟨0,0,false,0,false,0⟩,⟨0,0⟩,0,false,false⟩:=
 ⟨⟨U_all 16,U_0,U_all 8⟩,⟨rfl,by omega,by omega,λw hw=>by cases hw⟩,⟨U_0,U_0,U_0,U_0⟩,⟨U_0,U_0,U_0,U_0⟩,⟨U_0,U_0⟩,by decide⟩
theorem Zfz{P:Nat}{m:Q00}(h:okM P m)(hc:0≤m.A2):(Qa0 m [] 87).w (λx=> ∃Q,okM Q x.1):=by
 have z: ∃Q,okM Q _:=⟨0,zero_ok⟩
 unfold Qa0
 refine w_lv λx0 _=>w_br (λ_=>z) λ_=>w_br (λ_=>z) λ_=>w_br (λ_=>z) λ_=>w_an (show Q8k [] by show([]:List Q0u).length≤1000000000000;decide) (w_lv λx1 _=>w_br (λ_=>z) λ_=>Q0e (own7_w h) λx2 hx=> ?_)
 refine w_lp (inv:=λv:Q00×List Q07=>okM P v.1∧0≤v.1.A2∧v.2.length+(87-v.1.A2).toNat≤87) (μ:=Qfr m [] 87) ⟨hx.1,by rw[hx.2];exact hc,by rw[hx.2];show 0+_≤87;omega⟩ (Nat.lt_succ_self _) λv0 ⟨a1,a2,a3⟩=> ?_
 refine w_br (λhb=>w_br (λ_=> ?_) (λ_=>⟨P,a1⟩)) (λ_=>⟨P,a1⟩)
 have hb:=of_decide_eq_true hb
 refine w_lp (inv:=λ_=>True) (μ:=Qfh m [] 87 v0) trivial (Nat.lt_succ_self _) λv1 _=> ?_
 refine w_br (λ_=>⟨P,a1⟩) λ_=>Q0e (idle_w _) λx3 _=>w_br (λ_=>⟨P,a1⟩) λ_=>Q0e (reads_w a1.cpu a1.mem) λx4 _=>w_br (λ_=>z) λ_=>Q0e (Z3 a1 U_0) λx5 h5=> ?_
 obtain⟨b1,b2,b3⟩:=h5
 refine w_cn (decide_eq_true (by omega)) (w_nx ?_)
 have e:x5.2.A2=v0.1.A2+1:=by rw[b3,IntKind.wrap_u64];omega
 show(_∧_∧_)∧(_:Nat)<_
 refine⟨⟨b2,by show 0≤x5.2.A2;omega,by show(v0.2++x5.1).length+(87-x5.2.A2).toNat≤87;rw[List.length_append];omega⟩,by show(87-x5.2.A2).toNat<(87-v0.1.A2).toNat;omega⟩
end Go.Proofs.YtpcbkbalabgnlaaGreat
namespace Go.Proofs.YtpcbkbalabgnlaaGreat
open Go Go.GD
set_option maxRecDepth 100000
set_option synthInstance.maxHeartbeats 2000000
set_option synthInstance.maxSize 100000
noncomputable section
instance ref1_lines_ck (src:(List UInt8)):Ck (Qja src):=ckT (t:=Qeo src) (by delta Qeo;infer_instance)
instance ref1_tokens_ck (s:(List UInt8)):Ck (Qgl s):=ckT (t:=Qcw s) (by delta Qcw;infer_instance)
instance ref1_digits_ck (n:Int):Ck (Q3v n):=let d:Decidable (Q3v n):=(by delta Q3v;infer_instance);⟨@decide _ d,@of_decide_eq_true _ d⟩
instance ref1_Decimal_ck (n:Int):Ck (Qfs n):=ckT (t:=Q75 n) (by delta Q75;infer_instance)
instance ref1_reg_ck (r:Int):Ck (Qm5 r):=ckT (t:=Qdw r) (by delta Qdw;infer_instance)
instance ref1_name_ck (s:(List UInt8)):Ck (Qg3 s):=ckT (t:=Qgx s) (by delta Qgx;infer_instance)
instance Zkf (op:Int):Ck (Qdk op):=ckT (t:=Qa op) (by delta Qa;infer_instance)
instance Zj0 (s:(List UInt8)):Ck (Q3s s):=ckT (t:=Q8o s) (by delta Q8o;infer_instance)
instance ref1_pattern_ck (what:(List UInt8)):Ck (Q6e what):=ckT (t:=Qb4 what) (by delta Qb4;infer_instance)
instance ref1_number_ck (s:(List UInt8)):Ck (Qh7 s):=ckT (t:=Qcy s) (by delta Qcy;infer_instance)
instance ref1_matched_ck (l:(List Q0f)) (p:(List UInt8)):Ck (Q6b l p):=ckT (t:=Qbh l p) (by delta Qbh;infer_instance)
instance ref1_parsed_ck (s:(List UInt8)):Ck (Qh9 s):=ckT (t:=Qct s) (by delta Qct;infer_instance)
instance ref1_address_ck (l:(List Q24)) (label:(List UInt8)):Ck (Q3z l label):=let d:Decidable (Q3z l label):=(by delta Q3z;infer_instance);⟨@decide _ d,@of_decide_eq_true _ d⟩
instance ref1_read_ck (src:(List UInt8)):Ck (Qkh src):=ckT (t:=Qhp src) (by delta Qhp;infer_instance)
instance ref1_inst_ck (st:Q0a) (v:Int):Ck (Qa3 st v):=ckT (t:=Qgv st v) (by delta Qgv;infer_instance)
instance Zkl (src:(List UInt8)):Ck (Qaq src):=ckT (t:=Q9f src) (by delta Q9f;infer_instance)
theorem asm_pre:Qaq ((108:UInt8)::(tblZe0++Z3t++(Z2s++Z3i)++(Z4f++Z3l++(Z44++Z3b))++(Z3y++Z3c++(Qtq++Qsa)++(Qs9++Qtz++(Qsy++Qtl))))):=ck inferInstance (by kernel_rfl)
def inU(x:Int):Bool:=decide (0≤x)&&decide (x<4294967296)
theorem asm_gen(l:List Int)(h:(Nat.ble l.length 160&&List.all l inU)=true):l.length≤160∧ ∀w∈l,U w:=by
 rw[Bool.and_eq_true]at h
 refine⟨Nat.le_of_ble_eq_true h.1,λw hw=> ?_⟩
 have:=List.all_eq_true.1 h.2 w hw
 simp only[inU,Bool.and_eq_true,decide_eq_true_eq]at this
 exact this
theorem asm_ok:(Q1v (List.append (List.append (List.append (List.append Z76 Z3t) (List.append Z2s Z3i)) (List.append (List.append Z4f Z3l) (List.append Z44 Z3b))) (List.append (List.append (List.append Z3y Z3c) (List.append Qtq Qsa)) (List.append (List.append Qs9 Qtz) (List.append Qsy Qtl))))).1.length≤160∧ ∀w∈(Q1v (List.append (List.append (List.append (List.append Z76 Z3t) (List.append Z2s Z3i)) (List.append (List.append Z4f Z3l) (List.append Z44 Z3b))) (List.append (List.append (List.append Z3y Z3c) (List.append Qtq Qsa)) (List.append (List.append Qs9 Qtz) (List.append Qsy Qtl))))).1,U w:=asm_gen _ (by kernel_rfl)
end
end Go.Proofs.YtpcbkbalabgnlaaGreat
namespace Go.Proofs.YtpcbkbalabgnlaaGreat
open Go Go.GD
set_option maxRecDepth 100000
theorem new_w(i:List Int)(hu: ∀w∈i,U w)(hl:i.length≤256):(Q7i 8 4 i).w (λx=>okM 8 x.1∧x.1.A2=0):=by
 unfold Q7i
 refine w_br (λh=>absurd h (by decide)) λ_=>w_br (λh=>absurd h (by decide)) λ_=>w_br (λh=>absurd h (by decide)) λ_=>w_br (λh=>absurd h (by decide)) λ_=>w_br (λh=> ?_) λ_=>w_lv λx0 e0=>w_an (Z96 _) (w_lv λx1 e1=> ?_)
 · have h:=of_decide_eq_true h
   rw[show IntKind.i64.wrap (8*32)=256 by decide]at h
   omega
 have hx:x1=List.replicate 256 0:=by rw[e1];kernel_rfl
 have c0:Q2s x0:=by rw[e0];exact⟨by
   intro w hw
   simp only[Qo1,Qip,Tree.m,A16.l,List.mem_cons,List.not_mem_nil,or_false,or_self]at hw
   rw[hw];exact U_0,U_0,by
   intro w hw
   simp only[Qo1,Qip,Tree.m,A8.l,List.mem_cons,List.not_mem_nil,or_false,or_self]at hw
   rcases hw with rfl|rfl
   · exact⟨by omega,by omega⟩
   · exact U_0⟩
 have hz: ∀w∈x1,U w:=by rw[hx];exact U_all 256
 have hn:x1.length=256:=by rw[hx,List.length_replicate]
 refine⟨⟨c0,⟨?_,by omega,by omega,λw hw=> ?_⟩,⟨U_0,U_0,U_0,U_0⟩,⟨U_0,U_0,U_0,U_0⟩,⟨U_0,U_0⟩,Int.le_refl _⟩,rfl⟩
 · simp only[List.length_append,List.length_take,List.length_drop,hn];omega
 · rcases List.mem_append.1 hw with h1|h1
   · exact hu w (List.mem_of_mem_take h1)
   · exact hz w (List.mem_of_mem_drop h1)
theorem machine_w(kind:Int)(l:List Int)(hl:l.length*8≤reachBytes):(Q78 kind l).w (λx=> ∃Q,okM Q x):=by
  have hl':l.length*8≤140737488351232:=hl
  unfold Q78
  refine w_an (Qi8 (by decide)) (w_lv λx0 _=>w_br (λ_=>w_an asm_pre (w_lv λx1 e1=> ?_)) (λ_=> ?_))
  · obtain⟨q1,q2⟩:x1.1.length≤160∧ ∀w∈x1.1,U w:=by rw[e1];exact asm_ok
    refine w_lp (inv:=λv:List Int=>v.length≤160∧ ∀w∈v,U w) (μ:=Qco kind l) ⟨q1,q2⟩ (Nat.lt_succ_self _) λv0 ⟨a1,a2⟩=> ?_
    refine w_br (λhb=> ?_) (λ_=> ?_)
    · have hb:=of_decide_eq_true hb
      refine w_cn (decide_eq_true (by omega)) (w_nx ?_)
      show(_∧_)∧(_:Nat)<_
      refine⟨⟨by rw[List.length_append,List.length_singleton];omega,λw hw=> ?_⟩,by show 160-(v0++[0]).length<160-v0.length;rw[List.length_append,List.length_singleton];omega⟩
      rcases List.mem_append.1 hw with h1|h1
      · exact a2 w h1
      · rw[List.mem_singleton.1 h1];exact U_0
    · refine Q0e (code_w l hl) λx2 ⟨b1,b2⟩=>w_cn (decide_eq_true (by omega)) ?_
      have hu: ∀w∈v0++x2,U w:=λw hw=>(List.mem_append.1 hw).elim (a2 w) (b2 w)
      refine w_br (λhb=> ?_) (λhb=> ?_)
      · have hb:=of_decide_eq_true hb
        refine w_cn (by simp [Nat.blt];rw[List.length_append]at hb;omega) (Q0e (new_w _ (λw hw=>hu w (List.mem_of_mem_drop (List.mem_of_mem_take hw))) (by rw[List.length_take];exact Nat.le_trans (Nat.min_le_left _ _) (by decide))) λx3 ⟨c1,c2⟩=>w_br (λ_=>Q0e (Zfz c1 (by omega)) λx4 hx=>hx) (λ_=>⟨8,c1⟩))
      · have hb:=of_decide_eq_false hb
        exact Q0e (new_w _ hu (by omega)) λx3 ⟨c1,c2⟩=>w_br (λ_=>Q0e (Zfz c1 (by omega)) λx4 hx=>hx) (λ_=>⟨8,c1⟩)
  · refine Q0e (code_w l hl) λx2 ⟨b1,b2⟩=>w_cn (decide_eq_true (by omega)) ?_
    refine w_br (λhb=> ?_) (λhb=> ?_)
    · have hb:=of_decide_eq_true hb
      refine w_cn (by simp [Nat.blt];omega) (Q0e (new_w _ (λw hw=>b2 w (List.mem_of_mem_drop (List.mem_of_mem_take hw))) (by rw[List.length_take];exact Nat.le_trans (Nat.min_le_left _ _) (by decide))) λx3 ⟨c1,c2⟩=>w_br (λ_=>Q0e (Zfz c1 (by omega)) λx4 hx=>hx) (λ_=>⟨8,c1⟩))
    · have hb:=of_decide_eq_false hb
      exact Q0e (new_w _ b2 (by omega)) λx3 ⟨c1,c2⟩=>w_br (λ_=>Q0e (Zfz c1 (by omega)) λx4 hx=>hx) (λ_=>⟨8,c1⟩)
end Go.Proofs.YtpcbkbalabgnlaaGreat
namespace Go.Proofs.YtpcbkbalabgnlaaGreat
open Go Go.GD
set_option maxRecDepth 100000
end Go.Proofs.YtpcbkbalabgnlaaGreat
namespace Go.Proofs.YtpcbkbalabgnlaaGreat
open Go Go.GD
set_option maxRecDepth 100000
noncomputable section
def boot:List Int:=(Q1v (List.append (List.append (List.append (List.append Z76 Z3t) (List.append Z2s Z3i)) (List.append (List.append Z4f Z3l) (List.append Z44 Z3b))) (List.append (List.append (List.append Z3y Z3c) (List.append Qtq Qsa)) (List.append (List.append Qs9 Qtz) (List.append Qsy Qtl))))).1
def Qix:List Int:=boot++List.replicate (160-boot.length) 0
theorem run87(t0 t1 t2 t3 t4 t5 t6 t7 t8 t9 t10 t11 t12 t13 t14 t15 t16 t17 t18 t19 t20 t21 t22 t23 t24 t25 t26 t27 t28 t29 t30 t31 t32 t33 t34 t35 t36 t37 t38 t39 t40 t41 t42 t43 t44 t45 t46 t47 t48 t49 t50 t51 t52 t53 t54 t55 t56 t57 t58 t59 t60 t61 t62 t63 t64 t65 t66 t67 t68 t69 t70 t71 t72 t73 t74 t75 t76 t77 t78 t79 t80 t81 t82 t83 t84 t85 t86 t87 t88 t89 t90 t91 t92 t93 t94 t95:Int):(Qdh (Q1q 8 4 (Qix++[t0,t1,t2,t3,t4,t5,t6,t7,t8,t9,t10,t11,t12,t13,t14,t15,t16,t17,t18,t19,t20,t21,t22,t23,t24,t25,t26,t27,t28,t29,t30,t31,t32,t33,t34,t35,t36,t37,t38,t39,t40,t41,t42,t43,t44,t45,t46,t47,t48,t49,t50,t51,t52,t53,t54,t55,t56,t57,t58,t59,t60,t61,t62,t63,t64,t65,t66,t67,t68,t69,t70,t71,t72,t73,t74,t75,t76,t77,t78,t79,t80,t81,t82,t83,t84,t85,t86,t87,t88,t89,t90,t91,t92,t93,t94,t95])).1 [] 87).2.2.2=0:=by kernel_rfl
end
end Go.Proofs.YtpcbkbalabgnlaaGreat
namespace Go.Proofs.YtpcbkbalabgnlaaGreat
open Go Go.GD
attribute [local irreducible] Q1v
set_option maxRecDepth 100000
theorem new_mem(i j:List Int)(hi:i.length≤256)(hj:j.length≤256)(e:i++List.replicate (256-i.length) 0=j++List.replicate (256-j.length) 0):Q1q 8 4 i=Q1q 8 4 j:=by
 have w:IntKind.i64.wrap (8*32)=256:=by decide
 have m:Qqf 8=List.replicate 256 0:=by kernel_rfl
 have d: ∀k:List Int,k.length≤256→decide ((k.length:Int)>256)=false:=λk h=>decide_eq_false (by omega)
 have mem: ∀k:List Int,k.length≤256→List.take (min k.length (List.replicate 256 (0:Int)).length) k++List.drop (min k.length (List.replicate 256 (0:Int)).length) (List.replicate 256 0)=k++List.replicate (256-k.length) 0:=λk h=>by
   rw[List.length_replicate,Nat.min_eq_left h,List.take_length,List.drop_replicate]
 have r:Qqf 8=List.replicate 256 0:=by kernel_rfl
 simp only[Q1q,Q7i,Tree.m,w,letv,r,d i hi,d j hj]
 simp only[mem i hi,mem j hj,e]
theorem list96(t:List Int)(ht:t.length=96):t=[t.getD 0 0,t.getD 1 0,t.getD 2 0,t.getD 3 0,t.getD 4 0,t.getD 5 0,t.getD 6 0,t.getD 7 0,t.getD 8 0,t.getD 9 0,t.getD 10 0,t.getD 11 0,t.getD 12 0,t.getD 13 0,t.getD 14 0,t.getD 15 0,t.getD 16 0,t.getD 17 0,t.getD 18 0,t.getD 19 0,t.getD 20 0,t.getD 21 0,t.getD 22 0,t.getD 23 0,t.getD 24 0,t.getD 25 0,t.getD 26 0,t.getD 27 0,t.getD 28 0,t.getD 29 0,t.getD 30 0,t.getD 31 0,t.getD 32 0,t.getD 33 0,t.getD 34 0,t.getD 35 0,t.getD 36 0,t.getD 37 0,t.getD 38 0,t.getD 39 0,t.getD 40 0,t.getD 41 0,t.getD 42 0,t.getD 43 0,t.getD 44 0,t.getD 45 0,t.getD 46 0,t.getD 47 0,t.getD 48 0,t.getD 49 0,t.getD 50 0,t.getD 51 0,t.getD 52 0,t.getD 53 0,t.getD 54 0,t.getD 55 0,t.getD 56 0,t.getD 57 0,t.getD 58 0,t.getD 59 0,t.getD 60 0,t.getD 61 0,t.getD 62 0,t.getD 63 0,t.getD 64 0,t.getD 65 0,t.getD 66 0,t.getD 67 0,t.getD 68 0,t.getD 69 0,t.getD 70 0,t.getD 71 0,t.getD 72 0,t.getD 73 0,t.getD 74 0,t.getD 75 0,t.getD 76 0,t.getD 77 0,t.getD 78 0,t.getD 79 0,t.getD 80 0,t.getD 81 0,t.getD 82 0,t.getD 83 0,t.getD 84 0,t.getD 85 0,t.getD 86 0,t.getD 87 0,t.getD 88 0,t.getD 89 0,t.getD 90 0,t.getD 91 0,t.getD 92 0,t.getD 93 0,t.getD 94 0,t.getD 95 0]:=by
 apply List.ext_getElem
 · rw[ht];rfl
 · intro i h1 h2
   have e: ∀j (hj:j<96),[t.getD 0 0,t.getD 1 0,t.getD 2 0,t.getD 3 0,t.getD 4 0,t.getD 5 0,t.getD 6 0,t.getD 7 0,t.getD 8 0,t.getD 9 0,t.getD 10 0,t.getD 11 0,t.getD 12 0,t.getD 13 0,t.getD 14 0,t.getD 15 0,t.getD 16 0,t.getD 17 0,t.getD 18 0,t.getD 19 0,t.getD 20 0,t.getD 21 0,t.getD 22 0,t.getD 23 0,t.getD 24 0,t.getD 25 0,t.getD 26 0,t.getD 27 0,t.getD 28 0,t.getD 29 0,t.getD 30 0,t.getD 31 0,t.getD 32 0,t.getD 33 0,t.getD 34 0,t.getD 35 0,t.getD 36 0,t.getD 37 0,t.getD 38 0,t.getD 39 0,t.getD 40 0,t.getD 41 0,t.getD 42 0,t.getD 43 0,t.getD 44 0,t.getD 45 0,t.getD 46 0,t.getD 47 0,t.getD 48 0,t.getD 49 0,t.getD 50 0,t.getD 51 0,t.getD 52 0,t.getD 53 0,t.getD 54 0,t.getD 55 0,t.getD 56 0,t.getD 57 0,t.getD 58 0,t.getD 59 0,t.getD 60 0,t.getD 61 0,t.getD 62 0,t.getD 63 0,t.getD 64 0,t.getD 65 0,t.getD 66 0,t.getD 67 0,t.getD 68 0,t.getD 69 0,t.getD 70 0,t.getD 71 0,t.getD 72 0,t.getD 73 0,t.getD 74 0,t.getD 75 0,t.getD 76 0,t.getD 77 0,t.getD 78 0,t.getD 79 0,t.getD 80 0,t.getD 81 0,t.getD 82 0,t.getD 83 0,t.getD 84 0,t.getD 85 0,t.getD 86 0,t.getD 87 0,t.getD 88 0,t.getD 89 0,t.getD 90 0,t.getD 91 0,t.getD 92 0,t.getD 93 0,t.getD 94 0,t.getD 95 0][j]'hj=t.getD j 0:=by
     intro j hj
     have:[t.getD 0 0,t.getD 1 0,t.getD 2 0,t.getD 3 0,t.getD 4 0,t.getD 5 0,t.getD 6 0,t.getD 7 0,t.getD 8 0,t.getD 9 0,t.getD 10 0,t.getD 11 0,t.getD 12 0,t.getD 13 0,t.getD 14 0,t.getD 15 0,t.getD 16 0,t.getD 17 0,t.getD 18 0,t.getD 19 0,t.getD 20 0,t.getD 21 0,t.getD 22 0,t.getD 23 0,t.getD 24 0,t.getD 25 0,t.getD 26 0,t.getD 27 0,t.getD 28 0,t.getD 29 0,t.getD 30 0,t.getD 31 0,t.getD 32 0,t.getD 33 0,t.getD 34 0,t.getD 35 0,t.getD 36 0,t.getD 37 0,t.getD 38 0,t.getD 39 0,t.getD 40 0,t.getD 41 0,t.getD 42 0,t.getD 43 0,t.getD 44 0,t.getD 45 0,t.getD 46 0,t.getD 47 0,t.getD 48 0,t.getD 49 0,t.getD 50 0,t.getD 51 0,t.getD 52 0,t.getD 53 0,t.getD 54 0,t.getD 55 0,t.getD 56 0,t.getD 57 0,t.getD 58 0,t.getD 59 0,t.getD 60 0,t.getD 61 0,t.getD 62 0,t.getD 63 0,t.getD 64 0,t.getD 65 0,t.getD 66 0,t.getD 67 0,t.getD 68 0,t.getD 69 0,t.getD 70 0,t.getD 71 0,t.getD 72 0,t.getD 73 0,t.getD 74 0,t.getD 75 0,t.getD 76 0,t.getD 77 0,t.getD 78 0,t.getD 79 0,t.getD 80 0,t.getD 81 0,t.getD 82 0,t.getD 83 0,t.getD 84 0,t.getD 85 0,t.getD 86 0,t.getD 87 0,t.getD 88 0,t.getD 89 0,t.getD 90 0,t.getD 91 0,t.getD 92 0,t.getD 93 0,t.getD 94 0,t.getD 95 0]=(List.range 96).map (λk=>t.getD k 0):=rfl
     simp only[this,List.getElem_map,List.getElem_range]
   rw[e i (by omega),List.getD_eq_getElem?_getD,List.getElem?_eq_getElem h1]
   rfl
theorem run_ok(t:List Int)(ht:t.length=96):(Qdh (Q1q 8 4 (Qix++t)).1 [] 87).2.2.2=0:=by
 rw[list96 t ht]
 exact run87 _ _ _ _ _ _ _ _ _ _ _ _ _ _ _ _ _ _ _ _ _ _ _ _ _ _ _ _ _ _ _ _ _ _ _ _ _ _ _ _ _ _ _ _ _ _ _ _ _ _ _ _ _ _ _ _ _ _ _ _ _ _ _ _ _ _ _ _ _ _ _ _ _ _ _ _ _ _ _ _ _ _ _ _ _ _ _ _ _ _ _ _ _ _ _ _
theorem pad_len:Qix.length=160:=by
 have h:boot.length≤160:=asm_ok.1
 unfold Qix
 rw[List.length_append,List.length_replicate];omega
end Go.Proofs.YtpcbkbalabgnlaaGreat
namespace Go.Proofs.YtpcbkbalabgnlaaGreat
open Go Go.GD
set_option maxRecDepth 100000
def out(f:Int)(m m':List Int):Prop:= ∀j:Nat,¬(f*32≤j∧(j:Int)<f*32+32)→m'.getD j 0=m.getD j 0
theorem Qnj(f:Int)(m:List Int):out f m m:=λ_ _=>rfl
theorem getDset(l:List Int)(i j:Nat)(v:Int)(h:i≠j):(l.set i v).getD j 0=l.getD j 0:=by
 simp only[List.getD_eq_getElem?_getD,List.getElem?_set_ne h]
theorem Q40{P:Nat}{m:List Int}(h:Q10 P m):Q0r m=P:=by
 obtain⟨h1,h2,h3,_⟩:=h
 simp only[Q0r,Q8x,Tree.m]
 have e:(m.length:Int)=32*P:=by omega
 rw[e]
 have e1:(Int.tmod (32*(P:Int)) 32 !=0)=false:=by simp [Int.mul_tmod_right]
 have e2:decide ((32*(P:Int))>1024)=false:=decide_eq_false (by omega)
 rw[e1,e2]
 simp only[cond_false]
 rw[Int.mul_tdiv_cancel_left _ (by decide),IntKind.wrap_i64];omega
theorem has_eq{P:Nat}{m:List Int}(h:Q10 P m)(f:Int):Q5m m f=true→0≤f∧f<P:=by
 have hp:=Q40 h
 simp only[Q5m,Q8j,Tree.m,letv,hp]
 cases h1:decide (f≥0)
 · intro h;cases h
 · intro h;exact⟨of_decide_eq_true h1,of_decide_eq_true h⟩
theorem Qxo{P:Nat}{m:List Int}(h:Q10 P m)(f:Int)(s:List UInt8):(Q26 m f s).w (λr=>Q10 P r.1∧out f m r.1∧(r.2=false→r.1=m)):=by
 have hcl:Q02 m=m:=rfl
 have h2:=h.p2
 unfold Q26
 refine w_an (Q9x h) (w_lv λx0 hx0=>w_lv λx1 hx1=> ?_)
 rw[hcl]at hx0;subst hx0
 refine w_br (λ_=>⟨h,Qnj _ _,λ_=>rfl⟩) λhb=>w_br (λ_=>⟨h,Qnj _ _,λ_=>rfl⟩) λhs=> ?_
 have hb:x1=true:=by simpa using hb
 obtain⟨f0,f1⟩:=has_eq h f (hx1.symm.trans hb)
 have hs:(s.length:Int)=128:=by simpa using hs
 refine w_lp (inv:=λz:Int×List Int=>0≤z.1∧z.1≤32∧Q10 P z.2∧out f x0 z.2) (μ:=Qay x0 f s) ⟨show(0:Int)≤0 by decide,show(0:Int)≤32 by decide,h,Qnj _ _⟩ (Nat.lt_succ_self _) λz ⟨z1,z2,z3,z4⟩=> ?_
 refine w_br (λhb=> ?_) (λ_=>⟨z3,z4,λh=>by cases h⟩)
 have hb:=of_decide_eq_true hb
 have e1:IntKind.i64.wrap (4*z.1)=4*z.1:=by rw[IntKind.wrap_i64];omega
 have e2:IntKind.i64.wrap (IntKind.i64.wrap (4*z.1)+4)=4*z.1+4:=by rw[IntKind.wrap_i64,IntKind.wrap_i64];omega
 have e3:IntKind.i64.wrap (IntKind.i64.wrap (f*32)+z.1)=f*32+z.1:=by rw[IntKind.wrap_i64,IntKind.wrap_i64];omega
 have hl:=z3.len
 have hlen:(List.take (Int.toNat (IntKind.i64.wrap (IntKind.i64.wrap (4*z.1)+4))-Int.toNat (IntKind.i64.wrap (4*z.1))) (List.drop (Int.toNat (IntKind.i64.wrap (4*z.1))) s)).length=4:=by
   rw[e2,e1,List.length_take,List.length_drop];omega
 refine w_cn (decide_eq_true (by rw[e2,e1];omega)) ?_
 refine w_cn (decide_eq_true (by rw[hlen];decide)) (w_cn (decide_eq_true (by rw[hlen];decide)) (w_cn (decide_eq_true (by rw[hlen];decide)) (w_cn (decide_eq_true (by rw[hlen];decide)) (w_cn (by rw[e3];simp [Nat.blt];omega) (w_nx ?_)))))
 show(_∧_∧Q10 P (List.set _ _ _)∧out f x0 (List.set _ _ _))∧(_:Nat)<_
 have ew:IntKind.i64.wrap (z.1+1)=z.1+1:=by rw[IntKind.wrap_i64];omega
 rw[e3]
 refine⟨⟨by rw[ew];omega,by rw[ew];omega,⟨by rw[List.length_set];exact hl,z3.p1,z3.p2,Z1b z3.u (U_or _ _) _⟩,λj hj=> ?_⟩,by show(32-IntKind.i64.wrap (z.1+1)).toNat<(32-z.1).toNat;rw[ew];omega⟩
 rw[getDset _ _ _ _ (by omega)]
 exact z4 j hj
theorem text_w(w:List Int)(h:w.length≤32):(Q5d w).w (λr=>r.length=4*w.length):=by
 have e0:IntKind.i64.wrap (4*(w.length:Int))=4*w.length:=by rw[IntKind.wrap_i64];omega
 unfold Q5d
 refine w_cn (by rw[e0];simp [Nat.blt,D.plain];omega) ?_
 refine w_lp (inv:=λz:Int×List Int=>0≤z.1∧z.1≤w.length∧(z.2.length:Int)=4*z.1) (μ:=Q7u w) ⟨by decide,by show(0:Int)≤w.length;omega,rfl⟩ (Nat.lt_succ_self _) λz ⟨z1,z2,z3⟩=> ?_
 refine w_br (λhb=> ?_) (λhb=> ?_)
 · have hb:=of_decide_eq_true hb
   have ew:IntKind.i64.wrap (z.1+1)=z.1+1:=by rw[IntKind.wrap_i64];omega
   refine w_cn (by simp [Nat.blt];omega) (w_cn (decide_eq_true (by omega)) (w_nx ?_))
   show(_∧_∧_)∧(_:Nat)<_
   refine⟨⟨by rw[ew];omega,by rw[ew];omega,by rw[ew,List.length_append];simp only[List.length_cons,List.length_nil];omega⟩,by show(w.length-IntKind.i64.wrap (z.1+1)).toNat<(w.length-z.1).toNat;rw[ew];omega⟩
 · have hb:=of_decide_eq_false hb
   show(bytesOf z.2).length=_
   rw[Qh4];omega
theorem Ze7{P:Nat}{m:List Int}(h:Q10 P m)(f:Int):(Q3m m f).w (λr=>0≤f→f<P→r.1.length=128):=by
 have hl:=h.len
 have h2:=h.p2
 unfold Q3m
 refine w_lv λx0 hx0=>w_br (λhb=>λf0 f1=> ?_) (λhb=> ?_)
 · have hp:=Q40 h
   have hb:x0=false:=by simpa using hb
   rw[hb]at hx0
   simp only[Q5m,Q8j,Tree.m,letv,hp]at hx0
   rw[decide_eq_true f0]at hx0
   exact absurd f1 (of_decide_eq_false hx0.symm)
 · have hb:x0=true:=by simpa using hb
   obtain⟨f0,f1⟩:=has_eq h f (hx0.symm.trans hb)
   have e1:IntKind.i64.wrap (f*32)=f*32:=by rw[IntKind.wrap_i64];omega
   have e2:IntKind.i64.wrap (IntKind.i64.wrap (f*32)+32)=f*32+32:=by rw[IntKind.wrap_i64,IntKind.wrap_i64];omega
   have hlen:(List.take (Int.toNat (IntKind.i64.wrap (IntKind.i64.wrap (f*32)+32))-Int.toNat (IntKind.i64.wrap (f*32))) (List.drop (Int.toNat (IntKind.i64.wrap (f*32))) m)).length=32:=by
     rw[e2,e1,List.length_take,List.length_drop];omega
   refine w_cn (by rw[e2,e1];simp [Nat.blt];omega) ?_
   refine w_an (by show List.length _≤1000000000000;rw[hlen];decide) (w_lv λx1 h1=> ?_)
   have h1:x1.length=4*(List.take (Int.toNat (IntKind.i64.wrap (IntKind.i64.wrap (f*32)+32))-Int.toNat (IntKind.i64.wrap (f*32))) (List.drop (Int.toNat (IntKind.i64.wrap (f*32))) m)).length:=by rw[h1];exact(Tree.pp (text_w _ (Nat.le_of_eq hlen))).2
   intro _ _
   show x1.length=128
   rw[h1,hlen]
end Go.Proofs.YtpcbkbalabgnlaaGreat
namespace Go.Proofs.YtpcbkbalabgnlaaGreat
open Go Go.GD
set_option maxRecDepth 100000
theorem Zgl{f:Int}(hf:U f){P:Nat}(hP:P≤32)(h:decide (IntKind.u64.wrap f<IntKind.u64.wrap (P:Int))=true):0≤f∧f<P:=by
 have h:=of_decide_eq_true h
 obtain⟨h1,h2⟩:=hf
 rw[IntKind.wrap_u64,IntKind.wrap_u64,Int.emod_eq_of_lt h1 (by omega),Int.emod_eq_of_lt (by omega) (by omega)]at h
 exact⟨h1,h⟩
theorem Zk8{P:Nat}{m:List Int}(h:Q10 P m){d:Q0c}(hd:Q95 d)(e:Q09):(Q4o d m e).w (λr=>Q95 r.1∧Q10 P r.2.1∧out d.B2 m r.2.1∧(r.2.2=false→r.2.1=m)∧(∀p,Q1i d p=true→Q1i r.1 p=true)):=by
 have hcl:Q02 m=m:=rfl
 have keep: ∀b:Bool,Q95 d∧Q10 P m∧out d.B2 m m∧(b=false→m=m)∧(∀p,Q1i d p=true→Q1i d p=true):=λb=>⟨hd,h,Qnj _ _,λ_=>rfl,λ_ h=>h⟩
 have blk: ∀{p:Int},Q1i d p=true→decide (d.Blocks>64)=false:=fun{p} hm=>by
   cases hb:decide (d.Blocks>64)
   · rfl
   · have:Q1i d p=false:=by simp only[Q1i,Q6g,Tree.m];rw[hb];rfl
     rw[this]at hm;cases hm
 have m2: ∀p,Q1i d p=true→Q1i {Blocks:=d.Blocks,C2:=d.C2,B4:=d.B4,B9:=2,D8:=0,B7:=0,B2:=0,C3:=[]} p=true:=λp hm=>by
   simp only[Q1i,Q6g,Tree.m];rw[blk hm];rfl
 have m3: ∀p,Q1i d p=true→Q1i {Blocks:=d.Blocks,C2:=d.C2,B4:=d.B4,B9:=3,D8:=0,B7:=0,B2:=0,C3:=[]} p=true:=λp hm=>by
   simp only[Q1i,Q6g,Tree.m];rw[blk hm];rfl
 unfold Q4o
 refine w_br (λ_=>w_an (Q9x h) (w_lv λx hx=>by rw[hcl]at hx;subst hx;exact keep _)) λ_=>w_br (λ_=>w_an (Q9x h) (w_lv λx hx=>by rw[hcl]at hx;subst hx;exact keep _)) λ_=>w_br (λ_=>w_an (Q9x h) (w_lv λx hx=>by rw[hcl]at hx;subst hx;exact keep _)) λ_=>w_an (Q9x h) (w_lv λx3 hx3=> ?_)
 rw[hcl]at hx3;subst hx3
 have fin: ∀{m':List Int},Q10 P m'→out d.B2 x3 m'→(Tree.br (e.N==1) (.lf (({Blocks:=d.Blocks,C2:=d.C2,B4:=d.B4,B9:=2,D8:=0,B7:=0,B2:=0,C3:=[]}:Q0c),m',true)) (.lf (({Blocks:=d.Blocks,C2:=d.C2,B4:=d.B4,B9:=3,D8:=0,B7:=0,B2:=0,C3:=[]}:Q0c),m',true))).w (λr=>Q95 r.1∧Q10 P r.2.1∧out d.B2 x3 r.2.1∧(r.2.2=false→r.2.1=x3)∧(∀p,Q1i d p=true→Q1i r.1 p=true)):=λhm ho=>
   w_br (λ_=>⟨⟨hd.block,hd.frame,U_0,U_0⟩,hm,ho,(λh=>by cases h),m2⟩) (λ_=>⟨⟨hd.block,hd.frame,U_0,U_0⟩,hm,ho,(λh=>by cases h),m3⟩)
 have nod:(Tree.br (!decide (e.C6=[])) (.lf (d,x3,false)) (Tree.br (e.N==1) (.lf (({Blocks:=d.Blocks,C2:=d.C2,B4:=d.B4,B9:=2,D8:=0,B7:=0,B2:=0,C3:=[]}:Q0c),x3,true)) (.lf (({Blocks:=d.Blocks,C2:=d.C2,B4:=d.B4,B9:=3,D8:=0,B7:=0,B2:=0,C3:=[]}:Q0c),x3,true)))).w (λr=>Q95 r.1∧Q10 P r.2.1∧out d.B2 x3 r.2.1∧(r.2.2=false→r.2.1=x3)∧(∀p,Q1i d p=true→Q1i r.1 p=true)):=
   w_br (λ_=>keep _) (λ_=>fin h (Qnj _ _))
 refine w_br (λ_=>w_br (λ_=>w_lv λx4 hx4=>w_br (λ_=>keep _) λhb=> ?_) (λ_=>nod)) (λ_=>nod)
 have hp:=Q40 h
 have hb:x4=true:=by simpa using hb
 rw[hb]at hx4
 simp only[Q9c,Qd4,Tree.m,letv,hp]at hx4
 obtain⟨f0,f1⟩:=Zgl hd.opFrame h.p2 hx4.symm
 have ef:IntKind.i64.wrap d.B2=d.B2:=by have:=h.p2;rw[IntKind.wrap_i64];omega
 refine Q0e (Qxo h _ _) λx5 ⟨h5,o5,k5⟩=> ?_
 rw[ef]at o5
 exact w_br (λhf=>⟨hd,h5,o5,λ_=>k5 (by simpa using hf),λ_ h=>h⟩) (λ_=>fin h5 o5)
theorem receive_w{P:Nat}{m:List Int}(h:Q10 P m){n:Q0m}(hn:Qie n)(frame:List UInt8):(Q6q n m frame).w (λr=>Qie r.1∧Q10 P r.2.1∧out n.C0 m r.2.1∧(r.2.2=false→r.2.1=m)∧(∀p,Q69 n p=true→Q69 r.1 p=true)):=by
 have hcl:Q02 m=m:=rfl
 have keep:Qie n∧Q10 P m∧out n.C0 m m∧(false=false→m=m)∧(∀p,Q69 n p=true→Q69 n p=true):=⟨hn,h,Qnj _ _,λ_=>rfl,λ_ h=>h⟩
 unfold Q6q
 refine w_br (λ_=>w_an (Q9x h) (w_lv λx hx=>by rw[hcl]at hx;subst hx;exact keep)) λhpo=>w_br (λ_=>w_an (Q9x h) (w_lv λx hx=>by rw[hcl]at hx;subst hx;exact keep)) λl1=>w_br (λ_=>w_an (Q9x h) (w_lv λx hx=>by rw[hcl]at hx;subst hx;exact keep)) λl2=>w_lv λx3 hx3=>w_br (λ_=>w_an (Q9x h) (w_lv λx hx=>by rw[hcl]at hx;subst hx;exact keep)) λhb=> ?_
 have l1:=of_decide_eq_false l1
 have l2:=of_decide_eq_false l2
 have hp:=Q40 h
 have hb:x3=true:=by simpa using hb
 rw[hb]at hx3
 simp only[Qal,Qeh,Tree.m,letv,hp]at hx3
 obtain⟨f0,f1⟩:=Zgl hn.buffer h.p2 hx3.symm
 have ef:IntKind.i64.wrap n.C0=n.C0:=by have:=h.p2;rw[IntKind.wrap_i64];omega
 refine Q0e (Ze7 h _) λx5 h5=> ?_
 rw[ef]at h5
 have h5:=h5 f0 f1
 have hmax:(maxLen:Nat)=9223372036854775807:=rfl
 refine w_cn (decide_eq_true (by omega)) (w_cn (decide_eq_true (by simp only[List.length_take,List.length_drop,hmax];omega)) (Q0e (Qxo h _ _) λx6 ⟨h6,o6,_⟩=> ?_))
 rw[ef]at o6
 have hg:IntKind.u32.wrap (frame.length:Int)=frame.length:=by rw[IntKind.wrap_u32];omega
 refine⟨⟨hn.frame,hn.len,U_0,Q0p _⟩,h6,o6,(λh=>by cases h),λp _=> ?_⟩
 simp only[Q69,Qjk,Tree.m]
 rw[hg,decide_eq_true (show(frame.length:Int)≥1 by omega),decide_eq_true (show(frame.length:Int)≤128 by omega)]
 rfl
theorem ctype_w(c:Q0b)(b:Int):(Q73 c b).w (λr=>Q2e c=true→Q2e r.1=true):=by
 have hmax:(maxLen:Nat)=9223372036854775807:=rfl
 unfold Q73
 refine w_br (λ_=>λh=>h) (λhb=> ?_)
 have hb:=of_decide_eq_false hb
 refine w_cn (decide_eq_true (by rw[hmax];omega)) ?_
 intro _
 show decide (((c.D1++[_]).length:Int)≤16)=true
 rw[List.length_append,List.length_singleton]
 exact decide_eq_true (by omega)
theorem fire_may(t:Q0h)(h:Q4i t=true):Q4i (Qk8 t).1=true:=by
 simp only[Qk8,Qmw,Tree.m]
 cases ha:t.D7
 · exact h
 · rfl
end Go.Proofs.YtpcbkbalabgnlaaGreat
namespace Go.Proofs.YtpcbkbalabgnlaaGreat
open Go Go.GD
set_option maxRecDepth 100000
theorem dev_eq(m:Q00):Q0v m=(Q2e m.A3&&(Q4i m.B0&&(Q1i m.B1 (Q0r m.Mem)&&(Q69 m.C5 (Q0r m.Mem)&&Q2r m.A1 (Q0r m.Mem))))):=by
 simp only[Q0v,Q1h,Tree.m,letv]
 cases Q2e m.A3<;>cases Q4i m.B0<;>cases Q1i m.B1 (Q0r m.Mem)<;>cases Q69 m.C5 (Q0r m.Mem)<;>rfl
theorem bal_eq{b c:Q06}(h:c.C1=b.C1)(p:Int):Q2r c p=Q2r b p:=by
 simp only[Q2r,Q3l,Tree.m,h]
theorem cnd{a x y:Bool}(h:x=true→y=true):(bif a then false else x)=true→(bif a then false else y)=true:=by cases a<;>simp_all
def chain(b1 b2 b3 b4 b5 b6 b7 w h dev:Bool):Bool:=bif b1 then false else bif b2 then false else bif b3 then false else bif b4 then false else bif b5 then false else bif b6 then false else bif b7 then false else bif w then(bif h then false else dev) else dev
theorem Zih{b1 b2 b3 b4 b5 b6 b7 w h d d':Bool}(hd:d=true→d'=true):chain b1 b2 b3 b4 b5 b6 b7 w h d=true→chain b1 b2 b3 b4 b5 b6 b7 w h d'=true:=by
 refine cnd (cnd (cnd (cnd (cnd (cnd (cnd ?_))))))
 cases w
 · exact hd
 · cases h
   · exact hd
   · exact λh=>h
def mayC(p:Int)(c:Q03)(ct:Int)(w h dev:Bool):Bool:=chain (p==0) (c.X.a0 !=0) (decide (c.B6.a0>31)) (decide (c.B6.a7>31)) (decide (c.B6.a6>255)) (Int.tmod c.B6.a1 4 !=0) (decide (ct>1152921504606846976)) w h dev
theorem mayC_mono{p:Int}{c:Q03}{ct:Int}{w h d d':Bool}(hd:d=true→d'=true)(g:mayC p c ct w h d=true):mayC p c ct w h d'=true:=Zih hd g
theorem may_eq(m:Q00):Q1e m=mayC (Q0r m.Mem) m.B3 m.A2 m.A6 m.A9 (Q0v m):=rfl
theorem Qro{m n:Q00}(hp:Q0r n.Mem=Q0r m.Mem)(hcpu:n.B3=m.B3)(hct:n.A2=m.A2)(hw:n.A6=m.A6)(hh:n.A9=m.A9)
   (hc:Q2e m.A3=true→Q2e n.A3=true) (ht:Q4i m.B0=true→Q4i n.B0=true) (hd: ∀p,Q1i m.B1 p=true→Q1i n.B1 p=true) (hn: ∀p,Q69 m.C5 p=true→Q69 n.C5 p=true) (hb:n.A1.C1=m.A1.C1) (h:Q1e m=true):Q1e n=true:=by
 have dev:Q0v m=true→Q0v n=true:=λh=>by
   rw[dev_eq]at h⊢
   simp only[Bool.and_eq_true]at h⊢
   rw[hp,bal_eq hb]
   exact⟨hc h.1,ht h.2.1,hd _ h.2.2.1,hn _ h.2.2.2.1,h.2.2.2.2⟩
 rw[may_eq]at h⊢
 rw[hp,hcpu,hct,hw,hh]
 exact mayC_mono dev h
end Go.Proofs.YtpcbkbalabgnlaaGreat
namespace Go.Proofs.YtpcbkbalabgnlaaGreat
open Go Go.GD
set_option maxRecDepth 100000
section
variable {P:Nat} {m:List Int} (h:Q10 P m)
include h
theorem dpage{f:Int}(hf:U f){b:Bool}(hx:b=Q9c m f)(hb:b=true):0≤f∧f<P:=by
 have hp:=Q40 h
 rw[hb]at hx
 simp only[Q9c,Qd4,Tree.m,letv,hp]at hx
 exact Zgl hf h.p2 hx.symm
theorem npage{f:Int}(hf:U f){b:Bool}(hx:b=Qal m f)(hb:b=true):0≤f∧f<P:=by
 have hp:=Q40 h
 rw[hb]at hx
 simp only[Qal,Qeh,Tree.m,letv,hp]at hx
 exact Zgl hf h.p2 hx.symm
def keepD(P:Nat)(d d':Q0c):Prop:=Q95 d'∧(Q1i d P=true→Q1i d' P=true)
theorem issue_w{d:Q0c}(hd:Q95 d){cmd:Int}(hc:cmd=1∨cmd=2)(at0:Int):(Q6s d m cmd at0).w (λr=>keepD P d r.1∧r.2.length≤1):=by
 have h2:=h.p2
 have st3:(d.B9 !=0)=false→keepD P d {Blocks:=d.Blocks,C2:=d.C2,B4:=d.B4,B9:=3,D8:=d.D8,B7:=d.B7,B2:=d.B2,C3:=d.C3}:=λhs=>by
   have hs:d.B9=0:=by simpa using hs
   refine⟨⟨hd.block,hd.frame,hd.opBlock,hd.opFrame⟩,λhm=> ?_⟩
   simp only[Q1i,Q6g,Tree.m,hs]at hm⊢
   exact hm
 have blk:Q1i d P=true→decide (d.Blocks>64)=false:=λhm=>by
   cases hb:decide (d.Blocks>64)
   · rfl
   · have:Q1i d P=false:=by simp only[Q1i,Q6g,Tree.m];rw[hb];rfl
     rw[this]at hm;cases hm
 unfold Q6s
 refine w_br (λ_=>⟨⟨hd,λh=>h⟩,Nat.zero_le _⟩) λhs=>w_br (λ_=>⟨st3 hs,Nat.zero_le _⟩) λhb=>w_lv λx0 hx=>w_br (λ_=>⟨st3 hs,Nat.zero_le _⟩) λhp=> ?_
 have hb:=of_decide_eq_false hb
 obtain⟨f0,f1⟩:=dpage h hd.frame hx (by simpa using hp)
 have ef:IntKind.i64.wrap d.B4=d.B4:=by rw[IntKind.wrap_i64];omega
 have e1:decide (d.C2<d.Blocks)=true:=decide_eq_true (by omega)
 have e2:decide (IntKind.i64.wrap d.B4<(P:Int))=true:=by rw[ef];exact decide_eq_true f1
 refine w_br (λhcm=>Q0e (Ze7 h _) λx1 h1=> ?_) (λhcm=> ?_)
 · rw[ef]at h1
   have h1:=h1 f0 f1
   have hcm:=eq_of_beq hcm
   subst hcm
   refine w_lv λx2 _=>⟨⟨⟨hd.block,hd.frame,hd.block,hd.frame⟩,λhm=> ?_⟩,Nat.le_refl _⟩
   simp only[Q1i,Q6g,Q9t,Q7q,Tree.m,letv,blk hm,e1,e2,h1]
   rfl
 · have hc:cmd=1:=by
     rcases hc with h|h
     · exact h
     · rw[h]at hcm;exact absurd hcm (by decide)
   subst hc
   refine w_lv λx2 _=>⟨⟨⟨hd.block,hd.frame,hd.block,hd.frame⟩,λhm=> ?_⟩,Nat.le_refl _⟩
   simp only[Q1i,Q6g,Q9t,Q7q,Tree.m,letv,blk hm,e1,e2]
   rfl
theorem diskP_w{d:Q0c}(hd:Q95 d)(port:Int){v:Int}(hv:U v)(at0:Int):(Qa9 d m port v at0).w (λr=>keepD P d r.1∧r.2.length≤1):=by
 have keep:keepD P d d:=⟨hd,λh=>h⟩
 have e1: ∀{k:Int},(v==k)=true→IntKind.i64.wrap v=k:=λhk=>by
   have:=eq_of_beq hk
   obtain⟨a,b⟩:=hv
   rw[IntKind.wrap_i64];omega
 unfold Qa9
 refine w_br (λ_=>⟨⟨⟨hv,hd.frame,hd.opBlock,hd.opFrame⟩,λh=>h⟩,Nat.zero_le _⟩) λ_=>w_br (λ_=>⟨⟨⟨hd.block,hv,hd.opBlock,hd.opFrame⟩,λh=>h⟩,Nat.zero_le _⟩) λ_=>w_br (λ_=>w_br (λhk=>Q0e (issue_w h hd (.inl (e1 hk)) _) λx hx=>hx) λ_=>w_br (λhk=>Q0e (issue_w h hd (.inr (e1 hk)) _) λx hx=>hx) λ_=>w_br (λ_=>w_lv λx hx=>w_br (λhb=> ?_) (λ_=>⟨keep,Nat.zero_le _⟩)) (λ_=>⟨keep,Nat.zero_le _⟩)) (λ_=>⟨keep,Nat.zero_le _⟩)
 refine⟨⟨⟨hd.block,hd.frame,hd.opBlock,hd.opFrame⟩,λhm=> ?_⟩,Nat.zero_le _⟩
 rw[hb]at hx
 simp only[Q99,Qiy,Tree.m]at hx
 cases h2:d.B9==2
 · rw[h2]at hx
   have h3:d.B9=3:=eq_of_beq hx.symm
   simp only[Q1i,Q6g,Tree.m,h3]at hm⊢
   exact hm
 · have h3:d.B9=2:=eq_of_beq h2
   simp only[Q1i,Q6g,Tree.m,h3]at hm⊢
   exact hm
def keepN(P:Nat)(n n':Q0m):Prop:=Qie n'∧(Q69 n P=true→Q69 n' P=true)
theorem send_w{n:Q0m}(hn:Qie n)(at0:Int):(Qa7 n m at0).w (λr=>r.length≤1):=by
 have h2:=h.p2
 unfold Qa7
 refine w_br (λ_=>Nat.zero_le _) λl1=>w_br (λ_=>Nat.zero_le _) λl2=>w_lv λx0 hx=>w_br (λ_=>Nat.zero_le _) λhp=>Q0e (Ze7 h _) λx1 h1=> ?_
 have l1:=of_decide_eq_false l1
 have l2:=of_decide_eq_false l2
 obtain⟨f0,f1⟩:=npage h hn.frame hx (by simpa using hp)
 have ef:IntKind.i64.wrap n.B4=n.B4:=by rw[IntKind.wrap_i64];omega
 rw[ef]at h1
 have h1:=h1 f0 f1
 exact w_cn (decide_eq_true (by omega)) (Nat.le_refl _)
theorem nicP_w{n:Q0m}(hn:Qie n)(port:Int){v:Int}(hv:U v)(at0:Int):(Qd5 n m port v at0).w (λr=>keepN P n r.1∧r.2.length≤1):=by
 have h2:=h.p2
 have keep:keepN P n n:=⟨hn,λh=>h⟩
 unfold Qd5
 refine w_br (λ_=>⟨⟨⟨hv,hn.len,hn.buffer,hn.got⟩,λh=>h⟩,Nat.zero_le _⟩) λ_=>w_br (λ_=>⟨⟨⟨hn.frame,hv,hn.buffer,hn.got⟩,λh=>h⟩,Nat.zero_le _⟩) λ_=>w_br (λ_=>w_br (λ_=>Q0e (send_w h hn _) λx hx=>⟨keep,hx⟩) λ_=>w_br (λ_=>w_lv λx hx=>w_br (λhb=>w_br (λnp=>w_br (λnr=> ?_) (λ_=>⟨keep,Nat.zero_le _⟩)) (λ_=>⟨keep,Nat.zero_le _⟩)) (λ_=>⟨keep,Nat.zero_le _⟩)) λ_=>w_br (λ_=> ?_) (λ_=>⟨keep,Nat.zero_le _⟩)) (λ_=>⟨keep,Nat.zero_le _⟩)
 · obtain⟨f0,f1⟩:=npage h hn.frame hx hb
   have np:n.C7=false:=by simpa using np
   have nr:n.B8=false:=by simpa using nr
   have e2:decide (IntKind.i64.wrap n.B4≥(P:Int))=false:=decide_eq_false (by rw[IntKind.wrap_i64];omega)
   refine⟨⟨⟨hn.frame,hn.len,hn.frame,hn.got⟩,λhm=> ?_⟩,Nat.zero_le _⟩
   simp only[Q69,Qjk,Tree.m,np,nr,e2]at hm⊢
   cases hb:(n.C0 !=0)
   · rw[hb]at hm;exact hm
   · rw[hb]at hm;cases hm
 · refine⟨⟨⟨hn.frame,hn.len,hn.buffer,U_0⟩,λhm=> ?_⟩,Nat.zero_le _⟩
   simp only[Q69,Qjk,Tree.m]at hm⊢
   revert hm
   cases n.C7<;>cases n.B8<;>cases decide (IntKind.i64.wrap n.C0≥(P:Int))<;>cases(n.C0 !=0)<;>simp
end
theorem arm_may(t:Q0h)(v:Int):Q4i (Qk5 t v)=true:=by
 simp only[Qk5,Qkp,Q4i,Qkx,Tree.m]
 cases h:(v !=0)
 · have:v=0:=by simpa using h
   subst this;rfl
 · rfl
end Go.Proofs.YtpcbkbalabgnlaaGreat
namespace Go.Proofs.YtpcbkbalabgnlaaGreat
open Go Go.GD
set_option maxRecDepth 100000
theorem Qp0{a:Int}(k:Nat)(hk:k≤32):ishr .u32 a k=a/2^k:=by
 unfold ishr
 have e:min (k:Int).toNat IntKind.u32.bits=k:=by show min (k:Int).toNat 32=k;omega
 have hp:(0:Int)<2^k:=Int.pow_pos (by decide)
 rw[e,Int.fdiv_eq_ediv_of_nonneg _ (Int.le_of_lt hp)]
def Zj1(x:Int)(n:Nat):Prop:=x<2^n∧(n=0∨(2:Int)^(n-1)≤x)
theorem Z7e{x q:Int}{n k:Nat}(hq:q=x/2^k)(h0:0<q)(h:Zj1 q n):Zj1 x (n+k):=by
 have hp:(0:Int)<2^k:=Int.pow_pos (by decide)
 obtain⟨h1,h2⟩:=h
 have hn:n≠0:=λe=>by subst e;simp at h1;omega
 refine⟨?_, .inr ?_⟩
 · rw[Int.pow_add]
   have:x<(x/2^k+1)*2^k:=Int.lt_ediv_add_one_mul_self x hp
   have h3:(x/2^k+1)*2^k≤2^n*2^k:=Int.mul_le_mul_of_nonneg_right (by omega) (Int.le_of_lt hp)
   omega
 · have h2:=h2.resolve_left hn
   have e:n+k-1=(n-1)+k:=by omega
   rw[e,Int.pow_add]
   have h3:(2:Int)^(n-1)*2^k≤q*2^k:=Int.mul_le_mul_of_nonneg_right h2 (Int.le_of_lt hp)
   have h4:q*2^k≤x:=by rw[hq];exact Int.ediv_mul_le x (Int.ne_of_gt hp)
   omega
theorem isLen_le{x:Int}{n p:Nat}(h:Zj1 x n)(hx:x<2^p):n≤p:=by
  obtain⟨h1,h2⟩:=h
  rcases h2 with h2|h2
  · omega
  · rcases Nat.lt_or_ge p n with hlt|hge
    · have:(2:Int)^p≤2^(n-1):=by
        have:=Nat.pow_le_pow_right (show 0<2 by omega) (show p≤n-1 by omega)
        exact_mod_cast this
      omega
    · exact hge
theorem Zes{x:Int}{n p:Nat}(h:Zj1 x n)(hn:n≤p):x<2^p:=by
 have:(2:Int)^n≤2^p:=by
   have:=Nat.pow_le_pow_right (show 0<2 by omega) hn
   exact_mod_cast this
 exact Int.lt_of_lt_of_le h.1 this
def lenChk(i:Nat):Bool:=match(Q1l (i:Int)) with
 | .ofNat n=>decide ((i:Int)<2^n)&&(Nat.beq n 0||decide ((2:Int)^(n-1)≤i))&&decide (n≤8)
 |_=>false
theorem Qr9{q:Int}(h0:0≤q)(h1:q<256): ∃n:Nat,Q1l q=n∧Zj1 q n∧n≤8:=by
 have all:List.all (List.range 256) lenChk=true:=by kernel_rfl
 have:=List.all_eq_true.1 all q.toNat (List.mem_range.2 (by omega))
 have hq:((q.toNat:Nat):Int)=q:=by omega
 unfold lenChk at this
 rw[hq]at this
 split at this
 · rename_i n hn
   simp only[Bool.and_eq_true,Bool.or_eq_true,decide_eq_true_eq]at this
   refine⟨n,hn,⟨this.1.1,?_⟩,this.2⟩
   rcases this.1.2 with h|h
   · exact .inl (Nat.eq_of_beq_eq_true h)
   · exact .inr h
 · cases this
theorem len_24{x:Int}(h:U x)(hx:16777216≤x):Q1l x=24+Q1l (x/16777216):=by
 obtain⟨h0,h1⟩:=h
 have s16:ishr .u32 x 16=x/65536:=Qp0 16 (by omega)
 have s24:ishr .u32 (x/65536) 8=x/16777216:=by rw[show((8:Int))=((8:Nat):Int) from rfl,Qp0 8 (by omega)];omega
 have d1:decide (x≥65536)=true:=decide_eq_true (by omega)
 have d2:decide (x/65536≥256)=true:=decide_eq_true (by omega)
 have d3:decide (x/16777216≥65536)=false:=decide_eq_false (by omega)
 have d4:decide (x/16777216≥256)=false:=decide_eq_false (by omega)
 have u:IntKind.u8.wrap (x/16777216)=x/16777216:=by rw[IntKind.wrap_u8];omega
 simp only[Q1l,Q1y,Tree.m,s16,s24,d1,d2,d3,d4,u,cond_true,cond_false]
 generalize(List.getD _ (Int.toNat (x/16777216)) (0:UInt8))=b
 have hb:=UInt8.toNat_lt b
 rw[IntKind.wrap_i64,IntKind.wrap_i64,IntKind.wrap_i64,IntKind.wrap_i64]
 omega
theorem len_16{x:Int}(h0:65536≤x)(h1:x<16777216):Q1l x=16+Q1l (x/65536):=by
 have s16:ishr .u32 x 16=x/65536:=Qp0 16 (by omega)
 have d1:decide (x≥65536)=true:=decide_eq_true (by omega)
 have d2:decide (x/65536≥256)=false:=decide_eq_false (by omega)
 have d3:decide (x/65536≥65536)=false:=decide_eq_false (by omega)
 have u:IntKind.u8.wrap (x/65536)=x/65536:=by rw[IntKind.wrap_u8];omega
 simp only[Q1l,Q1y,Tree.m,s16,d1,d2,d3,u,cond_true,cond_false]
 generalize(List.getD _ (Int.toNat (x/65536)) (0:UInt8))=b
 have hb:=UInt8.toNat_lt b
 rw[IntKind.wrap_i64,IntKind.wrap_i64,IntKind.wrap_i64]
 omega
theorem len_8{x:Int}(h0:256≤x)(h1:x<65536):Q1l x=8+Q1l (x/256):=by
 have s8:ishr .u32 x 8=x/256:=Qp0 8 (by omega)
 have d1:decide (x≥65536)=false:=decide_eq_false (by omega)
 have d2:decide (x≥256)=true:=decide_eq_true (by omega)
 have d3:decide (x/256≥65536)=false:=decide_eq_false (by omega)
 have d4:decide (x/256≥256)=false:=decide_eq_false (by omega)
 have u:IntKind.u8.wrap (x/256)=x/256:=by rw[IntKind.wrap_u8];omega
 simp only[Q1l,Q1y,Tree.m,s8,d1,d2,d3,d4,u,cond_true,cond_false]
 generalize(List.getD _ (Int.toNat (x/256)) (0:UInt8))=b
 have hb:=UInt8.toNat_lt b
 rw[IntKind.wrap_i64,IntKind.wrap_i64,IntKind.wrap_i64,IntKind.wrap_i64]
 omega
theorem Zii{x:Int}(h:U x): ∃n:Nat,Q1l x=n∧Zj1 x n:=by
  obtain⟨h0,h1⟩:=h
  rcases Int.lt_or_le x 256 with a|a
  · obtain⟨n,e,l,_⟩:=Qr9 h0 a
    exact⟨n,e,l⟩
  · rcases Int.lt_or_le x 65536 with b|b
    · obtain⟨n,e,l,_⟩:=Qr9 (q:=x/256) (by omega) (by omega)
      exact⟨n+8,by rw[len_8 a b,e];omega,Z7e (k:=8) rfl (by omega) l⟩
    · rcases Int.lt_or_le x 16777216 with c|c
      · obtain⟨n,e,l,_⟩:=Qr9 (q:=x/65536) (by omega) (by omega)
        exact⟨n+16,by rw[len_16 b c,e];omega,Z7e (k:=16) rfl (by omega) l⟩
      · obtain⟨n,e,l,_⟩:=Qr9 (q:=x/16777216) (by omega) (by omega)
        exact⟨n+24,by rw[len_24 ⟨h0,h1⟩ c,e];omega,Z7e (k:=24) rfl (by omega) l⟩
theorem Qz8{b:Q06}(h:U b.C1){P:Nat}:Q2r b P=true↔b.C1<2^P:=by
 obtain⟨n,e,l⟩:=Zii h
 have hp:(if(0:Int)>(P:Int) then(0:Int) else P)=P:=by rw[if_neg (by omega)]
 simp only[Q2r,Q3l,Tree.m,letv,e,hp,decide_eq_true_eq]
 constructor
 · intro h;exact Zes l (by omega)
 · intro h;have:=isLen_le l h;omega
end Go.Proofs.YtpcbkbalabgnlaaGreat
namespace Go.Proofs.YtpcbkbalabgnlaaGreat
open Go Go.GD
set_option maxRecDepth 100000
theorem Z4u{a:Int}(h:U a){P:Nat}(h1:a<2^P):(BitVec.ofInt 32 a).toNat<2^P:=by
 obtain⟨a0,a1⟩:=h
 rw[BitVec.toNat_ofInt,Int.emod_eq_of_lt a0 (by omega)]
 have:((2^P:Nat):Int)=(2:Int)^P:=by exact_mod_cast rfl
 omega
theorem or_lt{a b:Int}(ha:U a)(hb:U b){P:Nat}(hP:P≤32)(h1:a<2^P)(h2:b<2^P):ior .u32 a b<2^P:=by
 have e:(BitVec.ofInt 32 a|||BitVec.ofInt 32 b).toNat<2^P:=by
   rw[BitVec.toNat_or]
   exact Nat.or_lt_two_pow (Z4u ha h1) (Z4u hb h2)
 have hc:((2^P:Nat):Int)=(2:Int)^P:=by exact_mod_cast rfl
 have l:=(BitVec.ofInt 32 a|||BitVec.ofInt 32 b).isLt
 show IntKind.wrap .u32 ((BitVec.ofInt 32 a|||BitVec.ofInt 32 b).toNat:Int)<2^P
 rw[IntKind.wrap_u32]
 omega
theorem andn_lt{a b:Int}(ha:U a){P:Nat}(h1:a<2^P):Qg .u32 a b<2^P:=by
 have e:(BitVec.ofInt 32 a&&&~~~BitVec.ofInt 32 b).toNat<2^P:=by
   rw[BitVec.toNat_and]
   exact Nat.lt_of_le_of_lt Nat.and_le_left (Z4u ha h1)
 have hc:((2^P:Nat):Int)=(2:Int)^P:=by exact_mod_cast rfl
 have l:=(BitVec.ofInt 32 a&&&~~~BitVec.ofInt 32 b).isLt
 show IntKind.wrap .u32 ((BitVec.ofInt 32 a&&&~~~BitVec.ofInt 32 b).toNat:Int)<2^P
 rw[IntKind.wrap_u32]
 omega
theorem shl_one{v:Int}(h0:0≤v)(h1:v<32):ishl .u32 1 v=2^v.toNat:=by
 have e:min v.toNat IntKind.u32.bits=v.toNat:=by show min v.toNat 32=v.toNat;omega
 obtain⟨n,rfl⟩: ∃n:Nat,v=n:=⟨v.toNat,by omega⟩
 have hn:n<32:=by omega
 have hlt:(2:Nat)^n<4294967296:=by
   have:=Nat.pow_lt_pow_right (show 1<2 by omega) hn
   simpa using this
 have hc:((2^n:Nat):Int)=(2:Int)^n:=by exact_mod_cast rfl
 unfold ishl
 rw[e,IntKind.wrap_u32,Int.one_mul,Int.toNat_natCast,←hc]
 clear hc e
 generalize(2:Nat)^n=z at*
 omega
def keepB(P:Nat)(b b':Q06):Prop:=okB b'∧(Q2r b P=true→Q2r b' P=true)
theorem Zju{P:Nat}{m:List Int}(h:Q10 P m){b:Q06}(hb:okB b)(port:Int){v:Int}(hv:U v):(Q2n b m port v).w (λr=>keepB P b r.1∧Q10 P r.2):=by
 have hcl:Q02 m=m:=rfl
 have h2:=h.p2
 have hp:=Q40 h
 have keep:(Tree.an (Q04 m) (.lv (Q02 m) λx=> .lf (b,x))).w (λr=>keepB P b r.1∧Q10 P r.2):=w_an (Q9x h) (w_lv λx hx=>by rw[hcl]at hx;subst hx;exact⟨⟨hb,λh=>h⟩,h⟩)
 unfold Q2n
 refine w_br (λ_=>keep) λhlt=>w_cn (decide_eq_true hv.1) (w_br (λ_=>w_lv λx1 hx=>w_br (λhpg=>w_br (λ_=>w_an ⟨by decide,by decide,by decide⟩ (w_lv λx2 _=>Q0e (Qxo h _ _) λx3 ⟨h3,_⟩=> ?_)) (λ_=>keep)) (λ_=>keep)) (λ_=>w_br (λ_=>w_an (Q9x h) (w_lv λx hx=> ?_)) (λ_=>keep)))
 · have hlt:=of_decide_eq_false hlt
   have hpg:=of_decide_eq_true hpg
   rw[hx,hp]at hpg
   obtain⟨v0,v1⟩:=hv
   have ev:IntKind.i64.wrap v=v:=by rw[IntKind.wrap_i64];omega
   rw[ev]at hpg
   refine⟨⟨⟨hb.1,Q0p _⟩,λhm=> ?_⟩,h3⟩
   rw[Qz8 hb.2]at hm
   rw[Qz8 (Q0p _)]
   have hs:ishl .u32 1 v<2^P:=by
     rw[shl_one v0 (by omega)]
     have:=Nat.pow_lt_pow_right (show 1<2 by omega) (show v.toNat<P by omega)
     exact_mod_cast this
   exact or_lt hb.2 (Q0p _) h2 hm hs
 · rw[hcl]at hx;subst hx
   refine⟨⟨⟨hb.1,Q0p _⟩,λhm=> ?_⟩,h⟩
   rw[Qz8 hb.2]at hm
   rw[Qz8 (Q0p _)]
   exact andn_lt hb.2 hm
end Go.Proofs.YtpcbkbalabgnlaaGreat
namespace Go.Proofs.YtpcbkbalabgnlaaGreat
open Go Go.GD
set_option maxRecDepth 100000
structure kept(P:Nat)(m n:Q00):Prop where
 ok:okS P n
 dev:Q0v m=true→Q0v n=true
 cpu:n.B3=m.B3
 cnt:n.A2=m.A2
 wait:n.A6=m.A6
 halt:n.A9=m.A9
theorem Zau{P:Nat}{m:Q00}(h:okS P m):kept P m m:=⟨h,λh=>h,rfl,rfl,rfl,rfl⟩
theorem Qo2{P:Nat}{m n:Q00}(hm:Q10 P m.Mem)(hn:Q10 P n.Mem)(hc:Q2e m.A3=true→Q2e n.A3=true)(ht:Q4i m.B0=true→Q4i n.B0=true)
   (hd:Q1i m.B1 P=true→Q1i n.B1 P=true) (hk:Q69 m.C5 P=true→Q69 n.C5 P=true) (hb:Q2r m.A1 P=true→Q2r n.A1 P=true) (h:Q0v m=true):Q0v n=true:=by
 rw[dev_eq]at h⊢
 rw[Q40 hm]at h
 rw[Q40 hn]
 simp only[Bool.and_eq_true]at h⊢
 exact⟨hc h.1,ht h.2.1,hd h.2.2.1,hk h.2.2.2.1,hb h.2.2.2.2⟩
theorem Zdv{P:Nat}{m:Q00}(h:okS P m)(port:Int){v:Int}(hv:U v)(at0:Int):(Q22 m port v at0).w (λr=>kept P m r.1∧r.2.length≤1):=by
 have k:=Zau h
 obtain⟨h1,h2,h3,h4,h5,h6⟩:=h
 have id: ∀{p:Prop},p→p:=λh=>h
 have D: ∀(x:Q0c×List Q07),(keepD P m.B1 x.1∧x.2.length≤1)→kept P m {B3:=m.B3,Mem:=m.Mem,A3:=m.A3,B0:=m.B0,B1:=x.1,C5:=m.C5,A1:=m.A1,A2:=m.A2,A6:=m.A6,A9:=m.A9}∧x.2.length≤1:=λx hx=>
   ⟨⟨⟨h1,h2,hx.1.1,h4,h5,h6⟩,Qo2 h2 h2 id id hx.1.2 id id,rfl,rfl,rfl,rfl⟩,hx.2⟩
 have N: ∀(x:Q0m×List Q07),(keepN P m.C5 x.1∧x.2.length≤1)→kept P m {B3:=m.B3,Mem:=m.Mem,A3:=m.A3,B0:=m.B0,B1:=m.B1,C5:=x.1,A1:=m.A1,A2:=m.A2,A6:=m.A6,A9:=m.A9}∧x.2.length≤1:=λx hx=>
   ⟨⟨⟨h1,h2,h3,hx.1.1,h5,h6⟩,Qo2 h2 h2 id id id hx.1.2 id,rfl,rfl,rfl,rfl⟩,hx.2⟩
 have B: ∀(x:Q06×List Int),(keepB P m.A1 x.1∧Q10 P x.2)→kept P m {B3:=m.B3,Mem:=x.2,A3:=m.A3,B0:=m.B0,B1:=m.B1,C5:=m.C5,A1:=x.1,A2:=m.A2,A6:=m.A6,A9:=m.A9}∧([]:List Q07).length≤1:=λx hx=>
   ⟨⟨⟨h1,hx.2,h3,h4,hx.1.1.1,hx.1.1.2⟩,Qo2 h2 hx.2 id id id id hx.1.2,rfl,rfl,rfl,rfl⟩,Nat.zero_le _⟩
 unfold Q22
 repeat'(first
   |exact⟨k,Nat.le_refl _⟩
   |exact⟨k,Nat.zero_le _⟩
   |exact w_lv λx hx=>⟨⟨⟨h1,h2,h3,h4,h5,h6⟩,Qo2 h2 h2 id (λ_=>by rw[hx];exact arm_may _ _) id id id,rfl,rfl,rfl,rfl⟩,Nat.zero_le _⟩
   |exact Q0e (diskP_w h2 h3 _ hv _) λx hx=>D x hx
   |exact Q0e (nicP_w h2 h4 _ hv _) λx hx=>N x hx
   |exact Q0e (Zju h2 ⟨h5,h6⟩ _ hv) λx hx=>B x hx
   |refine w_br (λ_=> ?_) (λ_=> ?_))
theorem Z2l(c:Q0b)(port:Int):(Q9e c port).w (λr=>U r.2∧(Q2e c=true→Q2e r.1=true)):=by
 have u1:U 4294967295:=⟨by omega,by omega⟩
 unfold Q9e
 refine w_br (λ_=>w_br (λ_=>⟨u1,λh=>h⟩) (λhb=>w_cn ?_ (w_cn ?_ ⟨Q0p _,λhm=> ?_⟩))) (λ_=>w_br (λ_=>⟨Q0p _,λh=>h⟩) (λ_=>⟨U_0,λh=>h⟩))
 · have hb:=of_decide_eq_false hb
   have:0<c.D1.length:=List.length_pos_iff.2 hb
   simp [Nat.blt];omega
 · have hb:=of_decide_eq_false hb
   have:0<c.D1.length:=List.length_pos_iff.2 hb
   exact decide_eq_true (by omega)
 · have hm:decide ((c.D1.length:Int)≤16)=true:=hm
   have hm:=of_decide_eq_true hm
   show decide (((List.take _ (List.drop _ c.D1)).length:Int)≤16)=true
   refine decide_eq_true ?_
   rw[List.length_take,List.length_drop];omega
theorem Zir{P:Nat}{m:Q00}(h:okS P m)(port:Int){clock:Int}(hc:U clock):(Q2b m port clock).w (λr=>kept P m r.1∧U r.2):=by
 have k:=Zau h
 obtain⟨h1,h2,h3,h4,h5,h6⟩:=h
 have id: ∀{p:Prop},p→p:=λh=>h
 have ti: ∀t,U (Qwz t):=λt=>by
   refine Tree.post (Qnp t) (W:=U) ?_
   unfold Qnp
   exact w_br (λ_=>⟨by omega,by omega⟩) (λ_=>U_0)
 have di: ∀p,U (Qu0 m.B1 p):=λp=>by
   refine Tree.post (Qs1 m.B1 p) (W:=U) ?_
   unfold Qs1
   exact w_br (λ_=>h3.block) (λ_=>w_br (λ_=>h3.frame) (λ_=>w_br (λ_=>Q0p _) (λ_=>U_0)))
 have ni: ∀p,U (Z0f m.C5 p):=λp=>by
   refine Tree.post (Qr0 m.C5 p) (W:=U) ?_
   unfold Qr0
   exact w_br (λ_=>h4.frame) (λ_=>w_br (λ_=>h4.got) (λ_=>w_br (λ_=>w_br (λ_=>w_br (λ_=>Q0p _) (λ_=>Q0p _)) (λ_=>w_br (λ_=>Q0p _) (λ_=>U_0))) (λ_=>U_0)))
 have bi: ∀p,(Q6x m.A1 p).w U:=λp=>by
   unfold Q6x
   exact w_br (λ_=>h5) (λ_=>w_br (λ_=>Q0e (Zgf h6) λ_ _=>Q0p _) (λ_=>U_0))
 have C: ∀(x:Q0b×Int),(U x.2∧(Q2e m.A3=true→Q2e x.1=true))→kept P m {B3:=m.B3,Mem:=m.Mem,A3:=x.1,B0:=m.B0,B1:=m.B1,C5:=m.C5,A1:=m.A1,A2:=m.A2,A6:=m.A6,A9:=m.A9}∧U x.2:=λx hx=>
   ⟨⟨⟨h1,h2,h3,h4,h5,h6⟩,Qo2 h2 h2 hx.2 id id id id,rfl,rfl,rfl,rfl⟩,hx.1⟩
 unfold Q2b
 repeat'(first
   |exact⟨k,hc⟩
   |exact⟨k,U_0⟩
   |exact Q0e (Z2l _ _) λx hx=>C x hx
   |exact Zgg (Z2l _ _) λx hx=>C x hx
   |exact w_lv λx hx=>⟨k,by rw[hx];exact ti _⟩
   |exact w_lv λx hx=>⟨k,by rw[hx];exact di _⟩
   |exact w_lv λx hx=>⟨k,by rw[hx];exact ni _⟩
   |exact Q0e (bi _) λx hx=>⟨k,hx⟩
   |refine w_br (λ_=> ?_) (λ_=> ?_))
end Go.Proofs.YtpcbkbalabgnlaaGreat
namespace Go.Proofs.YtpcbkbalabgnlaaGreat
open Go Go.GD
set_option maxRecDepth 100000
structure Q7c(c:Q03):Prop where
 x0:c.X.a0=0
 st:c.B6.a0≤31
 en:c.B6.a7≤31
 rt:c.B6.a6≤255
 ve:Int.tmod c.B6.a1 4=0
theorem Q7c.pc{c:Q03}(h:Q7c c)(p:Int):Q7c {X:=c.X,Pc:=p,B6:=c.B6}:=⟨h.x0,h.st,h.en,h.rt,h.ve⟩
theorem and31(a:Int):iand .u32 a 31≤31:=by
 have e:(BitVec.ofInt 32 a&&&BitVec.ofInt 32 31).toNat≤31:=by
   rw[BitVec.toNat_and]
   exact Nat.le_trans Nat.and_le_right (by decide)
 show IntKind.wrap .u32 ((BitVec.ofInt 32 a&&&BitVec.ofInt 32 31).toNat:Int)≤31
 rw[IntKind.wrap_u32];omega
theorem and255'(a:Int):iand .u32 a 255≤255:=by have:=and255 a;omega
theorem andn3(a:Int):Int.tmod (Qg .u32 a 3) 4=0:=by
 have e:(BitVec.ofInt 32 a&&&~~~BitVec.ofInt 32 3).toNat%4=0:=by
   rw[BitVec.toNat_and,show(~~~BitVec.ofInt 32 3).toNat=4294967292 by decide]
   have:=Nat.and_mod_two_pow (a:=(BitVec.ofInt 32 a).toNat) (b:=4294967292) (n:=2)
   simpa using this
 have l:=(BitVec.ofInt 32 a&&&~~~BitVec.ofInt 32 3).isLt
 show Int.tmod (IntKind.wrap .u32 ((BitVec.ofInt 32 a&&&~~~BitVec.ofInt 32 3).toNat:Int)) 4=0
 rw[IntKind.wrap_u32,Int.tmod_eq_emod_of_nonneg (by omega)]
 omega
theorem fin32{f:Int→Int}(h:(List.range 32).all (λn=>decide (f n≤31))=true){s:Int}(h0:0≤s)(h1:s≤31):f s≤31:=by
 have:=List.all_eq_true.1 h s.toNat (List.mem_range.2 (by omega))
 have e:((s.toNat:Nat):Int)=s:=by omega
 rw[e]at this
 exact of_decide_eq_true this
theorem Qkg{c:Q03}(h:Q2s c)(m:Q7c c)(k b:Int):Q7c (Q4w c k b):=
 ⟨m.x0,fin32 (f:=λs=>Qg .u32 (ior .u32 (Q96 (Q96 s 1 8) 2 16) 1) 2) (by kernel_rfl) h.a0.1 m.st,m.en,m.rt,m.ve⟩
theorem Zjd{c:Q03}(h:Q2s c)(m:Q7c c):Q7c (Qe c):=
 ⟨m.x0,fin32 (f:=λs=>Q96 (Q96 s 8 1) 16 2) (by kernel_rfl) h.a0.1 m.st,m.en,m.rt,m.ve⟩
theorem Qte{c:Q03}(m:Q7c c){r:Int}(hr:0≤r∧r<16)(v:Int):(Q8n c r v).w Q7c:=by
 unfold Q8n
 refine w_br (λhn=>w_cn (rc hr) ?_) (λ_=>m)
 have hn:r≠0:=by simpa using hn
 obtain⟨n,e⟩: ∃n:Nat,r.toNat=n+1:=⟨r.toNat-1,by omega⟩
 refine⟨?_,m.st,m.en,m.rt,m.ve⟩
 show(A16.of 0 (List.set (A16.l c.X) r.toNat v)).a0=0
 rw[e]
 exact m.x0
theorem write_may{c:Q03}(m:Q7c c)(k v:Int):(Q76 c k v).w Q7c:=by
 unfold Q76
 refine w_br (λhk=>w_cn (by rw[eq_of_beq hk];decide) ?_) λ_=>w_br (λhk=>w_cn (by rw[eq_of_beq hk];decide) ?_) λ_=>w_br (λhk=>w_cn (by rw[eq_of_beq hk];decide) ?_) λ_=>w_br (λhk=>w_cn (by rw[eq_of_beq hk];decide) ?_) λ_=>w_br (λhk=>w_cn (by rw[eq_of_beq hk];decide) ?_) λ_=>w_br (λhk=>w_cn (by rw[eq_of_beq hk];decide) ?_) λ_=>w_br (λhk=>w_cn (by rw[eq_of_beq hk];decide) ?_) λ_=>w_br (λhk=>w_cn (by rw[eq_of_beq hk];decide) ?_) (λ_=>m)
 all_goals(have hk:=eq_of_beq hk;subst hk)
 · exact⟨m.x0,and31 _,m.en,m.rt,m.ve⟩
 · exact⟨m.x0,m.st,and31 _,m.rt,m.ve⟩
 · exact⟨m.x0,m.st,m.en,and255' _,m.ve⟩
 · exact⟨m.x0,m.st,m.en,m.rt,andn3 _⟩
 · exact⟨m.x0,m.st,m.en,m.rt,m.ve⟩
 · exact⟨m.x0,m.st,m.en,m.rt,m.ve⟩
 · exact⟨m.x0,m.st,m.en,m.rt,m.ve⟩
 · exact⟨m.x0,m.st,m.en,m.rt,m.ve⟩
section
variable {c:Q03} (h:Q2s c) (m:Q7c c) {i:Q0g} (hi:Qeu i)
include h m hi
theorem Zdf:(Q36 c i).w (λr=>Q7c r.1):=by
 unfold Q36
 refine w_cn (rc hi.a) (w_cn (rc hi.b) ?_)
 repeat'(first
   |refine w_br (λ_=> ?_) (λ_=> ?_)
   |exact Q0e (Qte m hi.a _) λx hx=>hx.pc _
   |exact w_lv λx _=>w_br (λ_=>m.pc _) (λ_=>m.pc _)
   |exact w_lv λx hx=>by rw[hx];exact Qkg h m _ _
   |exact w_lv λx hx=>by rw[hx];exact Zjd h m
   |exact w_cn (by have:=hi.csr (by simp_all);simp [Nat.blt];omega) (Q0e (Qte m hi.a _) λx hx=>hx.pc _)
   |exact Q0e (write_may m _ _) λx hx=>hx.pc _
   |refine w_cn (rc hi.c) ?_
   |exact Q0e (Z3w _ (h.r _) (Q0p _)) λy hy=>Q0e (Qte m hi.a _) λx hx=>hx.pc _
   |exact Q0e (Z3w _ (h.r _) (h.r _)) λy hy=>Q0e (Qte m hi.a _) λx hx=>hx.pc _
   |refine w_lf ?_)
 all_goals exact m.pc _
theorem load_may{P:Nat}{mem:List Int}(hm:Q10 P mem):(Q8u c mem i).w (λr=>Q7c r.1):=by
 have w:=Z6v i.Op
 unfold Q8u
 refine w_cn (rc hi.b) (w_lv λx0 h0=> ?_)
 rw[←h0]at w
 refine Q0e (Qjv hm (Q0p _) w 2) λx1 h1=>w_br (λ_=>w_lv λy hy=>by rw[hy];exact Qkg h m _ _) (λ_=>w_lv λx3 h3=> ?_)
 rw[h0,←h3]at w
 exact Q0e (Qpm h1.2 h1.1 w) λx4 h4=>w_br (λ_=>Q0e (Qtr h4.1 8) λy hy=>Q0e (Qte m hi.a _) λx hx=>hx.pc _) (λ_=>Q0e (Qte m hi.a _) λx hx=>hx.pc _)
theorem store_may{P:Nat}{mem:List Int}(hm:Q10 P mem):(Q79 c mem i).w (λr=>Q7c r.1):=by
 have w:=Z6v i.Op
 unfold Q79
 refine w_cn (rc hi.b) (w_lv λx0 h0=> ?_)
 rw[←h0]at w
 refine Q0e (Qjv hm (Q0p _) w 3) λx1 h1=>w_br (λ_=>w_lv λy hy=>by rw[hy];exact Qkg h m _ _) (λ_=>w_lv λx3 h3=>w_cn (rc hi.a) ?_)
 rw[h0,←h3]at w
 exact Q0e (Qwt h1.2 h1.1 w (h.r _)) λx hx=>m.pc _
end
theorem exec_may{c:Q03}(h:Q2s c)(m:Q7c c){P:Nat}{mem:List Int}(hm:Q10 P mem):(Q6h c mem).w (λr=>Q7c r.1):=by
 unfold Q6h
 refine Q0e (Z7f hm h) λx0 h0=>w_br (λ_=>w_lv λy hy=>by rw[hy];exact Qkg h m _ _) (λ_=>Q0e (Qxs _) λx2 h2=>w_br (λ_=>w_lv λy hy=>by rw[hy];exact Qkg h m _ _) (λhb=> ?_))
 have hi:=h2 (by simpa using hb)
 refine w_lv λx4 _=> ?_
 repeat'(first
   |refine w_br (λ_=> ?_) (λ_=> ?_)
   |exact Q0e (load_may h m hi h0.2) λx hx=>hx
   |exact Q0e (store_may h m hi h0.2) λx hx=>hx
   |exact Q0e (Zdf h m hi) λx hx=>hx
   |exact w_lv λy hy=>by rw[hy];exact Qkg h m _ _
   |refine w_lv λ_ _=> ?_)
end Go.Proofs.YtpcbkbalabgnlaaGreat
namespace Go.Proofs.YtpcbkbalabgnlaaGreat
open Go Go.GD
set_option maxRecDepth 100000
theorem Zdo{c:Q03}(h:Q2s c){i:Q0g}(hi:Qeu i):(Q36 c i).w (λr=>0≤r.2.D9∧r.2.D9<16):=by
 have z:(0:Int)≤0∧(0:Int)<16:=⟨by decide,by decide⟩
 unfold Q36
 refine w_cn (rc hi.a) (w_cn (rc hi.b) ?_)
 repeat'(first
   |refine w_br (λ_=> ?_) (λ_=> ?_)
   |exact Q0e (Qov h hi.a (Q0p _)) λx hx=>z
   |exact w_lv λx _=>w_br (λ_=>z) (λ_=>z)
   |exact w_lv λx hx=>z
   |exact w_cn (by have:=hi.csr (by simp_all);simp [Nat.blt];omega) (Q0e (Qov h hi.a (h.a _)) λx hx=>z)
   |exact Q0e (Zh5 h _ (h.r _)) λx hx=>z
   |refine w_cn (rc hi.c) ?_
   |exact Q0e (Z3w _ (h.r _) (Q0p _)) λy hy=>Q0e (Qov h hi.a hy) λx hx=>z
   |exact Q0e (Z3w _ (h.r _) (h.r _)) λy hy=>Q0e (Qov h hi.a hy) λx hx=>z
   |refine w_lf ?_)
 all_goals first|exact z|exact hi.a
theorem Zg5{c:Q03}(h:Q2s c){P:Nat}{mem:List Int}(hm:Q10 P mem):(Q6h c mem).w (λr=>0≤r.2.2.D9∧r.2.2.D9<16):=by
 have z:(0:Int)≤0∧(0:Int)<16:=⟨by decide,by decide⟩
 unfold Q6h
 refine Q0e (Z7f hm h) λx0 h0=>w_br (λ_=>w_lv λy hy=>z) (λ_=>Q0e (Qxs _) λx2 h2=>w_br (λ_=>w_lv λy hy=>z) (λhb=> ?_))
 have hi:=h2 (by simpa using hb)
 refine w_lv λx4 _=> ?_
 repeat'(first
   |refine w_br (λ_=> ?_) (λ_=> ?_)
   |exact Q0e (Qyu h hi h0.2) λx hx=>z
   |exact Q0e (Qul h hi h0.2) λx hx=>z
   |exact Q0e (Zdo h hi) λx hx=>hx
   |exact w_lv λy hy=>z
   |refine w_lv λ_ _=> ?_)
theorem cnd2{a x:Bool}:(bif a then false else x)=true↔a=false∧x=true:=by cases a<;>simp
theorem Qn6(m:Q00):Q1e m=true↔Q0r m.Mem≠0∧Q7c m.B3∧m.A2≤1152921504606846976∧ ¬(m.A6=true∧m.A9=true)∧Q0v m=true:=by
  rw[may_eq]
  unfold mayC chain
  rw[cnd2,cnd2,cnd2,cnd2,cnd2,cnd2,cnd2]
  simp only[decide_eq_false_iff_not,Int.not_lt,beq_eq_false_iff_ne,bne_eq_false_iff_eq,gt_iff_lt]
  constructor
  · rintro⟨a1,a2,a3,a4,a5,a6,a7,a8⟩
    refine⟨a1,⟨a2,a3,a4,a5,a6⟩,a7,?_,?_⟩
    · rintro⟨w,h⟩;rw[w,h]at a8;cases a8
    · revert a8;cases m.A6
      · exact λh=>h
      · cases m.A9
        · exact λh=>h
        · intro h;cases h
  · rintro⟨a1,⟨a2,a3,a4,a5,a6⟩,a7,a8,a9⟩
    refine⟨a1,a2,a3,a4,a5,a6,a7,?_⟩
    rw[a9]
    cases hw:m.A6
    · rfl
    · cases hh:m.A9
      · rfl
      · exact absurd ⟨hw,hh⟩ a8
theorem Qx{m:Q00}(h:Q2x m=true):Q1e m=true∧m.A9=false∧m.A2<1152921504606846976:=by
  simp only[Q2x,Q3i,Tree.m,letv]at h
  cases h1:Q1e m
  · rw[h1]at h;cases h
  · cases h2:m.A9
    · rw[h1,h2]at h
      cases h3:Q6r m
      · rw[h3]at h
        have h:decide (m.A2<1152921504606846976)=true:=h
        exact⟨rfl,rfl,of_decide_eq_true h⟩
      · rw[h3]at h;cases h
    · rw[h1,h2]at h;cases h
theorem Qz0{P:Nat}{m:Q00}(h:okS P m)(g:Q7c m.B3):(Q2h m).w (λr=>Q7c r.B3∧okS P r∧r.Mem=m.Mem∧r.A6=false∧r.A9=m.A9∧r.A2=m.A2∧r.A3=m.A3∧r.B0=m.B0∧r.B1=m.B1∧r.C5=m.C5∧r.A1=m.A1):=by
 obtain⟨h1,h2,h3,h4,h5,h6⟩:=h
 unfold Q2h
 refine w_br (λ_=>⟨g,⟨h1,h2,h3,h4,h5,h6⟩,rfl,rfl,rfl,rfl,rfl,rfl,rfl,rfl,rfl⟩) (λ_=>Q0e (Qtm (m:=⟨_,_,_,_,_,_,m.A1,_,_,_⟩) h6) λx0 _=>w_lp (inv:=λz=>0≤z∧z≤5) (μ:=Qbv m) ⟨by omega,by omega⟩ (Nat.lt_succ_self _) (λz hz=> ?_))
 obtain⟨z1,z2⟩:=hz
 refine w_br (λhb=>w_cn (decide_eq_true z1) (w_br (λ_=>w_lv λx1 hx=>⟨by rw[hx];exact Qkg h1 g _ _,⟨by rw[hx];exact Qmz h1 _ U_0,h2,h3,h4,h5,h6⟩,rfl,rfl,rfl,rfl,rfl,rfl,rfl,rfl,rfl⟩) (λ_=>w_nx ?_))) (λ_=>⟨g,⟨h1,h2,h3,h4,h5,h6⟩,rfl,rfl,rfl,rfl,rfl,rfl,rfl,rfl,rfl⟩)
 have hb:=of_decide_eq_true hb
 show(0≤IntKind.i64.wrap (z+1)∧IntKind.i64.wrap (z+1)≤5)∧(5-IntKind.i64.wrap (z+1)).toNat<(5-z).toNat
 have ew:IntKind.i64.wrap (z+1)=z+1:=by rw[IntKind.wrap_i64];omega
 rw[ew];omega
end Go.Proofs.YtpcbkbalabgnlaaGreat
namespace Go.Proofs.YtpcbkbalabgnlaaGreat
open Go Go.GD
set_option maxRecDepth 100000
structure Good(P:Nat)(m r:Q00):Prop where
 ok:okS P r
 cnt:0≤r.A2
 may:Q1e m=true→Q1e r=true
 or:r=m∨r.A2=m.A2+1
end Go.Proofs.YtpcbkbalabgnlaaGreat
namespace Go.Proofs.YtpcbkbalabgnlaaGreat
open Go Go.GD
set_option maxRecDepth 100000
end Go.Proofs.YtpcbkbalabgnlaaGreat
namespace Go.Proofs.YtpcbkbalabgnlaaGreat
open Go Go.GD
set_option maxRecDepth 100000
theorem step_w0{P:Nat}{m:Q00}(h:okS P m)(hc0:0≤m.A2){clock:Int}(hk:U clock):(Q31 m clock).w (λr=>r.2.length≤1∧Good P m r.1):=by
 have hcl:Q02 m.Mem=m.Mem:=rfl
 unfold Q31
 refine w_an (Q9x h.mem) (w_lv λl hl=> ?_)
 rw[hcl]at hl;subst hl
 refine w_an (Tree.pp (Zev (m:=⟨_,_,_,_,_,_,m.A1,_,_,_⟩) h.given)).1 (w_lv λx1 hx1=>w_br (λ_=>⟨Nat.zero_le _,h,hc0,λh=>h, .inl rfl⟩) (λhb=> ?_))
 have hr:Q2x m=true:=by rw[←show x1=Q2x m from hx1];simpa using hb
 obtain⟨hm,hh,hct⟩:=Qx hr
 obtain⟨g1,g2,g3,g4,g5⟩:=(Qn6 m).1 hm
 have hP:(P:Int)≠0:=by rw[←Q40 h.mem];exact g1
 have fin: ∀(n:Q00),okS P n→Q7c n.B3→Q0v n=true→n.A2=m.A2→ ¬(n.A6=true∧n.A9=true)→Good P m {B3:=n.B3,Mem:=n.Mem,A3:=n.A3,B0:=n.B0,B1:=n.B1,C5:=n.C5,A1:=n.A1,A2:=IntKind.wrap .u64 (n.A2+1),A6:=n.A6,A9:=n.A9}:=λn a b c d e=>by
   have ec:IntKind.wrap .u64 (n.A2+1)=m.A2+1:=by rw[d,IntKind.wrap_u64];omega
   refine⟨⟨a.cpu,a.mem,a.disk,a.nic,a.target,a.given⟩,?_,λ_=>(Qn6 _).2 ⟨?_,b,?_,e,c⟩, .inr ec⟩
   · show 0≤IntKind.wrap .u64 (n.A2+1);omega
   · show Q0r n.Mem≠0;rw[Q40 a.mem];exact hP
   · show IntKind.wrap .u64 (n.A2+1)≤_;omega
 refine Q0e (Qz0 (m:=⟨_,_,m.A3,m.B0,m.B1,m.C5,m.A1,m.A2,m.A6,m.A9⟩) ⟨h.cpu,h.mem,h.disk,h.nic,h.target,h.given⟩ g2) λx2 hx2=> ?_
 obtain⟨b1,b2,b3,b4,b5,b6,b7,b8,b9,b10,b11⟩:=hx2
 have ex:=Tree.pp (execP_w b2.cpu b2.mem)
 have em:=Tree.pp (exec_may b2.cpu b1 b2.mem)
 have er:=Tree.pp (Zg5 b2.cpu b2.mem)
 refine w_an ex.1 (w_lv λx3 h3=> ?_)
 obtain⟨e1,e2,e3⟩:Q2s x3.1∧Q10 P x3.2.1∧U x3.2.2.Value:=by rw[h3];exact ex.2
 have f1:Q7c x3.1:=by rw[h3];exact em.2
 have r1:0≤x3.2.2.D9∧x3.2.2.D9<16:=by rw[h3];exact er.2
 have ok3:okS P ⟨x3.1,x3.2.1,x2.A3,x2.B0,x2.B1,x2.C5,x2.A1,x2.A2,x2.A6,x2.A9⟩:=⟨e1,e2,b2.disk,b2.nic,b2.target,b2.given⟩
 have dev: ∀(w h:Bool),Q0v ⟨x3.1,x3.2.1,x2.A3,x2.B0,x2.B1,x2.C5,x2.A1,x2.A2,w,h⟩=true:=λw hh=>by
   have id: ∀{p:Prop},p→p:=λh=>h
   refine Qo2 (m:=m) (P:=P) h.mem e2 ?_ ?_ ?_ ?_ ?_ g5
   · show _→Q2e x2.A3=true;rw[b7];exact id
   · show _→Q4i x2.B0=true;rw[b8];exact id
   · show _→Q1i x2.B1 P=true;rw[b9];exact id
   · show _→Q69 x2.C5 P=true;rw[b10];exact id
   · show _→Q2r x2.A1 P=true;rw[b11];exact id
 have hw:x2.A6=false:=b4
 have hh2:x2.A9=false:=b5.trans hh
 have hct2:x2.A2=m.A2:=b6
 refine w_br (λ_=> ?_) λ_=>w_br (λ_=> ?_) λ_=>w_br (λ_=> ?_) λ_=>w_br (λ_=> ?_) λ_=> ?_
 · refine Q0e (Zir ok3 _ hk) λx4 h4=> ?_
   obtain⟨k,u⟩:=h4
   have kc:x4.1.B3=x3.1:=k.cpu
   have kt:x4.1.A2=m.A2:=k.cnt.trans hct2
   have kw: ¬(x4.1.A6=true∧x4.1.A9=true):=λe=>by have:x4.1.A6=x2.A6:=k.wait;rw[this,hw]at e;cases e.1
   have km:Q7c x4.1.B3:=by rw[kc];exact f1
   refine w_br (λhn=>w_cn (rc r1) ⟨Nat.zero_le _,?_⟩) (λ_=>⟨Nat.zero_le _,fin x4.1 k.ok km (k.dev (dev _ _)) kt kw⟩)
   have hn:x3.2.2.D9≠0:=by simpa using hn
   obtain⟨q,e⟩: ∃q:Nat,x3.2.2.D9.toNat=q+1:=⟨x3.2.2.D9.toNat-1,by omega⟩
   refine fin ⟨⟨A16.of 0 (List.set (A16.l x4.1.B3.X) x3.2.2.D9.toNat x4.2),x4.1.B3.Pc,x4.1.B3.B6⟩,x4.1.Mem,x4.1.A3,x4.1.B0,x4.1.B1,x4.1.C5,x4.1.A1,x4.1.A2,x4.1.A6,x4.1.A9⟩ ⟨⟨Zeu k.ok.cpu.x u _,k.ok.cpu.pc,k.ok.cpu.csr⟩,k.ok.mem,k.ok.disk,k.ok.nic,k.ok.target,k.ok.given⟩ ⟨?_,km.st,km.en,km.rt,km.ve⟩ (k.dev (dev _ _)) kt kw
   show(A16.of 0 (List.set (A16.l x4.1.B3.X) x3.2.2.D9.toNat x4.2)).a0=0
   rw[e]
   exact km.x0
 · refine Q0e (Zdv ok3 _ e3 _) λx5 h5=> ?_
   obtain⟨k,u⟩:=h5
   have kc:x5.1.B3=x3.1:=k.cpu
   exact⟨u,fin x5.1 k.ok (by rw[kc];exact f1) (k.dev (dev _ _)) (k.cnt.trans hct2) (λe=>by have:x5.1.A6=x2.A6:=k.wait;rw[this,hw]at e;cases e.1)⟩
 · exact⟨Nat.zero_le _,fin ⟨x3.1,x3.2.1,x2.A3,x2.B0,x2.B1,x2.C5,x2.A1,x2.A2,true,x2.A9⟩ ⟨e1,e2,b2.disk,b2.nic,b2.target,b2.given⟩ f1 (dev _ _) hct2 (λe=>by have e2:x2.A9=true:=e.2;rw[hh2]at e2;cases e2)⟩
 · exact⟨Nat.zero_le _,fin ⟨x3.1,x3.2.1,x2.A3,x2.B0,x2.B1,x2.C5,x2.A1,x2.A2,x2.A6,true⟩ ⟨e1,e2,b2.disk,b2.nic,b2.target,b2.given⟩ f1 (dev _ _) hct2 (λe=>by have e2:x2.A6=true:=e.1;rw[hw]at e2;cases e2)⟩
 · exact⟨Nat.zero_le _,fin ⟨x3.1,x3.2.1,x2.A3,x2.B0,x2.B1,x2.C5,x2.A1,x2.A2,x2.A6,x2.A9⟩ ok3 f1 (dev _ _) hct2 (λe=>by have e2:x2.A6=true:=e.1;rw[hw]at e2;cases e2)⟩
theorem Zhj{P:Nat}{m:Q00}(h:okM P m){e:Q09}(he:U e.N):(Q32 m e).w (λr=>(Q1e m=true→Q1e r.1=true)∧r.1.A2=m.A2∧U r.1.A1.C1):=by
 obtain⟨h1,h2,h3,h4,h5,h7⟩:=h
 have hcl:Q02 m.Mem=m.Mem:=rfl
 have pg: ∀{m':List Int},Q10 P m'→Q0r m'=Q0r m.Mem:=λh=>by rw[Q40 h,Q40 h2]
 have keep:(Q1e m=true→Q1e m=true)∧m.A2=m.A2∧U m.A1.C1:=⟨λh=>h,rfl,h5.2⟩
 unfold Q32
 refine w_an (Q9x h2) (w_lv λl hl=> ?_)
 rw[hcl]at hl;subst hl
 refine Q0e (Zhd (m:=⟨_,_,_,_,_,_,m.A1,_,_,_⟩) h5.2) λx1 _=>w_br (λ_=>keep) λ_=>w_br (λ_=>keep) λ_=> ?_
 refine w_br (λ_=>w_br (λ_=>w_br (λ_=>w_lv λx hx=> ?_) (λ_=>keep)) (λ_=>keep)) λ_=>w_br (λ_=>w_br (λ_=>w_br (λ_=>Q0e (ctype_w _ _) λx hx=> ?_) (λ_=>keep)) (λ_=>keep)) λ_=>w_br (λhk=>Q0e (Zk8 h2 h3 e) λx hx=> ?_) λ_=>w_br (λhk=>w_br (λ_=>Q0e (receive_w h2 h4 _) λx hx=> ?_) (λ_=>keep)) λ_=>w_br (λ_=>w_br (λ_=> ?_) (λ_=>keep)) (λ_=>keep)
 · exact⟨Qro rfl rfl rfl rfl rfl (λh=>h) (λh=>by rw[hx];exact fire_may _ h) (λ_ h=>h) (λ_ h=>h) rfl,rfl,h5.2⟩
 · exact⟨Qro rfl rfl rfl rfl rfl hx (λh=>h) (λ_ h=>h) (λ_ h=>h) rfl,rfl,h5.2⟩
 · obtain⟨a1,a2,a3,a4,a5⟩:=hx
   exact⟨Qro (pg a2) rfl rfl rfl rfl (λh=>h) (λh=>h) a5 (λ_ h=>h) rfl,rfl,h5.2⟩
 · obtain⟨a1,a2,a3,a4,a5⟩:=hx
   exact⟨Qro (pg a2) rfl rfl rfl rfl (λh=>h) (λh=>h) (λ_ h=>h) a5 rfl,rfl,h5.2⟩
 · exact⟨Qro rfl rfl rfl rfl rfl (λh=>h) (λh=>h) (λ_ h=>h) (λ_ h=>h) rfl,rfl,h5.2⟩
end Go.Proofs.YtpcbkbalabgnlaaGreat
namespace Go.Proofs.YtpcbkbalabgnlaaGreat
open Go Go.GD
set_option maxRecDepth 100000
structure okW(m:Q00):Prop where
 cpu:Q2s m.B3
 u: ∀w∈m.Mem,U w
 len:m.Mem.length≤1024
 disk:Q95 m.B1
 nic:Qie m.C5
 bal:okB m.A1
 cnt:0≤m.A2
end Go.Proofs.YtpcbkbalabgnlaaGreat
namespace Go.Proofs.YtpcbkbalabgnlaaGreat
open Go Go.GD
set_option maxRecDepth 100000
theorem Qu5{a:Int}(h:U a):(BitVec.ofInt 32 a).toNat=a.toNat:=by
 obtain⟨h1,h2⟩:=h
 rw[BitVec.toNat_ofInt];omega
theorem Zdx{a b:Int}(ha:U a)(hb:U b):iand .u32 a b=((a.toNat&&&b.toNat:Nat):Int):=by
 have l:=(BitVec.ofInt 32 a&&&BitVec.ofInt 32 b).isLt
 have e:(BitVec.ofInt 32 a&&&BitVec.ofInt 32 b).toNat=a.toNat&&&b.toNat:=by rw[BitVec.toNat_and,Qu5 ha,Qu5 hb]
 show IntKind.wrap .u32 ((BitVec.ofInt 32 a&&&BitVec.ofInt 32 b).toNat:Int)=_
 rw[IntKind.wrap_u32,←e];omega
theorem or_nat{a b:Int}(ha:U a)(hb:U b):ior .u32 a b=((a.toNat|||b.toNat:Nat):Int):=by
 have l:=(BitVec.ofInt 32 a|||BitVec.ofInt 32 b).isLt
 have e:(BitVec.ofInt 32 a|||BitVec.ofInt 32 b).toNat=a.toNat|||b.toNat:=by rw[BitVec.toNat_or,Qu5 ha,Qu5 hb]
 show IntKind.wrap .u32 ((BitVec.ofInt 32 a|||BitVec.ofInt 32 b).toNat:Int)=_
 rw[IntKind.wrap_u32,←e];omega
theorem Z5x{a:Int}(ha:U a)(k:Nat)(hk:k≤32){q:Int}(hq:q=((2^k-1:Nat):Int)):iand .u32 a q=a%2^k:=by
 have hp:2^k≤2^32:=Nat.pow_le_pow_right (by decide) hk
 have h1:(2:Nat)^32=4294967296:=by decide
 have hpos:=Nat.two_pow_pos k
 subst hq
 rw[Zdx ha ⟨by omega,by omega⟩,Int.toNat_natCast,Nat.and_two_pow_sub_one_eq_mod]
 have:=ha.1
 rw[Int.natCast_emod,Int.toNat_of_nonneg this]
 simp
theorem m15{a:Int}(ha:U a):iand .u32 a 15=a%16:=Z5x ha 4 (by decide) rfl
theorem m255{a:Int}(ha:U a):iand .u32 a 255=a%256:=Z5x ha 8 (by decide) rfl
theorem m65535{a:Int}(ha:U a):iand .u32 a 65535=a%65536:=Z5x ha 16 (by decide) rfl
theorem Qrb(p:Int→Bool)(N:Nat)(h:(List.range N).all (λn=>p n)=true){s:Int}(h0:0≤s)(h1:s<N):p s=true:=by
 have:=List.all_eq_true.1 h s.toNat (List.mem_range.2 (by omega))
 rwa [Int.toNat_of_nonneg h0]at this
theorem w64{x:Int}(h0: -9223372036854775808≤x)(h1:x<9223372036854775808):IntKind.wrap .i64 x=x:=by rw[IntKind.wrap_i64];omega
theorem shr0(a:Int):ishr .u32 a 0=a:=by have:=Qp0 (a:=a) 0 (by decide);simpa using this
theorem fld(w:Int):Q39 w 24 8=iand .u32 (ishr .u32 w 24) 255∧Q39 w 20 4=iand .u32 (ishr .u32 w 20) 15∧Q39 w 16 4=iand .u32 (ishr .u32 w 16) 15∧Q39 w 0 16=iand .u32 (ishr .u32 w 0) 65535∧Q39 w 8 8=iand .u32 (ishr .u32 w 8) 255:=
 ⟨by kernel_rfl,by kernel_rfl,by kernel_rfl,by kernel_rfl,by kernel_rfl⟩
def useOf(f:Int):Q97×Bool:=
 bif f==1 then(⟨false,false,false,0,0⟩,true) else bif f==2 then(⟨true,true,true,0,0⟩,true) else bif f==3 then(⟨true,true,false,-32768,32767⟩,true)
 else bif f==4 then(⟨true,true,false,0,65535⟩,true) else bif f==5 then(⟨true,true,false,0,31⟩,true) else bif f==6 then(⟨true,false,false,0,65535⟩,true)
 else bif f==7 then(⟨true,false,false,-32768,32767⟩,true) else bif f==8 then(⟨true,false,false,0,7⟩,true) else bif f==9 then(⟨true,false,false,0,11⟩,true) else(⟨false,false,false,0,0⟩,false)
def sameU(x y:Q97×Bool):Bool:=x.1.a==y.1.a&&x.1.b==y.1.b&&x.1.c==y.1.c&&x.1.low==y.1.low&&x.1.D4==y.1.D4&&x.2==y.2
theorem sameU_eq{x y:Q97×Bool}(h:sameU x y=true):x=y:=by
 obtain⟨⟨a,b,c,d,e⟩,f⟩:=x
 obtain⟨⟨a',b',c',d',e'⟩,f'⟩:=y
 simp only[sameU,Bool.and_eq_true,beq_iff_eq]at h
 obtain⟨⟨⟨⟨⟨rfl,rfl⟩,rfl⟩,rfl⟩,rfl⟩,rfl⟩:=h
 rfl
theorem use_eq{op:Int}(h0:0≤op)(h1:op<256):Qzc op=useOf (Q2i op):=by
 exact sameU_eq (Qrb (λop=>sameU (Qzc op) (useOf (Q2i op))) 256 (by kernel_rfl) h0 h1)
theorem form_le{op:Int}(h0:0≤op)(h1:op<256):Q2i op=0∨Q2i op=1∨Q2i op=2∨Q2i op=3∨Q2i op=4∨Q2i op=5∨Q2i op=6∨Q2i op=7∨Q2i op=8∨Q2i op=9:=by
 have:=of_decide_eq_true (Qrb (λop=>decide (0≤Q2i op∧Q2i op≤9)) 256 (by kernel_rfl) h0 h1)
 omega
theorem priv_eq{op:Int}(h0:0≤op)(h1:op<256):Q8z op=Q3o op:=by
 exact eq_of_beq (Qrb (λop=>Q8z op==Q3o op) 256 (by kernel_rfl) h0 h1)
theorem cond_iff{a x y:Bool}:(cond a x y=true)↔((a=true∧x=true)∨(a=false∧y=true)):=by cases a<;>simp
theorem Z5w{i:Q0g}(h0:0≤i.Op)(h1:i.Op<256)(hi:IntKind.wrap .i64 i.Imm=i.Imm):Qf9 i=Q7j i:=by
 rw[Bool.eq_iff_iff]
 simp only[Qf9,Qgt,Tree.m,letv,Q7j,Qez,use_eq h0 h1,hi]
 rcases form_le h0 h1 with h|h|h|h|h|h|h|h|h|h<;>rw[h]<;>
 simp [useOf,Q9p,Qeb,Q8f,Qda,Ql0,Qkw,Tree.m,letv,cond_iff]<;>omega
theorem sx16{x:Int}(h0:0≤x)(h1:x<65536):IntKind.wrap .i32 (Q2d x 16)=IntKind.wrap .i32 (IntKind.wrap .i16 x):=by
 have e:Q2d x 16=IntKind.wrap .u32 (ishr .i32 (IntKind.wrap .i32 (ishl .u32 x 16)) 16):=by kernel_rfl
 have e2: ∀y,ishr .i32 y 16=y/65536:=λy=>by
   show Int.fdiv y 65536=_
   rw[Int.fdiv_eq_ediv_of_nonneg _ (by decide)]
 have e3:ishl .u32 x 16=IntKind.wrap .u32 (x*65536):=rfl
 have e4:IntKind.wrap .i16 x=(x+32768)%65536-32768:=by
   simp [IntKind.wrap,IntKind.bits,IntKind.signed]
   split<;>omega
 rw[e,e2,e3,e4]
 simp only[IntKind.wrap_i32,IntKind.wrap_u32]
 omega
theorem sx8{x:Int}(h0:0≤x)(h1:x<256):Q2d x 8=Q3q x 8:=by
 exact eq_of_beq (Qrb (λx=>Q2d x 8==Q3q x 8) 256 (by kernel_rfl) h0 h1)
theorem decode_eq{w:Int}(hw:U w):Qgg w=Q1z w:=by
 obtain⟨f1,f2,f3,f4,_⟩:=fld w
 obtain⟨w0,w1⟩:=hw
 have s24:ishr .u32 w 24=w/16777216:=by have:=Qp0 (a:=w) 24 (by decide);simpa using this
 have s20:U (ishr .u32 w 20):=Qu3 ⟨w0,w1⟩ _
 have s16:U (ishr .u32 w 16):=Qu3 ⟨w0,w1⟩ _
 rw[m255 (Qu3 ⟨w0,w1⟩ _),s24]at f1
 rw[m15 s20]at f2
 rw[m15 s16]at f3
 rw[shr0]at f4
 have g1:w/16777216%256=w/16777216:=by omega
 rw[g1]at f1
 have o0:0≤w/16777216:=by omega
 have o1:w/16777216<256:=by omega
 have eo:IntKind.wrap .i64 (w/16777216)=w/16777216:=w64 (by omega) (by omega)
 have i32: ∀x,IntKind.wrap .i64 (IntKind.wrap .i32 x)=IntKind.wrap .i32 x:=λx=>by rw[IntKind.wrap_i64,IntKind.wrap_i32];omega
 have l0:=m65535 ⟨w0,w1⟩
 have lx:=sx16 (x:=iand .u32 w 65535) (by omega) (by omega)
 simp only[Qgg,Q6w,Q1z,Q6u,Tree.m,letv,f1,f2,f3,f4,s24,eo,use_eq o0 o1,m15 s20,m15 s16,lx]
 generalize w/16777216=op at*
 generalize IntKind.wrap .i64 (ishr .u32 w 20%16)=a
 generalize IntKind.wrap .i64 (ishr .u32 w 16%16)=b
 generalize iand .u32 w 65535=l
 rw[Z5w (i:=⟨op,a,b,IntKind.wrap .i64 l,0⟩) o0 o1 rfl,Z5w (i:=⟨op,a,b,0,IntKind.wrap .i32 (IntKind.wrap .i16 l)⟩) o0 o1 (i32 _),Z5w (i:=⟨op,a,b,0,IntKind.wrap .i32 l⟩) o0 o1 (i32 _)]
 rcases form_le o0 o1 with h|h|h|h|h|h|h|h|h|h<;>rw[h]<;>rfl
end Go.Proofs.YtpcbkbalabgnlaaGreat
namespace Go.Proofs.YtpcbkbalabgnlaaGreat
open Go Go.GD
set_option maxRecDepth 100000
theorem put_nat(x v:BitVec 32)(s:Nat)(hs:s≤24):((x&&&~~~(255#32<<<s))|||((v&&&255#32)<<<s)).toNat=2^(s+8)*(x.toNat/2^(s+8))+(2^s*(v.toNat%256)+x.toNat%2^s):=by
  have hx:=x.isLt
  have h1:x.toNat%2^s<2^s:=Nat.mod_lt _ (Nat.two_pow_pos s)
  have h2:2^s*(v.toNat%256)+x.toNat%2^s<2^(s+8):=by
    have:v.toNat%256<256:=Nat.mod_lt _ (by decide)
    have h3:2^s*(v.toNat%256)≤2^s*255:=Nat.mul_le_mul_left _ (by omega)
    have:2^(s+8)=2^s*256:=by rw[Nat.pow_add]
    omega
  rw[Nat.two_pow_add_eq_or_of_lt h2,Nat.two_pow_add_eq_or_of_lt h1]
  apply Nat.eq_of_testBit_eq
  intro i
  rw[BitVec.testBit_toNat]
  simp only[BitVec.getLsbD_or,BitVec.getLsbD_and,BitVec.getLsbD_not,BitVec.getLsbD_shiftLeft,Nat.testBit_or,Nat.testBit_two_pow_mul,Nat.testBit_mod_two_pow,Nat.testBit_div_two_pow,BitVec.getLsbD_ofNat]
  have e255: ∀j,Nat.testBit 255 j=decide (j<8):=λj=>by
    rw[show 255=2^8-1 from rfl,Nat.testBit_two_pow_sub_one]
  have e256: ∀n j,Nat.testBit (n%256) j=(decide (j<8)&&Nat.testBit n j):=λn j=>by
    rw[show 256=2^8 from rfl,Nat.testBit_mod_two_pow]
  rw[e255,e256]
  by_cases hi:i<32
  · by_cases a1:i<s
    · have a2: ¬(s≤i):=by omega
      have a3: ¬(s+8≤i):=by omega
      simp [hi,a1,a2,a3,BitVec.getLsbD]
    · by_cases a4:s+8≤i
      · have a2: ¬(i-s<8):=by omega
        have a5:i-(s+8)+(s+8)=i:=by omega
        have a6:s≤i:=by omega
        simp [hi,a1,a2,a4,a5,a6,BitVec.getLsbD]
      · have a2:(i-s<8):=by omega
        have a6:s≤i:=by omega
        have a7:i-s<32:=by omega
        simp [hi,a1,a2,a4,a6,a7,BitVec.getLsbD]
  · have a0:x.toNat.testBit i=false:=Nat.testBit_lt_two_pow (Nat.lt_of_lt_of_le hx (Nat.pow_le_pow_right (by decide) (by omega)))
    have a1: ¬(i<s):=by omega
    have a2: ¬(i-s<8):=by omega
    have a4:s+8≤i:=by omega
    have a5:i-(s+8)+(s+8)=i:=by omega
    simp [hi,a0,a1,a2,a4,a5]
theorem Z3z(b:BitVec 32):BitVec.ofInt 32 (IntKind.wrap .u32 (b.toNat:Int))=b:=by
 have:=b.isLt
 rw[IntKind.wrap_u32]
 apply BitVec.eq_of_toNat_eq
 rw[BitVec.toNat_ofInt];omega
theorem Ziu(x:Int):BitVec.ofInt 32 (IntKind.wrap .u32 x)=BitVec.ofInt 32 x:=by
 apply BitVec.eq_of_toNat_eq
 rw[BitVec.toNat_ofInt,BitVec.toNat_ofInt,IntKind.wrap_u32]
 have:((2^32:Nat):Int)=4294967296:=by decide
 rw[this,Int.emod_emod_of_dvd _ (Int.dvd_refl _)]
theorem Z9f{x:Int}(hx:U x)(s:Nat)(hs:s≤32):BitVec.ofInt 32 (ishl .u32 x s)=BitVec.ofInt 32 x<<<s:=by
 obtain⟨n,rfl⟩: ∃n:Nat,x=n:=⟨x.toNat,by have:=hx.1;omega⟩
 have e:min (Int.toNat (s:Int)) IntKind.u32.bits=s:=by show min (Int.toNat (s:Int)) 32=s;omega
 unfold ishl
 rw[e,Ziu]
 have e2:((n:Int)*2^s)=((n*2^s:Nat):Int):=by simp
 have:=hx.2
 rw[e2,BitVec.ofInt_natCast,BitVec.ofInt_natCast]
 apply BitVec.eq_of_toNat_eq
 rw[BitVec.toNat_shiftLeft,BitVec.toNat_ofNat,BitVec.toNat_ofNat,Nat.shiftLeft_eq,Nat.mod_mul_mod]
def putW(W v:Int)(s:Nat):Int:=ior .u32 (Qg .u32 W (ishl .u32 255 s)) (ishl .u32 (iand .u32 v 255) s)
theorem put_num{W v:Int}(hW:U W)(hv:U v)(s:Nat)(hs:s≤24):putW W v s=2^(s+8)*(W/2^(s+8))+(2^s*(v%256)+W%2^s):=by
 have e:=put_nat (BitVec.ofInt 32 W) (BitVec.ofInt 32 v) s hs
 have l:=((BitVec.ofInt 32 W&&&~~~(255#32<<<s))|||((BitVec.ofInt 32 v&&&255#32)<<<s)).isLt
 have h1:BitVec.ofInt 32 (Qg .u32 W (ishl .u32 255 s))=BitVec.ofInt 32 W&&&~~~(255#32<<<s):=by
   show BitVec.ofInt 32 (IntKind.wrap .u32 (BitVec.ofInt 32 W&&&~~~BitVec.ofInt 32 (ishl .u32 255 s)).toNat)=_
   rw[Z3z,Z9f ⟨by decide,by decide⟩ s (by omega)]
   rfl
 have h2:BitVec.ofInt 32 (ishl .u32 (iand .u32 v 255) s)=(BitVec.ofInt 32 v&&&255#32)<<<s:=by
   rw[Z9f (Zd9 _ _) s (by omega)]
   congr 1
   show BitVec.ofInt 32 (IntKind.wrap .u32 (BitVec.ofInt 32 v&&&BitVec.ofInt 32 255).toNat)=_
   rw[Z3z];rfl
 show IntKind.wrap .u32 ((BitVec.ofInt 32 (Qg .u32 W (ishl .u32 255 s))|||BitVec.ofInt 32 (ishl .u32 (iand .u32 v 255) s)).toNat:Int)=_
 rw[h1,h2]
 have lw:IntKind.wrap .u32 ((((BitVec.ofInt 32 W&&&~~~(255#32<<<s))|||((BitVec.ofInt 32 v&&&255#32)<<<s)).toNat:Nat):Int)=(((BitVec.ofInt 32 W&&&~~~(255#32<<<s))|||((BitVec.ofInt 32 v&&&255#32)<<<s)).toNat:Nat):=by rw[IntKind.wrap_u32];omega
 rw[lw,e,Qu5 hW,Qu5 hv]
 obtain⟨n,rfl⟩: ∃n:Nat,W=n:=⟨W.toNat,by have:=hW.1;omega⟩
 obtain⟨k,rfl⟩: ∃n:Nat,v=n:=⟨v.toNat,by have:=hv.1;omega⟩
 simp
def dig(w:Int)(k:Nat):Int:=if k=0 then w%256 else if k=1 then w/256%256 else if k=2 then w/65536%256 else w/16777216%256
def byt(m:List Int)(a:Nat):Int:=dig (m.getD (a/4) 0) (a%4)
theorem dig_lt(w:Int)(k:Nat):0≤dig w k∧dig w k<256:=by
 unfold dig
 split
 · omega
 · split
   · omega
   · split<;>omega
theorem dig_ext{w v:Int}(hw:U w)(hv:U v)(h: ∀k,k<4→dig w k=dig v k):w=v:=by
 have h0:=h 0 (by omega)
 have h1:=h 1 (by omega)
 have h2:=h 2 (by omega)
 have h3:=h 3 (by omega)
 simp [dig]at h0 h1 h2 h3
 obtain⟨a,b⟩:=hw
 obtain⟨c,d⟩:=hv
 omega
theorem Zed{m n:List Int}(hl:m.length=n.length)(hm: ∀w∈m,U w)(hn: ∀w∈n,U w)(h: ∀a,byt m a=byt n a):m=n:=by
 refine List.ext_getElem hl λi h1 h2=> ?_
 have e1:m[i]=m.getD i 0:=by simp [List.getD,h1]
 have e2:n[i]=n.getD i 0:=by simp [List.getD,h2]
 rw[e1,e2]
 refine dig_ext (Qjs hm i) (Qjs hn i) λk hk=> ?_
 have:=h (4*i+k)
 simp only[byt]at this
 rwa [show(4*i+k)/4=i by omega,show(4*i+k)%4=k by omega]at this
theorem Qq4{l:List Int}{i:Nat}(h:i<l.length)(v:Int):(l.set i v).getD i 0=v:=by
 simp [List.getD,h]
theorem Zdz{m:List Int}{i:Nat}(hi:i<m.length)(v:Int)(a:Nat):byt (m.set i v) a=if a/4=i then dig v (a%4) else byt m a:=by
 unfold byt
 split
 · rename_i h;rw[h,Qq4 hi]
 · rename_i h;rw[getDset _ _ _ _ (λe=>h e.symm)]
theorem put_dig{W v:Int}(hW:U W)(hv:U v){j:Nat}(hj:j<4){k:Nat}(hk:k<4):dig (putW W v (8*j)) k=if k=j then v%256 else dig W k:=by
 have h:=put_num hW hv (8*j) (by omega)
 rw[h]
 obtain⟨w0,w1⟩:=hW
 have h0:0≤v%256:=by omega
 have h1:v%256<256:=by omega
 generalize v%256=b at*
 clear h
 have hj:j=0∨j=1∨j=2∨j=3:=by omega
 have hk:k=0∨k=1∨k=2∨k=3:=by omega
 rcases hj with rfl|rfl|rfl|rfl<;>rcases hk with rfl|rfl|rfl|rfl<;>simp [dig]<;>omega
theorem puts_eq{m:List Int}{a v:Int}(ha:U a):Qa5 m a 1 v=m.set (a/4).toNat (putW (m.getD (a/4).toNat 0) v (8*(a%4).toNat)):=by
 obtain⟨a0,a1⟩:=ha
 have e1:IntKind.wrap .u32 (Int.tdiv a 4)=a/4:=by rw[IntKind.wrap_u32,Int.tdiv_eq_ediv_of_nonneg a0];omega
 have e2:IntKind.wrap .u32 (8*Int.tmod a 4)=((8*(a%4).toNat:Nat):Int):=by rw[IntKind.wrap_u32,Int.tmod_eq_emod_of_nonneg a0];omega
 have e3:((1:Int)==4)=false:=rfl
 simp only[Qa5,Qdv,Tree.m,e1,e2,e3,cond_false]
 rfl
theorem puts_byte{P:Nat}{m:List Int}(h:Q10 P m){a v:Int}(ha:U a)(hl:a<128*P)(hv:U v):Q10 P (Qa5 m a 1 v)∧ ∀b:Nat,byt (Qa5 m a 1 v) b=if(b:Int)=a then v%256 else byt m b:=by
 have hlen:=h.len
 have a0:=ha.1
 rw[puts_eq ha]
 have hi:(a/4).toNat<m.length:=by omega
 refine⟨⟨by rw[List.length_set];exact hlen,h.p1,h.p2,Z1b h.u (U_or _ _) _⟩,λb=> ?_⟩
 rw[Zdz hi]
 by_cases hb:b/4=(a/4).toNat
 · rw[if_pos hb,put_dig (Qjs h.u _) hv (by omega) (by omega)]
   by_cases hc:b%4=(a%4).toNat
   · rw[if_pos hc,if_pos (by omega)]
   · rw[if_neg hc,if_neg (by omega),byt,hb]
 · rw[if_neg hb,if_neg (by omega)]
theorem fill_b{P:Nat}{m:List Int}(h:Q10 P m){frame:Int}(f0:0≤frame)(f1:frame<P)(s:List UInt8):(Q9z m frame s).w (λr=>Q10 P r∧ ∀b:Nat,byt r b=if frame*128≤b∧(b:Int)<frame*128+min s.length 128 then((s.getD (b-frame*128).toNat 0).toNat:Int) else byt m b):=by
 unfold Q9z
 have h3:=h.p2
 refine w_lp (inv:=λz=>0≤z.1∧z.1≤min s.length 128∧Q10 P z.2∧ ∀b:Nat,byt z.2 b=if frame*128≤b∧(b:Int)<frame*128+z.1 then((s.getD (b-frame*128).toNat 0).toNat:Int) else byt m b) (μ:=Qhf m frame s) ⟨show(0:Int)≤0 by decide,by show(0:Int)≤_;omega,h,λb=>by rw[if_neg];show¬(_∧_<_+(0:Int));omega⟩ (Nat.lt_succ_self _) (λv0 hv0=> ?_)
 obtain⟨i,mm⟩:=v0
 obtain⟨i0,i1,hm,hy⟩:=hv0
 have i0:0≤i:=i0
 have i1:i≤min s.length 128:=i1
 have hm:Q10 P mm:=hm
 have fin: ∀r:List Int,r=mm→i=min s.length 128→Q10 P r∧ ∀b:Nat,byt r b=if frame*128≤b∧(b:Int)<frame*128+min s.length 128 then((s.getD (b-frame*128).toNat 0).toNat:Int) else byt m b:=λr hr hi=>by
   subst hr;refine⟨hm,λb=> ?_⟩
   rw[hy b];simp only[hi]
 refine w_br (λh1=>w_br (λh2=>w_cn ?_ ?_) (λh2=>fin mm rfl ?_)) (λh1=>fin mm rfl ?_)
 · have:=of_decide_eq_true h1
   simp [Nat.blt];omega
 · have h1:i<s.length:=of_decide_eq_true h1
   have h2:i<128:=of_decide_eq_true h2
   have e:IntKind.wrap IntKind.u32 (IntKind.wrap IntKind.i64 (IntKind.wrap IntKind.i64 (frame*128)+i))=frame*128+i:=by
     rw[IntKind.wrap_u32,IntKind.wrap_i64,IntKind.wrap_i64];omega
   show(Tree.an (Qes mm (IntKind.wrap IntKind.u32 (IntKind.wrap IntKind.i64 (IntKind.wrap IntKind.i64 (frame*128)+i))) 1 _) (Tree.lv _ _)).w _
   rw[e]
   have hu:U (frame*128+i):=⟨by omega,by omega⟩
   have hvU: ∀n:Nat,U (IntKind.wrap .u32 (n:Int)):=λn=>Q0p _
   obtain⟨g1,_⟩:=Tree.pp (put_w hm (size:=1) (addr:=frame*128+i) hu (by rw[hm.len];omega) (hvU (UInt8.toNat (s.getD i.toNat 0))))
   obtain⟨g2,g3⟩:=puts_byte hm hu (by omega) (hvU (UInt8.toNat (s.getD i.toNat 0)))
   refine w_an g1 (w_lv λx0 hx0=> ?_)
   rw[hx0]
   have ew:IntKind.i64.wrap (i+1)=i+1:=by rw[IntKind.wrap_i64];omega
   refine w_nx ?_
   show(0≤IntKind.i64.wrap (i+1)∧IntKind.i64.wrap (i+1)≤min s.length 128∧Q10 P _∧ ∀b:Nat,byt _ b=if frame*128≤b∧(b:Int)<frame*128+IntKind.i64.wrap (i+1) then _ else _)∧(128-IntKind.i64.wrap (i+1)).toNat<(128-i).toNat
   rw[ew]
   refine⟨⟨by omega,by omega,g2,λb=> ?_⟩,by omega⟩
   rw[show Qa5 mm (frame*128+i) 1 _=_ from rfl,g3 b]
   by_cases hb:(b:Int)=frame*128+i
   · rw[if_pos hb,if_pos (by omega),IntKind.wrap_u32]
     have:=(s.getD i.toNat 0).toNat_lt
     rw[show(b-frame*128).toNat=i.toNat by omega];omega
   · rw[if_neg hb,hy b]
     show(if frame*128≤(b:Int)∧(b:Int)<frame*128+i then _ else _)=_
     by_cases hc:frame*128≤(b:Int)∧(b:Int)<frame*128+i
     · rw[if_pos hc,if_pos (by omega)]
     · rw[if_neg hc,if_neg (by omega)]
 · have h1:i<s.length:=of_decide_eq_true h1
   have h2: ¬i<128:=of_decide_eq_false h2
   omega
 · have h1: ¬i<s.length:=of_decide_eq_false h1
   omega
theorem or_add{x y:Int}(hx:U x)(hy:U y)(k:Nat)(hk:x<2^k)(h:x+y*2^k<4294967296):ior .u32 x (y*2^k)=x+y*2^k:=by
 obtain⟨n,rfl⟩: ∃n:Nat,x=n:=⟨x.toNat,by have:=hx.1;omega⟩
 obtain⟨z,rfl⟩: ∃n:Nat,y=n:=⟨y.toNat,by have:=hy.1;omega⟩
 have e:((z:Int)*2^k)=((z*2^k:Nat):Int):=by simp
 rw[e]at h⊢
 have hn:n<2^k:=by exact_mod_cast hk
 rw[or_nat hx ⟨by omega,by omega⟩,Int.toNat_natCast,Int.toNat_natCast,Nat.or_comm,Nat.mul_comm,←Nat.two_pow_add_eq_or_of_lt hn]
 omega
theorem four{a b c d:Int}(ha:0≤a∧a<256)(hb:0≤b∧b<256)(hc:0≤c∧c<256)(hd:0≤d∧d<256):ior .u32 (ior .u32 (ior .u32 (IntKind.wrap .u32 a) (ishl .u32 (IntKind.wrap .u32 b) 8)) (ishl .u32 (IntKind.wrap .u32 c) 16)) (ishl .u32 (IntKind.wrap .u32 d) 24)=a+b*2^8+c*2^16+d*2^24:=by
 have w: ∀{x:Int},0≤x∧x<256→IntKind.wrap .u32 x=x:=λhx=>by rw[IntKind.wrap_u32];omega
 have s8: ∀{x:Int},0≤x∧x<256→ishl .u32 x 8=x*2^8:=fun{x} hx=>by show IntKind.wrap .u32 (x*2^8)=_;rw[IntKind.wrap_u32];omega
 have s16: ∀{x:Int},0≤x∧x<256→ishl .u32 x 16=x*2^16:=fun{x} hx=>by show IntKind.wrap .u32 (x*2^16)=_;rw[IntKind.wrap_u32];omega
 have s24: ∀{x:Int},0≤x∧x<256→ishl .u32 x 24=x*2^24:=fun{x} hx=>by show IntKind.wrap .u32 (x*2^24)=_;rw[IntKind.wrap_u32];omega
 rw[w ha,w hb,w hc,w hd,s8 hb,s16 hc,s24 hd]
 rw[or_add ⟨by omega,by omega⟩ ⟨by omega,by omega⟩ 8 (by omega) (by omega),or_add ⟨by omega,by omega⟩ ⟨by omega,by omega⟩ 16 (by omega) (by omega),or_add ⟨by omega,by omega⟩ ⟨by omega,by omega⟩ 24 (by omega) (by omega)]
theorem four_dig{a b c d:Int}(ha:0≤a∧a<256)(hb:0≤b∧b<256)(hc:0≤c∧c<256)(hd:0≤d∧d<256)(k:Nat)(hk:k<4):dig (a+b*2^8+c*2^16+d*2^24) k=if k=0 then a else if k=1 then b else if k=2 then c else d:=by
 have hk:k=0∨k=1∨k=2∨k=3:=by omega
 rcases hk with rfl|rfl|rfl|rfl<;>simp [dig]<;>omega
theorem Z75{P:Nat}{m:List Int}(h:Q10 P m)(f:Int):Q5m m f=decide (0≤f∧f<P):=by
 have hp:=Q40 h
 simp only[Q5m,Q8j,Tree.m,letv,hp]
 by_cases h1:0≤f
 · rw[decide_eq_true h1];simp [h1]
 · rw[decide_eq_false h1];simp [h1]
theorem getD_cut(s:List UInt8)(a b k:Nat)(h:k<b):(List.take b (List.drop a s)).getD k 0=s.getD (a+k) 0:=by
 simp [List.getD_eq_getElem?_getD,List.getElem?_take,h]
theorem u8I(x:UInt8):0≤(x.toNat:Int)∧(x.toNat:Int)<256:=by have:=x.toNat_lt;omega
theorem Qyn{P:Nat}{m:List Int}(h:Q10 P m){f:Int}(f0:0≤f)(f1:f<P){s:List UInt8}(hs:s.length=128):(Q26 m f s).w (λr=>r.2=true∧Q10 P r.1∧ ∀b:Nat,byt r.1 b=if f*128≤b∧(b:Int)<f*128+128 then((s.getD (b-f*128).toNat 0).toNat:Int) else byt m b):=by
  have hcl:Q02 m=m:=rfl
  have h2:=h.p2
  unfold Q26
  refine w_an (Q9x h) (w_lv λx0 hx0=>w_lv λx1 hx1=> ?_)
  rw[hcl]at hx0;subst hx0
  rw[Z75 h,decide_eq_true ⟨f0,f1⟩]at hx1
  subst hx1
  refine w_br (λhb=>by cases hb) λ_=>w_br (λhb=>by simp [hs]at hb) λ_=> ?_
  refine w_lp (inv:=λz:Int×List Int=>0≤z.1∧z.1≤32∧Q10 P z.2∧ ∀b:Nat,byt z.2 b=if f*128≤b∧(b:Int)<f*128+4*z.1 then((s.getD (b-f*128).toNat 0).toNat:Int) else byt x0 b) (μ:=Qay x0 f s) ⟨show(0:Int)≤0 by decide,show(0:Int)≤32 by decide,h,λb=>by rw[if_neg];show¬(_∧_<_+4*(0:Int));omega⟩ (Nat.lt_succ_self _) λz ⟨z1,z2,z3,z4⟩=> ?_
  refine w_br (λhb=> ?_) (λhb=>⟨rfl,z3,λb=> ?_⟩)
  · have hb:=of_decide_eq_true hb
    have e1:IntKind.i64.wrap (4*z.1)=4*z.1:=by rw[IntKind.wrap_i64];omega
    have e2:IntKind.i64.wrap (IntKind.i64.wrap (4*z.1)+4)=4*z.1+4:=by rw[IntKind.wrap_i64,IntKind.wrap_i64];omega
    have e3:IntKind.i64.wrap (IntKind.i64.wrap (f*32)+z.1)=f*32+z.1:=by rw[IntKind.wrap_i64,IntKind.wrap_i64];omega
    have hl:=z3.len
    have cut:Int.toNat (IntKind.i64.wrap (IntKind.i64.wrap (4*z.1)+4))-Int.toNat (IntKind.i64.wrap (4*z.1))=4:=by rw[e2,e1];omega
    have hlen:(List.take (Int.toNat (IntKind.i64.wrap (IntKind.i64.wrap (4*z.1)+4))-Int.toNat (IntKind.i64.wrap (4*z.1))) (List.drop (Int.toNat (IntKind.i64.wrap (4*z.1))) s)).length=4:=by
      rw[cut,e1,List.length_take,List.length_drop];omega
    refine w_cn (decide_eq_true (by rw[e2,e1];omega)) ?_
    refine w_cn (decide_eq_true (by rw[hlen];decide)) (w_cn (decide_eq_true (by rw[hlen];decide)) (w_cn (decide_eq_true (by rw[hlen];decide)) (w_cn (decide_eq_true (by rw[hlen];decide)) (w_cn (by rw[e3];simp [Nat.blt];omega) (w_nx ?_)))))
    have ew:IntKind.i64.wrap (z.1+1)=z.1+1:=by rw[IntKind.wrap_i64];omega
    rw[cut]
    refine⟨⟨by show 0≤IntKind.i64.wrap (z.1+1);rw[ew];omega,by show IntKind.i64.wrap (z.1+1)≤32;rw[ew];omega,?_,?_⟩,by show(32-IntKind.i64.wrap (z.1+1)).toNat<(32-z.1).toNat;rw[ew];omega⟩
    · show Q10 P (List.set _ _ _)
      exact⟨by rw[List.length_set];exact hl,z3.p1,z3.p2,Z1b z3.u (U_or _ _) _⟩
    · intro b
      show byt (List.set z.2 (Int.toNat (IntKind.i64.wrap (IntKind.i64.wrap (f*32)+z.1))) _) b=if f*128≤(b:Int)∧(b:Int)<f*128+4*IntKind.i64.wrap (z.1+1) then _ else _
      rw[e3,ew,four (u8I _) (u8I _) (u8I _) (u8I _),Zdz (by omega)]
      have g: ∀k:Nat,k<4→(List.take 4 (List.drop (Int.toNat (IntKind.i64.wrap (4*z.1))) s)).getD k 0=s.getD ((4*z.1).toNat+k) 0:=λk hk=>by rw[e1];exact getD_cut _ _ _ _ hk
      by_cases hc:b/4=(f*32+z.1).toNat
      · have hin:f*128≤(b:Int)∧(b:Int)<f*128+4*(z.1+1):=by omega
        rw[if_pos hc,four_dig (u8I _) (u8I _) (u8I _) (u8I _) _ (by omega),if_pos hin]
        have hb4:b%4=0∨b%4=1∨b%4=2∨b%4=3:=by omega
        have gi:(b-f*128).toNat=(4*z.1).toNat+b%4:=by omega
        rw[gi]
        rcases hb4 with h4|h4|h4|h4<;>rw[h4]
        · rw[if_pos rfl,←g 0 (by omega)];rfl
        · rw[if_neg (by decide),if_pos rfl,←g 1 (by omega)];rfl
        · rw[if_neg (by decide),if_neg (by decide),if_pos rfl,←g 2 (by omega)];rfl
        · rw[if_neg (by decide),if_neg (by decide),if_neg (by decide),←g 3 (by omega)];rfl
      · rw[if_neg hc,z4 b]
        by_cases hd:f*128≤(b:Int)∧(b:Int)<f*128+4*z.1
        · rw[if_pos hd,if_pos (by omega)]
        · rw[if_neg hd,if_neg (by omega)]
  · have hb:=of_decide_eq_false hb
    show byt z.2 b=_
    rw[z4 b,show z.1=32 by omega]
    rfl
end Go.Proofs.YtpcbkbalabgnlaaGreat
namespace Go.Proofs.YtpcbkbalabgnlaaGreat
open Go Go.GD
set_option maxRecDepth 100000
theorem Z5f{α:Type}(l l2:List α)(k:Nat)(z:α):(l++l2).getD k z=if k<l.length then l.getD k z else l2.getD (k-l.length) z:=by
 simp only[List.getD_eq_getElem?_getD,List.getElem?_append]
 split<;>rfl
theorem u8w{x:Int}:IntKind.wrap .u8 x=x%256:=IntKind.wrap_u8 x
theorem shr_c(W:Int):ishr .u32 W 8=W/256∧ishr .u32 W 16=W/65536∧ishr .u32 W 24=W/16777216:=by
 refine⟨?_,?_,?_⟩
 · show Int.fdiv W 256=_;rw[Int.fdiv_eq_ediv_of_nonneg _ (by decide)]
 · show Int.fdiv W 65536=_;rw[Int.fdiv_eq_ediv_of_nonneg _ (by decide)]
 · show Int.fdiv W 16777216=_;rw[Int.fdiv_eq_ediv_of_nonneg _ (by decide)]
theorem b4d(W:Int){k:Nat}(hk:k<4):[IntKind.wrap .u8 W,IntKind.wrap .u8 (ishr .u32 W 8),IntKind.wrap .u8 (ishr .u32 W 16),IntKind.wrap .u8 (ishr .u32 W 24)].getD k 0=dig W k:=by
 obtain⟨a,b,c⟩:=shr_c W
 have hk:k=0∨k=1∨k=2∨k=3:=by omega
 rcases hk with rfl|rfl|rfl|rfl<;>simp [dig,a,b,c,u8w]
theorem Qni(l:List Int)(k:Nat)(h:0≤l.getD k 0∧l.getD k 0<256)(hk:k<l.length):(((bytesOf l).getD k 0).toNat:Int)=l.getD k 0:=by
 have e:(bytesOf l).getD k 0=UInt8.ofNat (l.getD k 0).toNat:=by
   simp [bytesOf,List.getD_eq_getElem?_getD,hk]
 rw[e,UInt8.toNat_ofNat']
 omega
theorem Zcm(l:List UInt8)(k:Nat)(hk:k<l.length):(Qb7 l).getD k 0=((l.getD k 0).toNat:Int):=by
 simp [Qb7,List.getD_eq_getElem?_getD,hk]
theorem text_b(w:List Int)(h:w.length≤32):(Q5d w).w (λr=>r.length=4*w.length∧ ∀k:Nat,k<4*w.length→((r.getD k 0).toNat:Int)=dig (w.getD (k/4) 0) (k%4)):=by
 have e0:IntKind.i64.wrap (4*(w.length:Int))=4*w.length:=by rw[IntKind.wrap_i64];omega
 unfold Q5d
 refine w_cn (by rw[e0];simp [Nat.blt,D.plain];omega) ?_
 refine w_lp (inv:=λz:Int×List Int=>0≤z.1∧z.1≤w.length∧(z.2.length:Int)=4*z.1∧ ∀k:Nat,(k:Int)<4*z.1→z.2.getD k 0=dig (w.getD (k/4) 0) (k%4)) (μ:=Q7u w) ⟨by decide,by show(0:Int)≤w.length;omega,rfl,λk hk=>by have hk:(k:Int)<4*0:=hk;omega⟩ (Nat.lt_succ_self _) λz ⟨z1,z2,z3,z4⟩=> ?_
 refine w_br (λhb=> ?_) (λhb=> ?_)
 · have hb:=of_decide_eq_true hb
   have ew:IntKind.i64.wrap (z.1+1)=z.1+1:=by rw[IntKind.wrap_i64];omega
   refine w_cn (by simp [Nat.blt];omega) (w_cn (decide_eq_true (by omega)) (w_nx ?_))
   show(_∧_∧_∧ ∀k:Nat,(k:Int)<4*IntKind.i64.wrap (z.1+1)→(z.2++_).getD k 0=_)∧(_:Nat)<_
   refine⟨⟨by rw[ew];omega,by rw[ew];omega,by rw[ew,List.length_append];simp only[List.length_cons,List.length_nil];omega,λk hk=> ?_⟩,by show(w.length-IntKind.i64.wrap (z.1+1)).toNat<(w.length-z.1).toNat;rw[ew];omega⟩
   rw[ew]at hk
   rw[Z5f]
   split
   · exact z4 k (by omega)
   · rename_i hn
     rw[b4d _ (by omega),show z.1.toNat=k/4 by omega,show k-z.2.length=k%4 by omega]
 · have hb:=of_decide_eq_false hb
   show(bytesOf z.2).length=_∧ ∀k:Nat,_→(((bytesOf z.2).getD k 0).toNat:Int)=_
   refine⟨by rw[Qh4];omega,λk hk=> ?_⟩
   have e:=z4 k (by omega)
   have:=dig_lt (w.getD (k/4) 0) (k%4)
   rw[Qni _ _ (by rw[e];exact this) (by omega),e]
def isPg(m:List Int)(f:Int)(r:List UInt8):Prop:=r.length=128∧ ∀k:Nat,k<128→((r.getD k 0).toNat:Int)=byt m ((f*128).toNat+k)
theorem pg_ext{m:List Int}{f:Int}{r s:List UInt8}(a:isPg m f r)(b:isPg m f s):r=s:=by
 obtain⟨a1,a2⟩:=a
 obtain⟨b1,b2⟩:=b
 refine List.ext_getElem (by omega) λi h1 h2=> ?_
 have e:=(a2 i (by omega)).trans (b2 i (by omega)).symm
 have e1:r[i]=r.getD i 0:=by simp [List.getD,h1]
 have e2:s[i]=s.getD i 0:=by simp [List.getD,h2]
 rw[e1,e2]
 exact UInt8.toNat_inj.1 (by omega)
theorem mpage_b{P:Nat}{m:List Int}(h:Q10 P m){f:Int}(f0:0≤f)(f1:f<P):(Q3m m f).w (λr=>isPg m f r.1∧r.2=true):=by
 have hl:=h.len
 have h2:=h.p2
 unfold Q3m
 refine w_lv λx0 hx0=> ?_
 rw[Z75 h,decide_eq_true ⟨f0,f1⟩]at hx0
 subst hx0
 refine w_br (λhb=>by cases hb) (λhb=> ?_)
 have e1:IntKind.i64.wrap (f*32)=f*32:=by rw[IntKind.wrap_i64];omega
 have e2:IntKind.i64.wrap (IntKind.i64.wrap (f*32)+32)=f*32+32:=by rw[IntKind.wrap_i64,IntKind.wrap_i64];omega
 have cut:Int.toNat (IntKind.i64.wrap (IntKind.i64.wrap (f*32)+32))-Int.toNat (IntKind.i64.wrap (f*32))=32:=by rw[e2,e1];omega
 have hlen:(List.take 32 (List.drop (Int.toNat (IntKind.i64.wrap (f*32))) m)).length=32:=by
   rw[e1,List.length_take,List.length_drop];omega
 refine w_cn (by rw[e2,e1];simp [Nat.blt];omega) ?_
 rw[cut]
 refine w_an (by show List.length _≤1000000000000;rw[hlen];decide) (w_lv λx1 h1=> ?_)
 have t:=(Tree.pp (text_b _ (Nat.le_of_eq hlen))).2
 rw[hlen,show(Q5d (List.take 32 (List.drop (Int.toNat (IntKind.i64.wrap (f*32))) m))).m=x1 from h1.symm]at t
 refine⟨⟨t.1,λk hk=> ?_⟩,rfl⟩
 show((x1.getD k 0).toNat:Int)=_
 rw[t.2 k hk,byt,e1]
 have g:(List.take 32 (List.drop (Int.toNat (f*32)) m)).getD (k/4) 0=m.getD ((f*32).toNat+k/4) 0:=by
   simp [List.getD_eq_getElem?_getD,List.getElem?_take,show k/4<32 by omega]
 rw[g,show((f*128).toNat+k)/4=(f*32).toNat+k/4 by omega,show((f*128).toNat+k)%4=k%4 by omega]
theorem low_eq(x:Int):Z7g x 4=bytesOf [IntKind.wrap .u8 (ishr .u32 x 0),IntKind.wrap .u8 (ishr .u32 x 8),IntKind.wrap .u8 (ishr .u32 x 16),IntKind.wrap .u8 (ishr .u32 x 24)]:=by kernel_rfl
theorem rpage_b{P:Nat}{m:List Int}(hm:Q10 P m){frame:Int}(f0:0≤frame)(f1:frame<P):(Q9h m frame).w (λr=>isPg m frame r.1∧r.2=true):=by
 have hp:=Qe9 hm
 have hl:=hm.len
 have h2:=hm.p2
 unfold Q9h
 refine w_br (λh=>by have:=of_decide_eq_true h;omega) (λh=>w_lv λx0 hx=>w_br (λh1=>by have:=of_decide_eq_true h1;rw[hx,hp]at this;omega) (λh1=> ?_))
 refine w_lp (inv:=λz:Int×List Int=>0≤z.1∧z.1≤32∧(z.2.length:Int)=4*z.1∧ ∀k:Nat,(k:Int)<4*z.1→z.2.getD k 0=byt m ((frame*128).toNat+k)) (μ:=Qi0 m frame) ⟨by decide,by decide,rfl,λk hk=>by have hk:(k:Int)<4*0:=hk;omega⟩ (Nat.lt_succ_self _) (λz hz=> ?_)
 obtain⟨z1,z2,z3,z4⟩:=hz
 refine w_br (λhb=> ?_) (λhb=> ?_)
 · have hb:=of_decide_eq_true hb
   have e:IntKind.wrap IntKind.i64 (IntKind.wrap IntKind.i64 (frame*32)+z.1)=frame*32+z.1:=by rw[IntKind.wrap_i64,IntKind.wrap_i64];omega
   refine w_cn (by rw[e];simp [Nat.blt];omega) (w_an (show(4:Int)≤1000000000000 by decide) (w_lv λx1 h4=> ?_))
   rw[low_eq,shr0,e]at h4
   have l4:x1.length=4:=by rw[h4];rfl
   refine w_cn (decide_eq_true (by rw[Qnx,l4];omega)) (w_nx ?_)
   show(0≤IntKind.i64.wrap (z.1+1)∧IntKind.i64.wrap (z.1+1)≤32∧((z.2++Qb7 x1).length:Int)=4*IntKind.i64.wrap (z.1+1)∧ ∀k:Nat,(k:Int)<4*IntKind.i64.wrap (z.1+1)→(z.2++Qb7 x1).getD k 0=_)∧(32-IntKind.i64.wrap (z.1+1)).toNat<(32-z.1).toNat
   have ew:IntKind.i64.wrap (z.1+1)=z.1+1:=by rw[IntKind.wrap_i64];omega
   rw[ew]
   refine⟨⟨by omega,by omega,by rw[List.length_append,Qnx,l4];omega,λk hk=> ?_⟩,by omega⟩
   rw[Z5f]
   split
   · exact z4 k (by omega)
   · rename_i hn
     have hk4:k-z.2.length<4:=by omega
     rw[Zcm _ _ (by omega),h4]
     have d:=b4d (m.getD (frame*32+z.1).toNat 0) hk4
     rw[Qni _ _ (by rw[d];exact dig_lt _ _) (by simpa using hk4),d,byt]
     rw[show((frame*128).toNat+k)/4=(frame*32+z.1).toNat by omega,show((frame*128).toNat+k)%4=k-z.2.length by omega]
 · have hb:=of_decide_eq_false hb
   refine⟨⟨?_,λk hk=> ?_⟩,rfl⟩
   · show(bytesOf z.2).length=128
     rw[Qh4];omega
   · show(((bytesOf z.2).getD k 0).toNat:Int)=_
     have e:=z4 k (by omega)
     rw[Qni _ _ (by rw[e];exact dig_lt _ _) (by omega),e]
theorem Z9q{P:Nat}{m:List Int}(h:Q10 P m)(f:Int):Q64 m f=Qi3 m f:=by
 by_cases hf:0≤f∧f<P
 · have a:=(Tree.pp (mpage_b h hf.1 hf.2)).2
   have b:=(Tree.pp (rpage_b h hf.1 hf.2)).2
   exact Prod.ext (pg_ext a.1 b.1) (a.2.trans b.2.symm)
 · have hp:=Qe9 h
   have e1:Q64 m f=([],false):=by
     simp only[Q64,Q3m,Tree.m,letv,Z75 h,decide_eq_false hf];rfl
   have e2:Qi3 m f=([],false):=by
     simp only[Qi3,Q9h,Tree.m,letv,hp]
     by_cases h0:f<0
     · rw[decide_eq_true h0];rfl
     · rw[decide_eq_false h0,decide_eq_true (show f≥P by omega)];rfl
   rw[e1,e2]
section
variable {P:Nat} {m:List Int} (h:Q10 P m)
include h
theorem Zbo{f:Int}(f0:0≤f)(f1:f<P){s:List UInt8}(hs:s.length=128):Q2y m f s=(Qk9 m f s,true):=by
 have a:=(Tree.pp (Qyn h f0 f1 hs)).2
 have b:=(Tree.pp (fill_b h f0 f1 s)).2
 refine Prod.ext (Zed (a.2.1.len.trans b.1.len.symm) a.2.1.u b.1.u λk=> ?_) a.1
 have e:((min s.length 128:Nat):Int)=128:=by rw[hs];rfl
 have b2:=b.2 k
 have a2:=a.2.2 k
 rw[e]at b2
 exact a2.trans b2.symm
theorem Zbj{f:Int}(f0:0≤f)(f1:f<P){s r:List UInt8}(hs:s.length≤128)(hr:isPg m f r):Q2y m f (s++r.drop s.length)=(Qk9 m f s,true):=by
  have hl:(s++r.drop s.length).length=128:=by have:=hr.1;simp;omega
  have a:=(Tree.pp (Qyn h f0 f1 hl)).2
  have b:=(Tree.pp (fill_b h f0 f1 s)).2
  refine Prod.ext (Zed (a.2.1.len.trans b.1.len.symm) a.2.1.u b.1.u λk=> ?_) a.1
  have b2:=b.2 k
  have a2:=a.2.2 k
  refine a2.trans (Eq.trans ?_ b2.symm)
  by_cases hc:f*128≤(k:Int)∧(k:Int)<f*128+128
  · rw [if_pos hc,Z5f]
    by_cases hd:(k-f*128).toNat<s.length
    · rw[if_pos hd,if_pos (by omega)]
    · rw[if_neg hd,if_neg (by omega)]
      have e:(r.drop s.length).getD ((k-f*128).toNat-s.length) 0=r.getD (k-f*128).toNat 0:=by
        simp [List.getD_eq_getElem?_getD,show s.length+((k-f*128).toNat-s.length)=(k-f*128).toNat by omega]
      rw[e,hr.2 _ (by omega),show(f*128).toNat+(k-f*128).toNat=k by omega]
  · rw[if_neg hc,if_neg (by omega)]
theorem Qgb{a:Int}(ha:U a){size:Int}(hs:size=1∨size=4):Q23 m a size=decide (a%size=0∧a<128*P):=by
 have hq:=Qe9 h
 have h2:=h.p2
 have a0:=ha.1
 have e:IntKind.wrap IntKind.u32 size=size:=by rcases hs with rfl|rfl<;>decide
 have e0:decide (IntKind.wrap IntKind.u32 size≠0)=true:=by rcases hs with rfl|rfl<;>decide
 have t:Int.tmod a (IntKind.wrap IntKind.u32 size)=a%size:=by rw[e,Int.tmod_eq_emod_of_nonneg a0]
 have l: ∀x,x=Q44 m→a%size=0→decide (a<IntKind.wrap IntKind.u32 (IntKind.wrap IntKind.i64 (128*x)))=decide (a%size=0∧a<128*P):=λx hx hz=>by
   rw[hx,hq,IntKind.wrap_u32,IntKind.wrap_i64]
   exact decide_eq_decide.2 ⟨λh=>⟨hz,by omega⟩,λh=>by omega⟩
 refine Tree.post (Q81 m a size) (W:=λb=>b=decide (a%size=0∧a<128*P)) ?_
 unfold Q81
 refine w_br (λh1=>w_br (λh4=> ?_) (λ_=> ?_)) (λ_=> ?_)
 · have h1: ¬size=1:=by simpa using h1
   have h4: ¬size=4:=by simpa using h4
   omega
 all_goals
   refine w_cn e0 (w_br (λhb=>w_lv λx hx=>l x hx ?_) (λhb=> ?_))
   · rw[t]at hb;exact eq_of_beq hb
   · rw[t]at hb
     exact(decide_eq_false (λh=>by rw[h.1]at hb;cases hb)).symm
theorem Qy1{a:Int}(ha:U a){size:Int}(hs:size=1∨size=4):Qg7 m a size=Q23 m a size:=by
 rw[Qgb h ha hs]
 have hq:=Qyt h
 have h2:=h.p2
 have a0:=ha.1
 have a1:=ha.2
 have e:IntKind.wrap IntKind.u32 size=size:=by rcases hs with rfl|rfl<;>decide
 have e0:decide (IntKind.wrap IntKind.u32 size≠0)=true:=by rcases hs with rfl|rfl<;>decide
 have t:Int.tmod a (IntKind.wrap IntKind.u32 size)=a%size:=by rw[e,Int.tmod_eq_emod_of_nonneg a0]
 have l: ∀x,x=Q0r m→a%size=0→decide (IntKind.wrap IntKind.u64 (IntKind.wrap IntKind.u64 a+IntKind.wrap IntKind.u64 size)≤IntKind.wrap IntKind.u64 (IntKind.wrap IntKind.u64 x*128))=decide (a%size=0∧a<128*P):=λx hx hz=>by
   rw[hx,hq]
   simp only[IntKind.wrap_u64]
   refine decide_eq_decide.2 ⟨λh=>⟨hz,?_⟩,λh=> ?_⟩<;>rcases hs with rfl|rfl<;>omega
 refine Tree.post (Q3 m a size) (W:=λb=>b=decide (a%size=0∧a<128*P)) ?_
 unfold Q3
 refine w_br (λh1=>w_br (λh4=> ?_) (λ_=> ?_)) (λ_=> ?_)
 · have h1: ¬size=1:=by simpa using h1
   have h4: ¬size=4:=by simpa using h4
   omega
 all_goals
   refine w_cn e0 (w_br (λhb=> ?_) (λhb=>w_lv λx hx=>l x hx ?_))
   · rw[t]at hb
     exact(decide_eq_false (λh=>by rw[h.1]at hb;cases hb)).symm
   · rw[t]at hb;simpa using hb
end
theorem fldj(w:Int):Q39 w 0 8=iand .u32 (ishr .u32 w 0) 255∧Q39 w 8 8=iand .u32 (ishr .u32 w 8) 255∧Q39 w 16 8=iand .u32 (ishr .u32 w 16) 255∧Q39 w 24 8=iand .u32 (ishr .u32 w 24) 255:=
 ⟨by kernel_rfl,by kernel_rfl,by kernel_rfl,by kernel_rfl⟩
theorem setj(w v:Int):Q8g w 0 8 v=putW w v 0∧Q8g w 8 8 v=putW w v 8∧Q8g w 16 8 v=putW w v 16∧Q8g w 24 8 v=putW w v 24:=
 ⟨by kernel_rfl,by kernel_rfl,by kernel_rfl,by kernel_rfl⟩
theorem sh_same{a:Int}(ha:U a):IntKind.wrap .i64 (IntKind.wrap .i64 (Int.tmod a 4)*8)=8*(a%4)∧IntKind.wrap .u32 (8*Int.tmod a 4)=8*(a%4):=by
 obtain⟨a0,a1⟩:=ha
 rw[Int.tmod_eq_emod_of_nonneg a0]
 exact⟨by rw[IntKind.wrap_i64,IntKind.wrap_i64];omega,by rw[IntKind.wrap_u32];omega⟩
section
variable {P:Nat} {m:List Int} (h:Q10 P m)
include h
theorem Qn3{a:Int}(ha:U a){size:Int}(hs:size=1∨size=4):Q50 m a size=Q1b m a size:=by
 have e:=Qy1 h ha hs
 obtain⟨s1,s2⟩:=sh_same ha
 have f:Q39 (m.getD (Int.toNat (IntKind.wrap .u32 (Int.tdiv a 4))) 0) (8*(a%4)) 8=iand .u32 (ishr .u32 (m.getD (Int.toNat (IntKind.wrap .u32 (Int.tdiv a 4))) 0) (8*(a%4))) 255:=by
   obtain⟨f0,f1,f2,f3⟩:=fldj (m.getD (Int.toNat (IntKind.wrap .u32 (Int.tdiv a 4))) 0)
   have:a%4=0∨a%4=1∨a%4=2∨a%4=3:=by omega
   rcases this with h|h|h|h<;>rw[h]
   · exact f0
   · exact f1
   · exact f2
   · exact f3
 simp only[Q50,Q5h,Q1b,Q49,Tree.m,letv,e,s1,s2,f]
omit h in
theorem Z4p(a:Int)(size:Int):(Q1b m a size).2=Q23 m a size:=by
 simp only[Q1b,Q49,Tree.m,letv]
 cases Q23 m a size
 · rfl
 · cases size==1<;>rfl
theorem Z4l{a:Int}(ha:U a){size:Int}(hs:size=1∨size=4)(v:Int):Q9q m a size v=bif Q23 m a size then(Qa5 m a size v,true) else(m,false):=by
 have hcl:Q02 m=m:=rfl
 have e:=Qy1 h ha hs
 obtain⟨s1,s2⟩:=sh_same ha
 have f: ∀w,Q8g w (8*(a%4)) 8 v=ior .u32 (Qg .u32 w (ishl .u32 255 (8*(a%4)))) (ishl .u32 (iand .u32 v 255) (8*(a%4))):=λw=>by
   obtain⟨f0,f1,f2,f3⟩:=setj w v
   have:a%4=0∨a%4=1∨a%4=2∨a%4=3:=by omega
   rcases this with h|h|h|h<;>rw[h]
   · exact f0
   · exact f1
   · exact f2
   · exact f3
 simp only[Q9q,Q4b,Qa5,Qdv,Tree.m,letv,hcl,e,s1,s2,f]
 rcases hs with rfl|rfl<;>cases Q23 m a _<;>rfl
end
end Go.Proofs.YtpcbkbalabgnlaaGreat
namespace Go.Proofs.YtpcbkbalabgnlaaGreat
open Go Go.GD
set_option maxRecDepth 100000
section
variable {P:Nat} {m:List Int} (h:Q10 P m)
include h
theorem walk_same{root va:Int}(hr:U root)(hv:U va){access:Int}(ha:access=1∨access=2∨access=3):Qia m root va access=Q6y m root va access:=by
 have hp:=Qe9 h
 have h2:=h.p2
 have hlen:=h.len
 obtain⟨r1,r2⟩:=hr
 obtain⟨v1,v2⟩:=hv
 have hpg: ∀{f:Int},U f→Qaj m f=decide (f<P):=λhf=>pageP_eq h hf
 have eP:IntKind.wrap .u32 (P:Int)=P:=by rw[IntKind.wrap_u32];omega
 have kn:Qdx access=true:=by rcases ha with rfl|rfl|rfl<;>rfl
 have ca:Qj access=(Q20 access,true):=by rcases ha with rfl|rfl|rfl<;>rfl
 simp only[Qia,Q5i,Q6y,Q9y,Tree.m,letv,hp,eP,kn,ca,hpg ⟨r1,r2⟩]
 by_cases c1:va≥4096
 · rw[decide_eq_true c1];rfl
 by_cases c2:root<P
 · have eE:IntKind.wrap IntKind.u32 (IntKind.wrap IntKind.u32 (root*128)+IntKind.wrap IntKind.u32 (4*IntKind.wrap IntKind.u32 (Int.tdiv va 128)))=root*128+4*(va/128):=by
     rw[Int.tdiv_eq_ediv_of_nonneg v1,IntKind.wrap_u32,IntKind.wrap_u32,IntKind.wrap_u32,IntKind.wrap_u32];omega
   have hE:U (root*128+4*(va/128)):=⟨by omega,by omega⟩
   have wi:Q23 m (root*128+4*(va/128)) 4=true:=by
     rw[Qgb h hE (.inr rfl)];exact decide_eq_true ⟨by omega,by omega⟩
   rw[decide_eq_false c1,decide_eq_true c2,decide_eq_false (show¬root≥P by omega),eE,Qn3 h hE (.inr rfl),Z4p,wi]
   have ld:(Q1b m (root*128+4*(va/128)) 4).1=m.getD (Int.toNat (IntKind.wrap .u32 (Int.tdiv (root*128+4*(va/128)) 4))) 0:=by
     simp only[Q1b,Q49,Tree.m,letv,wi];rfl
   rw[ld]
   generalize m.getD (Int.toNat (IntKind.wrap .u32 (Int.tdiv (root*128+4*(va/128)) 4))) 0=w
   have fo:Qea w=iand .u32 (ishr .u32 w 8) 255:=(fld w).2.2.2.2
   rw[fo,hpg (Zd9 _ _)]
   have hge:decide (iand .u32 (ishr .u32 w 8) 255≥(P:Int))=!decide (iand .u32 (ishr .u32 w 8) 255<(P:Int)):=by
     by_cases hq:iand .u32 (ishr .u32 w 8) 255<(P:Int)
     · rw[decide_eq_true hq,decide_eq_false (by omega)];rfl
     · rw[decide_eq_false hq,decide_eq_true (by omega)];rfl
   rw[hge]
   generalize decide (iand .u32 (ishr .u32 w 8) 255<(P:Int))=d
   rcases ha with rfl|rfl|rfl
   · show _=(bif iand .u32 w 1==0 then _ else bif iand .u32 w 4==0 then _ else bif !d then _ else _)
     have:Qba w 1=(bif iand .u32 w 1==0 then false else !(iand .u32 w 4==0)):=rfl
     rw[this]
     cases iand .u32 w 1==0<;>cases iand .u32 w 4==0<;>cases d<;>rfl
   · show _=(bif iand .u32 w 1==0 then _ else bif !d then _ else _)
     have:Qba w 2=(bif iand .u32 w 1==0 then false else true):=rfl
     rw[this]
     cases iand .u32 w 1==0<;>cases d<;>rfl
   · show _=(bif iand .u32 w 1==0 then _ else bif iand .u32 w 2==0 then _ else bif !d then _ else _)
     have:Qba w 3=(bif iand .u32 w 1==0 then false else !(iand .u32 w 2==0)):=rfl
     rw[this]
     cases iand .u32 w 1==0<;>cases iand .u32 w 2==0<;>cases d<;>rfl
 · rw[decide_eq_false c1,decide_eq_false c2,decide_eq_true (show root≥P by omega)];rfl
theorem Zjx{a:Int}(ha:U a)(access:Int):Qc4 m a access=Qm8 m a access:=by
 have hcl:Q02 m=m:=rfl
 have hl:=h.len
 have a0:=ha.1
 simp only[Qc4,Q4c,Qm8,Qds,Tree.m,letv,Qn3 h ha (.inr rfl),Z4p,Z4l h ha (.inr rfl),hcl]
 cases hw:Q23 m a 4
 · rfl
 · rw[Qgb h ha (.inr rfl)]at hw
   have hw:=of_decide_eq_true hw
   have wi:Q23 m a 4=true:=by rw[Qgb h ha (.inr rfl)];exact decide_eq_true hw
   have ld:(Q1b m a 4).1=m.getD (Int.toNat (IntKind.wrap .u32 (Int.tdiv a 4))) 0:=by
     simp only[Q1b,Q49,Tree.m,letv,wi];rfl
   have pu: ∀v,Qa5 m a 4 v=m.set (Int.toNat (IntKind.wrap .u32 (Int.tdiv a 4))) v:=λv=>rfl
   rw[ld,pu,pu]
   have hi:Int.toNat (IntKind.wrap .u32 (Int.tdiv a 4))<m.length:=by
     rw[Int.tdiv_eq_ediv_of_nonneg a0,IntKind.wrap_u32];omega
   generalize Int.toNat (IntKind.wrap .u32 (Int.tdiv a 4))=i at*
   rw[Qq4 hi,List.set_set]
   rfl
end
theorem Qml{c:Q03}(h0:0≤c.B6.a0)(h:c.B6.a0≤31)(k b:Int):Q4w c k b=Q33 c k b:=by
 have e:=eq_of_beq (Qrb (λs=>Qg .u32 (ior .u32 (Q96 (Q96 s 1 8) 2 16) 1) 2==ior .u32 (Qg .u32 (ior .u32 (ior .u32 (Qg .u32 s 24) (IntKind.wrap .u32 (8*Qbm (iand .u32 s 1 !=0)))) (IntKind.wrap .u32 (16*Qbm (iand .u32 s 2 !=0)))) 2) 1) 32 (by kernel_rfl) h0 (by omega))
 simp only[Q4w,Qjl,Q33,Qi5,Tree.m,letv,e]
theorem Zfd{c:Q03}(h0:0≤c.B6.a0)(h:c.B6.a0≤31):Qe c=Qgo c:=by
 have e:=eq_of_beq (Qrb (λs=>Q96 (Q96 s 8 1) 16 2==ior .u32 (ior .u32 (Qg .u32 s 3) (IntKind.wrap .u32 (1*Qbm (iand .u32 s 8 !=0)))) (IntKind.wrap .u32 (2*Qbm (iand .u32 s 16 !=0)))) 32 (by kernel_rfl) h0 (by omega))
 simp only[Qe,Qem,Qgo,Qci,Tree.m,letv,e]
theorem Z2v{c:Q03}(h0:0≤c.B6.a0)(h:c.B6.a0≤31):Qjt c=(!Qag c&&(iand .u32 c.B6.a0 4 !=0)):=
 eq_of_beq (Qrb (λs=>(iand .u32 s 5==4)==(!(iand .u32 s 1 !=0)&&(iand .u32 s 4 !=0))) 32 (by kernel_rfl) h0 (by omega))
theorem Qwx(c:Q03){r:Int}(hr:0≤r∧r<16)(v:Int):Qb0 c r v=Q1r c r v:=by
 simp only[Qb0,Q8n,Q1r,Qdr,Tree.m]
 by_cases h:r=0
 · subst h;rfl
 · rw[decide_eq_true (show r>0 by omega),decide_eq_true hr.2,show(r !=0)=true by simpa using h];rfl
theorem div_same{a b:Int}(ha:U a)(hb:U b):Qbx a b=Qbn a b:=by
  obtain⟨a0,a1⟩:=ha
  obtain⟨b0,b1⟩:=hb
  have i: ∀x,IntKind.wrap .i64 (IntKind.wrap .i32 x)=IntKind.wrap .i32 x:=λx=>by rw[IntKind.wrap_i64,IntKind.wrap_i32];omega
  have r32: ∀x,-2147483648≤IntKind.wrap .i32 x∧IntKind.wrap .i32 x<2147483648:=λx=>by rw[IntKind.wrap_i32];omega
  have q32: ∀x y:Int,-2147483648≤x∧x<2147483648→ -2147483648≤Int.tdiv x y∧Int.tdiv x y≤2147483648:=λx y hx=>by
    have h1:(Int.tdiv x y).natAbs≤x.natAbs:=by rw[Int.natAbs_tdiv];exact Nat.div_le_self _ _
    omega
  simp only[Qbx,Q5a,Qbn,Qa8,Tree.m,i]
  cases hb:b==0
  · have w: ∀z,IntKind.wrap .u32 (IntKind.wrap .i32 z)=IntKind.wrap .u32 z:=λz=>by rw[IntKind.wrap_i32,IntKind.wrap_u32,IntKind.wrap_u32];omega
    have w2:IntKind.wrap .i64 (Int.tdiv (IntKind.wrap .i32 a) (IntKind.wrap .i32 b))=Int.tdiv (IntKind.wrap .i32 a) (IntKind.wrap .i32 b):=by
      have:=q32 _ (IntKind.wrap .i32 b) (r32 a)
      rw[IntKind.wrap_i64];omega
    rw[w,w2]
    cases h1:a==2147483648
    · rfl
    · cases h2:b==4294967295
      · rfl
      · have h1:=eq_of_beq h1
        have h2:=eq_of_beq h2
        subst h1;subst h2
        rfl
  · rfl
theorem alu_same{op a b:Int}(h0:1≤op)(h1:op≤23)(ha:U a)(hb:U b):Q4h op a b=Qcg op a b:=by
 have sub:IntKind.wrap .u32 (a+IntKind.wrap .u32 (0-b))=IntKind.wrap .u32 (a-b):=by
   rw[IntKind.wrap_u32,IntKind.wrap_u32,IntKind.wrap_u32];omega
 have hop:op=1∨op=2∨op=3∨op=4∨op=5∨op=6∨op=7∨op=8∨op=9∨op=10∨op=11∨op=12∨op=13∨op=14∨op=15∨op=16∨op=17∨op=18∨op=19∨op=20∨op=21∨op=22∨op=23:=by omega
 have d:=div_same ha hb
 rcases hop with rfl|rfl|rfl|rfl|rfl|rfl|rfl|rfl|rfl|rfl|rfl|rfl|rfl|rfl|rfl|rfl|rfl|rfl|rfl|rfl|rfl|rfl|rfl
 · rfl
 · show(IntKind.wrap .u32 (a+IntKind.wrap .u32 (0-b)),true)=(IntKind.wrap .u32 (a-b),true)
   rw[sub]
 · rfl
 · rfl
 · rfl
 · rfl
 · rfl
 · rfl
 · rfl
 · show((Qbx a b).1,true)=((Qbn a b).1,true)
   rw[d]
 · show((Qbx a b).2,true)=((Qbn a b).2,true)
   rw[d]
 all_goals rfl
theorem Qmk{P:Nat}{m:List Int}(h:Q10 P m){c:Q03}(hc:Q2s c)(hst:c.B6.a0≤31){va:Int}(hv:U va){size:Int}(hs:size=1∨size=4){access:Int}(ha:access=1∨access=2∨access=3):Q21 c m va size access=((Q12 c m va size access).1,(Q12 c m va size access).2.2,(Q12 c m va size access).2.1):=by
 have hcl:Q02 m=m:=rfl
 have kn:Qdx access=true:=by rcases ha with rfl|rfl|rfl<;>rfl
 have ca:Qpr access=(Q20 access,true):=by rcases ha with rfl|rfl|rfl<;>rfl
 have pg:=Z2v hc.a0.1 hst
 have wk:=walk_same h hc.a6 hv ha
 have tc:Qc4 m (Q6y m c.B6.a6 va access).F1 access=Qm8 m (Q6y m c.B6.a6 va access).F1 access:=Zjx h (Tree.pp (walk_w h hc.a6 hv access)).2.2.1 access
 have sz:(bif size !=1 then bif size !=4 then false else true else true)=true:=by rcases hs with rfl|rfl<;>rfl
 simp only[Q21,Q5c,Q12,Q7y,Tree.m,letv,hcl,kn,ca,pg,wk,tc,Qn3 h hv hs,Z4p]
 rcases hs with rfl|rfl<;>
 · show(bif _ then _ else _)=_
   cases Int.tmod va _ !=0<;>cases Qag c<;>cases iand .u32 c.B6.a0 4 !=0<;>cases(Q6y m c.B6.a6 va access).E0 !=0<;>cases Q23 m va _<;>rfl
end Go.Proofs.YtpcbkbalabgnlaaGreat
namespace Go.Proofs.YtpcbkbalabgnlaaGreat
open Go Go.GD
set_option maxRecDepth 100000
theorem Qx6{α:Type}{Q:α→Prop}{c:Bool}{x y:α}(hx:Q x)(hy:Q y):Q (cond c x y):=by cases c<;>assumption
theorem walk_al(m:List Int)(root:Int){va:Int}(hv:U va)(access:Int):(Q6y m root va access).E0=0→(Q6y m root va access).Addr%4=va%4:=by
 have hc:Q20 access≠0:=by
   simp only[Q20,Q8s,Tree.m]
   cases access==1<;>cases access==3<;>simp
 have q :(λt:Q18=>t.E0=0→t.Addr%4=va%4) (Q6y m root va access):=by
   simp only[Q6y,Q9y,Tree.m,letv]
   repeat'(first
     |exact λe=>absurd e hc
     | (intro _
        show IntKind.wrap .u32 (IntKind.wrap .u32 (_*128)+Int.tmod va 128)%4=va%4
        rw[Int.tmod_eq_emod_of_nonneg hv.1,IntKind.wrap_u32,IntKind.wrap_u32];omega)
     |refine Qx6 (Q:=λt:Q18=>t.E0=0→t.Addr%4=va%4) ?_ ?_)
 exact q
theorem reach_al{c:Q03}{m:List Int}{va:Int}(hv:U va){size:Int}(hs:size=1∨size=4){access:Int}(ha:access=1∨access=2∨access=3):(Q12 c m va size access).2.1=0→(Q12 c m va size access).1%size=0:=by
  have kn:Qdx access=true:=by rcases ha with rfl|rfl|rfl<;>rfl
  have hc:Q20 access≠0:=by
    simp only[Q20,Q8s,Tree.m]
    cases access==1<;>cases access==3<;>simp
  rcases hs with rfl|rfl
  · intro _;omega
  simp only[Q12,Q7y,Tree.m,letv,kn]
  show(bif Int.tmod va 4 !=0 then((0:Int),(3:Int),m) else _).2.1=0→(bif Int.tmod va 4 !=0 then((0:Int),(3:Int),m) else _).1%4=0
  rw[Int.tmod_eq_emod_of_nonneg hv.1]
  cases hz:va%4 !=0
  · have hz:va%4=0:=by simpa using hz
    have w:=walk_al m c.B6.a6 hv access
    cases hp:Qjt c
    · cases hw:Q23 m va 4
      · exact λe=>absurd e hc
      · exact λ_=>hz
    · cases hq:(Q6y m c.B6.a6 va access).E0 !=0
      · have hq:(Q6y m c.B6.a6 va access).E0=0:=by simpa using hq
        exact λ_=>(w hq).trans hz
      · have hq: ¬(Q6y m c.B6.a6 va access).E0=0:=by simpa using hq
        exact λe=>absurd e hq
  · intro e;cases e
def eff0:Q11:={B5:=0,D0:=0,D9:=0,Value:=0}
def Q65(c:Q03)(m:List Int)(i:Q0g):Q03×List Int×Q11:=
 bif i.Op==32 then((Q6k c m i).1,(Q6k c m i).2,eff0) else bif i.Op==33 then((Q6k c m i).1,(Q6k c m i).2,eff0) else bif i.Op==34 then((Q6k c m i).1,(Q6k c m i).2,eff0)
 else bif i.Op==35 then((Q8m c m i).1,(Q8m c m i).2,eff0) else bif i.Op==36 then((Q8m c m i).1,(Q8m c m i).2,eff0) else((Qkk c i).1,m,(Qkk c i).2)
def regX(c:Q03)(r:Int):Int:=List.getD (A16.l c.X) r.toNat 0
def Qid(c:Q03)(m:List Int)(i:Q0g):Q03×Q11×List Int:=
 bif decide (i.Op≥56) then((Qh1 c i).1,(Qh1 c i).2,m) else bif decide (i.Op≥40) then(Qxq c i,eff0,m) else bif decide (i.Op≥32) then((Q5e c m i).1,eff0,(Q5e c m i).2)
 else bif i.Op==24 then({X:=(Q1r c i.A (ishl .u32 (IntKind.wrap .u32 i.Imm) 16)).X,Pc:=IntKind.wrap .u32 ((Q1r c i.A (ishl .u32 (IntKind.wrap .u32 i.Imm) 16)).Pc+4),B6:=(Q1r c i.A (ishl .u32 (IntKind.wrap .u32 i.Imm) 16)).B6},eff0,m)
 else bif decide (i.Op≤13) then
   ({X:=(Q1r c i.A (Qcg i.Op (regX c i.B) (regX c i.C)).1).X,Pc:=IntKind.wrap .u32 ((Q1r c i.A (Qcg i.Op (regX c i.B) (regX c i.C)).1).Pc+4),B6:=(Q1r c i.A (Qcg i.Op (regX c i.B) (regX c i.C)).1).B6},eff0,m)
 else({X:=(Q1r c i.A (Qcg i.Op (regX c i.B) (IntKind.wrap .u32 i.Imm)).1).X,Pc:=IntKind.wrap .u32 ((Q1r c i.A (Qcg i.Op (regX c i.B) (IntKind.wrap .u32 i.Imm)).1).Pc+4),B6:=(Q1r c i.A (Qcg i.Op (regX c i.B) (IntKind.wrap .u32 i.Imm)).1).B6},eff0,m)
def isOp(op:Int):Prop:=op=1∨op=2∨op=3∨op=4∨op=5∨op=6∨op=7∨op=8∨op=9∨op=10∨op=11∨op=12∨op=13∨op=16∨op=17∨op=18∨op=19∨op=20∨op=21∨op=22∨op=23∨op=24∨op=32∨op=33∨op=34∨op=35∨op=36∨op=40∨op=41∨op=42∨op=43∨op=44∨op=45∨op=48∨op=49∨op=56∨op=57∨op=58∨op=59∨op=60∨op=61∨op=62∨op=63∨op=64
theorem set_pc(c:Q03)(r v:Int):(Q1r c r v).Pc=c.Pc∧(Q1r c r v).B6=c.B6:=by
 simp only[Q1r,Qdr,Tree.m]
 cases decide (r>0)
 · exact⟨rfl,rfl⟩
 · cases decide (r<16)<;>exact⟨rfl,rfl⟩
def adv(c:Q03):Q03:={X:=c.X,Pc:=IntKind.wrap .u32 (c.Pc+4),B6:=c.B6}
def va(c:Q03)(B Imm:Int):Int:=IntKind.wrap .u32 (List.getD (A16.l c.X) B.toNat 0+IntKind.wrap .u32 Imm)
def ldP(c:Q03)(A v size:Int)(f:Int→Int)(y:Int×List Int×Int):Q03×List Int:=bif y.2.2 !=0 then(Q4w c y.2.2 v,y.2.1) else(adv (Qb0 c A (f (Q50 y.2.1 y.1 size).1)),y.2.1)
def ldR(c:Q03)(A v size:Int)(f:Int→Int)(x:Int×Int×List Int):Q03×List Int:=bif x.2.1 !=0 then(Q33 c x.2.1 v,x.2.2) else(adv (Q1r c A (f (Q1b x.2.2 x.1 size).1)),x.2.2)
def stP(c:Q03)(A v size:Int)(y:Int×List Int×Int):Q03×List Int:=bif y.2.2 !=0 then(Q4w c y.2.2 v,y.2.1) else(adv c,(Q9q y.2.1 y.1 size (List.getD (A16.l c.X) A.toNat 0)).1)
def stR(c:Q03)(A v size:Int)(x:Int×Int×List Int):Q03×List Int:=bif x.2.1 !=0 then(Q33 c x.2.1 v,x.2.2) else(adv c,Qa5 x.2.2 x.1 size (List.getD (A16.l c.X) A.toNat 0))
theorem ld_eq(c:Q03)(m:List Int)(A B C Imm:Int):
   (Q6k c m ⟨32,A,B,C,Imm⟩=ldP c A (va c B Imm) 4 (λv=>v) (Q21 c m (va c B Imm) 4 2)∧Q5e c m ⟨32,A,B,C,Imm⟩=ldR c A (va c B Imm) 4 (λv=>v) (Q12 c m (va c B Imm) 4 2))∧
   (Q6k c m ⟨33,A,B,C,Imm⟩=ldP c A (va c B Imm) 1 (λv=>Q2d v 8) (Q21 c m (va c B Imm) 1 2)∧Q5e c m ⟨33,A,B,C,Imm⟩=ldR c A (va c B Imm) 1 (λv=>Q3q v 8) (Q12 c m (va c B Imm) 1 2))∧
   (Q6k c m ⟨34,A,B,C,Imm⟩=ldP c A (va c B Imm) 1 (λv=>v) (Q21 c m (va c B Imm) 1 2)∧Q5e c m ⟨34,A,B,C,Imm⟩=ldR c A (va c B Imm) 1 (λv=>v) (Q12 c m (va c B Imm) 1 2))∧
   (Q8m c m ⟨35,A,B,C,Imm⟩=stP c A (va c B Imm) 4 (Q21 c m (va c B Imm) 4 3)∧Q5e c m ⟨35,A,B,C,Imm⟩=stR c A (va c B Imm) 4 (Q12 c m (va c B Imm) 4 3))∧
   (Q8m c m ⟨36,A,B,C,Imm⟩=stP c A (va c B Imm) 1 (Q21 c m (va c B Imm) 1 3)∧Q5e c m ⟨36,A,B,C,Imm⟩=stR c A (va c B Imm) 1 (Q12 c m (va c B Imm) 1 3)):=
 ⟨⟨by kernel_rfl,by kernel_rfl⟩,⟨by kernel_rfl,by kernel_rfl⟩,⟨by kernel_rfl,by kernel_rfl⟩,⟨by kernel_rfl,by kernel_rfl⟩,⟨by kernel_rfl,by kernel_rfl⟩⟩
theorem sx_load{P:Nat}{m:List Int}(h:Q10 P m)(a:Int):Q2d (Q1b m a 1).1 8=Q3q (Q1b m a 1).1 8:=by
 have: ∀x:Int×Bool,(∃w,U w∧x=(iand .u32 w 255,true))∨x=(0,false)→Q2d x.1 8=Q3q x.1 8:=λx hx=>by
   rcases hx with⟨w,hw,rfl⟩|rfl
   · have e:=m255 hw
     exact sx8 (by show 0≤iand .u32 w 255;omega) (by show iand .u32 w 255<256;omega)
   · rfl
 refine this _ ?_
 simp only[Q1b,Q49,Tree.m,letv]
 cases Q23 m a 1
 · exact .inr rfl
 · exact .inl ⟨_,Qu3 (Qjs h.u _) _,rfl⟩
section
variable {P:Nat} {m:List Int} (h:Q10 P m) {c:Q03} (hc:Q2s c) (hst:c.B6.a0≤31)
include h hc hst
omit hst in
theorem Zdl{v:Int}(hv:U v){size:Int}(hs:size=1∨size=4)(access:Int):Q10 P (Q12 c m v size access).2.2∧U (Q12 c m v size access).1∧((Q12 c m v size access).2.1=0→(Q12 c m v size access).1<128*P):=(Tree.pp (Z64 h hc hv hs access)).2
theorem Zew{A v:Int}(hA:0≤A∧A<16)(hv:U v){size:Int}(hs:size=1∨size=4){f g:Int→Int}(hf: ∀{m':List Int},Q10 P m'→ ∀a,f (Q1b m' a size).1=g (Q1b m' a size).1):ldP c A v size f (Q21 c m v size 2)=ldR c A v size g (Q12 c m v size 2):=by
 rw[Qmk h hc hst hv hs (.inr (.inl rfl))]
 obtain⟨k,u,_⟩:=Zdl h hc hv hs 2
 generalize Q12 c m v size 2=x at*
 simp only[ldP,ldR,Qn3 k u hs,Qml hc.a0.1 hst,Qwx c hA,hf k]
theorem st_same{A v:Int}(hv:U v){size:Int}(hs:size=1∨size=4):stP c A v size (Q21 c m v size 3)=stR c A v size (Q12 c m v size 3):=by
 rw[Qmk h hc hst hv hs (.inr (.inr rfl))]
 obtain⟨k,u,b⟩:=Zdl h hc hv hs 3
 have al:=reach_al (c:=c) (m:=m) hv hs (access:=3) (.inr (.inr rfl))
 generalize Q12 c m v size 3=x at*
 simp only[stP,stR,Z4l k u hs,Qml hc.a0.1 hst,Qgb k u hs]
 cases hq:x.2.1 !=0
 · have hq:x.2.1=0:=by simpa using hq
   rw[decide_eq_true ⟨al hq,b hq⟩];rfl
 · rfl
end
end Go.Proofs.YtpcbkbalabgnlaaGreat
namespace Go.Proofs.YtpcbkbalabgnlaaGreat
open Go Go.GD
set_option maxRecDepth 100000
theorem write_pc(c:Q03)(k v:Int):(Qgf c k v).Pc=c.Pc:=by
 simp only[Qgf,Qc8,Tree.m]
 repeat'(first|rfl|refine Qx6 (Q:=λx:Q03=>x.Pc=c.Pc) ?_ ?_)
def setP(c:Q03)(A v p:Int):Q03:={X:=(Qb0 c A v).X,Pc:=p,B6:=(Qb0 c A v).B6}
def setR(c:Q03)(A v p:Int):Q03:={X:=(Q1r c A v).X,Pc:=p,B6:=(Q1r c A v).B6}
def nxt(c:Q03):Int:=IntKind.wrap .u32 (c.Pc+4)
theorem Z8a(c:Q03){A:Int}(hA:0≤A∧A<16)(v p:Int):setP c A v p=setR c A v p:=by
 unfold setP setR;rw[Qwx c hA]
theorem Zcy(c:Q03)(A v:Int):adv (Q1r c A v)=setR c A v (nxt c):=by
 unfold adv setR nxt;rw[(set_pc c A v).1]
theorem brc(t:Bool)(x y:Q03)(m:List Int):((bif t then(x,eff0) else(y,eff0)).1,m,(bif t then(x,eff0) else(y,eff0)).2)=((bif t then x else y),m,eff0):=by cases t<;>rfl
def isOpB(op:Int):Bool:=decide (op=1)||decide (op=2)||decide (op=3)||decide (op=4)||decide (op=5)||decide (op=6)||decide (op=7)||decide (op=8)||decide (op=9)||decide (op=10)||decide (op=11)||decide (op=12)||decide (op=13)||decide (op=16)||decide (op=17)||decide (op=18)||decide (op=19)||decide (op=20)||decide (op=21)||decide (op=22)||decide (op=23)||decide (op=24)||decide (op=32)||decide (op=33)||decide (op=34)||decide (op=35)||decide (op=36)||decide (op=40)||decide (op=41)||decide (op=42)||decide (op=43)||decide (op=44)||decide (op=45)||decide (op=48)||decide (op=49)||decide (op=56)||decide (op=57)||decide (op=58)||decide (op=59)||decide (op=60)||decide (op=61)||decide (op=62)||decide (op=63)||decide (op=64)
section
variable {P:Nat} {m:List Int} (h:Q10 P m) {c:Q03} (hc:Q2s c) (hst:c.B6.a0≤31) {A B C Imm:Int} (hA:0≤A∧A<16)
include h hc hst hA
theorem post_same{op:Int}(hop:isOp op):Q65 c m ⟨op,A,B,C,Imm⟩=((Qid c m ⟨op,A,B,C,Imm⟩).1,(Qid c m ⟨op,A,B,C,Imm⟩).2.2,(Qid c m ⟨op,A,B,C,Imm⟩).2.1):=by
 have alu: ∀{k y:Int},1≤k→k≤23→U y→((setP c A (Q4h k (regX c B) y).1 (nxt c),m,eff0):Q03×List Int×Q11)=(adv (Q1r c A (Qcg k (regX c B) y).1),m,eff0):=λh1 h2 hy=>by
   rw[alu_same h1 h2 (show U (regX c B) from hc.r _) hy,Zcy,Z8a c hA]
 have uC:U (regX c C):=hc.r _
 have uI:U (IntKind.wrap .u32 Imm):=Q0p _
 obtain⟨⟨l1,l2⟩,⟨l3,l4⟩,⟨l5,l6⟩,⟨l7,l8⟩,⟨l9,l10⟩⟩:=ld_eq c m A B C Imm
 have hva:U (va c B Imm):=Q0p _
 rcases hop with rfl|rfl|rfl|rfl|rfl|rfl|rfl|rfl|rfl|rfl|rfl|rfl|rfl|rfl|rfl|rfl|rfl|rfl|rfl|rfl|rfl|rfl|rfl|rfl|rfl|rfl|rfl|rfl|rfl|rfl|rfl|rfl|rfl|rfl|rfl|rfl|rfl|rfl|rfl|rfl|rfl|rfl|rfl|rfl
 · exact(show Q65 c m ⟨1,A,B,C,Imm⟩=(setP c A (Q4h 1 (regX c B) (regX c C)).1 (nxt c),m,eff0) by kernel_rfl).trans ((alu (by decide) (by decide) uC).trans (by kernel_rfl))
 · exact(show Q65 c m ⟨2,A,B,C,Imm⟩=(setP c A (Q4h 2 (regX c B) (regX c C)).1 (nxt c),m,eff0) by kernel_rfl).trans ((alu (by decide) (by decide) uC).trans (by kernel_rfl))
 · exact(show Q65 c m ⟨3,A,B,C,Imm⟩=(setP c A (Q4h 3 (regX c B) (regX c C)).1 (nxt c),m,eff0) by kernel_rfl).trans ((alu (by decide) (by decide) uC).trans (by kernel_rfl))
 · exact(show Q65 c m ⟨4,A,B,C,Imm⟩=(setP c A (Q4h 4 (regX c B) (regX c C)).1 (nxt c),m,eff0) by kernel_rfl).trans ((alu (by decide) (by decide) uC).trans (by kernel_rfl))
 · exact(show Q65 c m ⟨5,A,B,C,Imm⟩=(setP c A (Q4h 5 (regX c B) (regX c C)).1 (nxt c),m,eff0) by kernel_rfl).trans ((alu (by decide) (by decide) uC).trans (by kernel_rfl))
 · exact(show Q65 c m ⟨6,A,B,C,Imm⟩=(setP c A (Q4h 6 (regX c B) (regX c C)).1 (nxt c),m,eff0) by kernel_rfl).trans ((alu (by decide) (by decide) uC).trans (by kernel_rfl))
 · exact(show Q65 c m ⟨7,A,B,C,Imm⟩=(setP c A (Q4h 7 (regX c B) (regX c C)).1 (nxt c),m,eff0) by kernel_rfl).trans ((alu (by decide) (by decide) uC).trans (by kernel_rfl))
 · exact(show Q65 c m ⟨8,A,B,C,Imm⟩=(setP c A (Q4h 8 (regX c B) (regX c C)).1 (nxt c),m,eff0) by kernel_rfl).trans ((alu (by decide) (by decide) uC).trans (by kernel_rfl))
 · exact(show Q65 c m ⟨9,A,B,C,Imm⟩=(setP c A (Q4h 9 (regX c B) (regX c C)).1 (nxt c),m,eff0) by kernel_rfl).trans ((alu (by decide) (by decide) uC).trans (by kernel_rfl))
 · exact(show Q65 c m ⟨10,A,B,C,Imm⟩=(setP c A (Q4h 10 (regX c B) (regX c C)).1 (nxt c),m,eff0) by kernel_rfl).trans ((alu (by decide) (by decide) uC).trans (by kernel_rfl))
 · exact(show Q65 c m ⟨11,A,B,C,Imm⟩=(setP c A (Q4h 11 (regX c B) (regX c C)).1 (nxt c),m,eff0) by kernel_rfl).trans ((alu (by decide) (by decide) uC).trans (by kernel_rfl))
 · exact(show Q65 c m ⟨12,A,B,C,Imm⟩=(setP c A (Q4h 12 (regX c B) (regX c C)).1 (nxt c),m,eff0) by kernel_rfl).trans ((alu (by decide) (by decide) uC).trans (by kernel_rfl))
 · exact(show Q65 c m ⟨13,A,B,C,Imm⟩=(setP c A (Q4h 13 (regX c B) (regX c C)).1 (nxt c),m,eff0) by kernel_rfl).trans ((alu (by decide) (by decide) uC).trans (by kernel_rfl))
 · exact(show Q65 c m ⟨16,A,B,C,Imm⟩=(setP c A (Q4h 16 (regX c B) (IntKind.wrap .u32 Imm)).1 (nxt c),m,eff0) by kernel_rfl).trans ((alu (by decide) (by decide) uI).trans (by kernel_rfl))
 · exact(show Q65 c m ⟨17,A,B,C,Imm⟩=(setP c A (Q4h 17 (regX c B) (IntKind.wrap .u32 Imm)).1 (nxt c),m,eff0) by kernel_rfl).trans ((alu (by decide) (by decide) uI).trans (by kernel_rfl))
 · exact(show Q65 c m ⟨18,A,B,C,Imm⟩=(setP c A (Q4h 18 (regX c B) (IntKind.wrap .u32 Imm)).1 (nxt c),m,eff0) by kernel_rfl).trans ((alu (by decide) (by decide) uI).trans (by kernel_rfl))
 · exact(show Q65 c m ⟨19,A,B,C,Imm⟩=(setP c A (Q4h 19 (regX c B) (IntKind.wrap .u32 Imm)).1 (nxt c),m,eff0) by kernel_rfl).trans ((alu (by decide) (by decide) uI).trans (by kernel_rfl))
 · exact(show Q65 c m ⟨20,A,B,C,Imm⟩=(setP c A (Q4h 20 (regX c B) (IntKind.wrap .u32 Imm)).1 (nxt c),m,eff0) by kernel_rfl).trans ((alu (by decide) (by decide) uI).trans (by kernel_rfl))
 · exact(show Q65 c m ⟨21,A,B,C,Imm⟩=(setP c A (Q4h 21 (regX c B) (IntKind.wrap .u32 Imm)).1 (nxt c),m,eff0) by kernel_rfl).trans ((alu (by decide) (by decide) uI).trans (by kernel_rfl))
 · exact(show Q65 c m ⟨22,A,B,C,Imm⟩=(setP c A (Q4h 22 (regX c B) (IntKind.wrap .u32 Imm)).1 (nxt c),m,eff0) by kernel_rfl).trans ((alu (by decide) (by decide) uI).trans (by kernel_rfl))
 · exact(show Q65 c m ⟨23,A,B,C,Imm⟩=(setP c A (Q4h 23 (regX c B) (IntKind.wrap .u32 Imm)).1 (nxt c),m,eff0) by kernel_rfl).trans ((alu (by decide) (by decide) uI).trans (by kernel_rfl))
 · refine(show Q65 c m ⟨24,A,B,C,Imm⟩=(setP c A (ishl .u32 (IntKind.wrap .u32 Imm) 16) (nxt c),m,eff0) by kernel_rfl).trans ?_
   rw[Z8a c hA,←Zcy];kernel_rfl
 · have e:=Zew h hc hst hA hva (.inr rfl) (f:=λv=>v) (g:=λv=>v) (λ_ _=>rfl)
   rw[←l1,←l2]at e
   refine(show Q65 c m ⟨32,A,B,C,Imm⟩=((Q6k c m ⟨32,A,B,C,Imm⟩).1,(Q6k c m ⟨32,A,B,C,Imm⟩).2,eff0) by kernel_rfl).trans ?_
   rw[e];kernel_rfl
 · have e:=Zew h hc hst hA hva (.inl rfl) (f:=λv=>Q2d v 8) (g:=λv=>Q3q v 8) (λhm a=>sx_load hm a)
   rw[←l3,←l4]at e
   refine(show Q65 c m ⟨33,A,B,C,Imm⟩=((Q6k c m ⟨33,A,B,C,Imm⟩).1,(Q6k c m ⟨33,A,B,C,Imm⟩).2,eff0) by kernel_rfl).trans ?_
   rw[e];kernel_rfl
 · have e:=Zew h hc hst hA hva (.inl rfl) (f:=λv=>v) (g:=λv=>v) (λ_ _=>rfl)
   rw[←l5,←l6]at e
   refine(show Q65 c m ⟨34,A,B,C,Imm⟩=((Q6k c m ⟨34,A,B,C,Imm⟩).1,(Q6k c m ⟨34,A,B,C,Imm⟩).2,eff0) by kernel_rfl).trans ?_
   rw[e];kernel_rfl
 · have e:=st_same h hc hst (A:=A) hva (.inr rfl)
   rw[←l7,←l8]at e
   refine(show Q65 c m ⟨35,A,B,C,Imm⟩=((Q8m c m ⟨35,A,B,C,Imm⟩).1,(Q8m c m ⟨35,A,B,C,Imm⟩).2,eff0) by kernel_rfl).trans ?_
   rw[e];kernel_rfl
 · have e:=st_same h hc hst (A:=A) hva (.inl rfl)
   rw[←l9,←l10]at e
   refine(show Q65 c m ⟨36,A,B,C,Imm⟩=((Q8m c m ⟨36,A,B,C,Imm⟩).1,(Q8m c m ⟨36,A,B,C,Imm⟩).2,eff0) by kernel_rfl).trans ?_
   rw[e];kernel_rfl
 · exact(show Q65 c m ⟨40,A,B,C,Imm⟩=((bif(Q2c 40 (regX c A) (regX c B)) then((⟨c.X,IntKind.wrap .u32 (c.Pc+IntKind.wrap .u32 (4*IntKind.wrap .u32 Imm)),c.B6⟩:Q03),eff0) else(⟨c.X,nxt c,c.B6⟩,eff0)).1,m,(bif(Q2c 40 (regX c A) (regX c B)) then((⟨c.X,IntKind.wrap .u32 (c.Pc+IntKind.wrap .u32 (4*IntKind.wrap .u32 Imm)),c.B6⟩:Q03),eff0) else(⟨c.X,nxt c,c.B6⟩,eff0)).2) by kernel_rfl).trans ((brc (Q2c 40 (regX c A) (regX c B)) ⟨c.X,IntKind.wrap .u32 (c.Pc+IntKind.wrap .u32 (4*IntKind.wrap .u32 Imm)),c.B6⟩ ⟨c.X,nxt c,c.B6⟩ m).trans (by kernel_rfl))
 · exact(show Q65 c m ⟨41,A,B,C,Imm⟩=((bif(Q2c 41 (regX c A) (regX c B)) then((⟨c.X,IntKind.wrap .u32 (c.Pc+IntKind.wrap .u32 (4*IntKind.wrap .u32 Imm)),c.B6⟩:Q03),eff0) else(⟨c.X,nxt c,c.B6⟩,eff0)).1,m,(bif(Q2c 41 (regX c A) (regX c B)) then((⟨c.X,IntKind.wrap .u32 (c.Pc+IntKind.wrap .u32 (4*IntKind.wrap .u32 Imm)),c.B6⟩:Q03),eff0) else(⟨c.X,nxt c,c.B6⟩,eff0)).2) by kernel_rfl).trans ((brc (Q2c 41 (regX c A) (regX c B)) ⟨c.X,IntKind.wrap .u32 (c.Pc+IntKind.wrap .u32 (4*IntKind.wrap .u32 Imm)),c.B6⟩ ⟨c.X,nxt c,c.B6⟩ m).trans (by kernel_rfl))
 · exact(show Q65 c m ⟨42,A,B,C,Imm⟩=((bif(Q2c 42 (regX c A) (regX c B)) then((⟨c.X,IntKind.wrap .u32 (c.Pc+IntKind.wrap .u32 (4*IntKind.wrap .u32 Imm)),c.B6⟩:Q03),eff0) else(⟨c.X,nxt c,c.B6⟩,eff0)).1,m,(bif(Q2c 42 (regX c A) (regX c B)) then((⟨c.X,IntKind.wrap .u32 (c.Pc+IntKind.wrap .u32 (4*IntKind.wrap .u32 Imm)),c.B6⟩:Q03),eff0) else(⟨c.X,nxt c,c.B6⟩,eff0)).2) by kernel_rfl).trans ((brc (Q2c 42 (regX c A) (regX c B)) ⟨c.X,IntKind.wrap .u32 (c.Pc+IntKind.wrap .u32 (4*IntKind.wrap .u32 Imm)),c.B6⟩ ⟨c.X,nxt c,c.B6⟩ m).trans (by kernel_rfl))
 · exact(show Q65 c m ⟨43,A,B,C,Imm⟩=((bif(Q2c 43 (regX c A) (regX c B)) then((⟨c.X,IntKind.wrap .u32 (c.Pc+IntKind.wrap .u32 (4*IntKind.wrap .u32 Imm)),c.B6⟩:Q03),eff0) else(⟨c.X,nxt c,c.B6⟩,eff0)).1,m,(bif(Q2c 43 (regX c A) (regX c B)) then((⟨c.X,IntKind.wrap .u32 (c.Pc+IntKind.wrap .u32 (4*IntKind.wrap .u32 Imm)),c.B6⟩:Q03),eff0) else(⟨c.X,nxt c,c.B6⟩,eff0)).2) by kernel_rfl).trans ((brc (Q2c 43 (regX c A) (regX c B)) ⟨c.X,IntKind.wrap .u32 (c.Pc+IntKind.wrap .u32 (4*IntKind.wrap .u32 Imm)),c.B6⟩ ⟨c.X,nxt c,c.B6⟩ m).trans (by kernel_rfl))
 · exact(show Q65 c m ⟨44,A,B,C,Imm⟩=((bif(Q2c 44 (regX c A) (regX c B)) then((⟨c.X,IntKind.wrap .u32 (c.Pc+IntKind.wrap .u32 (4*IntKind.wrap .u32 Imm)),c.B6⟩:Q03),eff0) else(⟨c.X,nxt c,c.B6⟩,eff0)).1,m,(bif(Q2c 44 (regX c A) (regX c B)) then((⟨c.X,IntKind.wrap .u32 (c.Pc+IntKind.wrap .u32 (4*IntKind.wrap .u32 Imm)),c.B6⟩:Q03),eff0) else(⟨c.X,nxt c,c.B6⟩,eff0)).2) by kernel_rfl).trans ((brc (Q2c 44 (regX c A) (regX c B)) ⟨c.X,IntKind.wrap .u32 (c.Pc+IntKind.wrap .u32 (4*IntKind.wrap .u32 Imm)),c.B6⟩ ⟨c.X,nxt c,c.B6⟩ m).trans (by kernel_rfl))
 · exact(show Q65 c m ⟨45,A,B,C,Imm⟩=((bif(Q2c 45 (regX c A) (regX c B)) then((⟨c.X,IntKind.wrap .u32 (c.Pc+IntKind.wrap .u32 (4*IntKind.wrap .u32 Imm)),c.B6⟩:Q03),eff0) else(⟨c.X,nxt c,c.B6⟩,eff0)).1,m,(bif(Q2c 45 (regX c A) (regX c B)) then((⟨c.X,IntKind.wrap .u32 (c.Pc+IntKind.wrap .u32 (4*IntKind.wrap .u32 Imm)),c.B6⟩:Q03),eff0) else(⟨c.X,nxt c,c.B6⟩,eff0)).2) by kernel_rfl).trans ((brc (Q2c 45 (regX c A) (regX c B)) ⟨c.X,IntKind.wrap .u32 (c.Pc+IntKind.wrap .u32 (4*IntKind.wrap .u32 Imm)),c.B6⟩ ⟨c.X,nxt c,c.B6⟩ m).trans (by kernel_rfl))
 · refine(show Q65 c m ⟨48,A,B,C,Imm⟩=(setP c A (nxt c) (IntKind.wrap .u32 ((Qb0 c A (nxt c)).Pc+IntKind.wrap .u32 (4*IntKind.wrap .u32 Imm))),m,eff0) by kernel_rfl).trans ?_
   rw[Z8a c hA,Qwx c hA,(set_pc c A (nxt c)).1];kernel_rfl
 · refine(show Q65 c m ⟨49,A,B,C,Imm⟩=(setP c A (nxt c) (va c B Imm),m,eff0) by kernel_rfl).trans ?_
   rw[Z8a c hA];kernel_rfl
 · refine(show Q65 c m ⟨56,A,B,C,Imm⟩=(Q4w c 7 0,m,eff0) by kernel_rfl).trans ?_
   rw[Qml hc.a0.1 hst];kernel_rfl
 · refine(show Q65 c m ⟨57,A,B,C,Imm⟩=(Qe c,m,eff0) by kernel_rfl).trans ?_
   rw[Zfd hc.a0.1 hst];kernel_rfl
 · refine(show Q65 c m ⟨58,A,B,C,Imm⟩=(setP c A (List.getD (A8.l c.B6) Imm.toNat 0) (nxt c),m,eff0) by kernel_rfl).trans ?_
   rw[Z8a c hA,←Zcy];kernel_rfl
 · have e:=write_pc c (IntKind.wrap .i64 Imm) (regX c A)
   refine(show Q65 c m ⟨59,A,B,C,Imm⟩=((⟨(Qgf c (IntKind.wrap .i64 Imm) (regX c A)).X,IntKind.wrap .u32 (c.Pc+4),(Qgf c (IntKind.wrap .i64 Imm) (regX c A)).B6⟩:Q03),m,eff0) by kernel_rfl).trans ?_
   rw[←e];kernel_rfl
 · exact(show Q65 c m ⟨60,A,B,C,Imm⟩=((Qid c m ⟨60,A,B,C,Imm⟩).1,(Qid c m ⟨60,A,B,C,Imm⟩).2.2,(Qid c m ⟨60,A,B,C,Imm⟩).2.1) by kernel_rfl)
 · exact(show Q65 c m ⟨61,A,B,C,Imm⟩=((Qid c m ⟨61,A,B,C,Imm⟩).1,(Qid c m ⟨61,A,B,C,Imm⟩).2.2,(Qid c m ⟨61,A,B,C,Imm⟩).2.1) by kernel_rfl)
 · exact(show Q65 c m ⟨62,A,B,C,Imm⟩=((Qid c m ⟨62,A,B,C,Imm⟩).1,(Qid c m ⟨62,A,B,C,Imm⟩).2.2,(Qid c m ⟨62,A,B,C,Imm⟩).2.1) by kernel_rfl)
 · exact(show Q65 c m ⟨63,A,B,C,Imm⟩=((Qid c m ⟨63,A,B,C,Imm⟩).1,(Qid c m ⟨63,A,B,C,Imm⟩).2.2,(Qid c m ⟨63,A,B,C,Imm⟩).2.1) by kernel_rfl)
 · exact(show Q65 c m ⟨64,A,B,C,Imm⟩=((Qid c m ⟨64,A,B,C,Imm⟩).1,(Qid c m ⟨64,A,B,C,Imm⟩).2.2,(Qid c m ⟨64,A,B,C,Imm⟩).2.1) by kernel_rfl)
end
theorem form_op{op:Int}(h0:0≤op)(h1:op<256)(h:Q2i op≠0):isOp op:=by
 have e:=of_decide_eq_true (Qrb (λop=>decide (Q2i op=0∨isOpB op=true)) 256 (by kernel_rfl) h0 h1)
 rcases e with e|e
 · exact absurd e h
 · simpa only[isOpB,isOp,Bool.or_eq_true,decide_eq_true_eq,or_assoc] using e
end Go.Proofs.YtpcbkbalabgnlaaGreat
namespace Go.Proofs.YtpcbkbalabgnlaaGreat
open Go Go.GD
set_option maxRecDepth 100000
theorem isOp_le{op:Int}(o:isOp op):1≤op∧op≤64:=by
 unfold isOp at o
 rcases o with h|h|h|h|h|h|h|h|h|h|h|h|h|h|h|h|h|h|h|h|h|h|h|h|h|h|h|h|h|h|h|h|h|h|h|h|h|h|h|h|h|h|h|h<;>(rw[h];decide)
theorem decode_op{w:Int}(hw:U w):(Q1z w).2=true→isOp (Q1z w).1.Op:=by
  have s24:ishr .u32 w 24=w/16777216:=by have:=Qp0 (a:=w) 24 (by decide);simpa using this
  obtain⟨w0,w1⟩:=hw
  have eo:IntKind.wrap .i64 (w/16777216)=w/16777216:=w64 (by omega) (by omega)
  have q:(λr:Q0g×Bool=>r.2=true→isOp r.1.Op) (Q1z w):=by
    simp only[Q1z,Q6u,Tree.m,letv,s24,eo]
    cases hf:Q2i (w/16777216)==0
    · have g:isOp (w/16777216):=form_op (by omega) (by omega) (by simpa using hf)
      repeat'(first
        |exact λ_=>g
        |exact λe=>Bool.noConfusion (show false=true from e)
        |refine Qx6 (Q:=λr:Q0g×Bool=>r.2=true→isOp r.1.Op) ?_ ?_)
    · exact λe=>Bool.noConfusion (show false=true from e)
  exact q
section
variable (c:Q03) (m:List Int)
def doR(x:Int×Int×List Int)(w:Int)(d:Q0g×Bool):Q03×Q11×List Int:=
 bif x.2.1 !=0 then(Q33 c x.2.1 c.Pc,eff0,x.2.2) else bif !d.2 then(Q33 c 1 w,eff0,x.2.2) else bif Q3o d.1.Op then(bif iand .u32 c.B6.a0 1==0 then(Q33 c 2 w,eff0,x.2.2) else Qid c x.2.2 d.1) else Qid c x.2.2 d.1
def doP(y:Int×List Int×Int)(d:Q0g×Bool):Q03×List Int×Q11:=
 bif y.2.2 !=0 then(Q4w c y.2.2 c.Pc,y.2.1,eff0) else bif !d.2 then(Q4w c 1 y.1,y.2.1,eff0) else bif Q8z d.1.Op then(bif !Qag c then(Q4w c 2 y.1,y.2.1,eff0) else Q65 c y.2.1 d.1) else Q65 c y.2.1 d.1
theorem do_eq:Q8e c m=doR c (Q12 c m c.Pc 4 1) (Q1b (Q12 c m c.Pc 4 1).2.2 (Q12 c m c.Pc 4 1).1 4).1 (Q1z (Q1b (Q12 c m c.Pc 4 1).2.2 (Q12 c m c.Pc 4 1).1 4).1):=by kernel_rfl
theorem exec_eq:Q84 c m=doP c (Qm4 c m) (Qgg (Qm4 c m).1):=by kernel_rfl
theorem fetch_eq:Qm4 c m=bif(Q21 c m c.Pc 4 1).2.2 !=0 then(0,(Q21 c m c.Pc 4 1).2.1,(Q21 c m c.Pc 4 1).2.2) else((Q50 (Q21 c m c.Pc 4 1).2.1 (Q21 c m c.Pc 4 1).1 4).1,(Q21 c m c.Pc 4 1).2.1,0):=by kernel_rfl
end
theorem Zc1{P:Nat}{m:List Int}(h:Q10 P m){c:Q03}(hc:Q2s c)(hst:c.B6.a0≤31):Q84 c m=((Q8e c m).1,(Q8e c m).2.2,(Q8e c m).2.1):=by
  obtain⟨k,u,b⟩:=Zdl h hc hc.pc (.inr rfl) 1
  have tr: ∀k b,Q4w c k b=Q33 c k b:=Qml hc.a0.1 hst
  rw[exec_eq,do_eq,fetch_eq,Qmk h hc hst hc.pc (.inr rfl) (.inl rfl)]
  generalize Q12 c m c.Pc 4 1=x at*
  cases hx:x.2.1 !=0
  · rw [Qn3 k u (.inr rfl)]
    have hw:U (Q1b x.2.2 x.1 4).1:=(Tree.pp (Zar k u (.inr rfl))).2
    generalize(Q1b x.2.2 x.1 4).1=w at*
    show doP c (w,x.2.2,0) (Qgg w)=_
    rw[decode_eq hw]
    have o:=decode_op hw
    have i:=Tree.post _ (Zgx w)
    change(Q1z w).2=true→Qeu (Q1z w).1 at i
    generalize Q1z w=d at*
    obtain⟨⟨op,A,B,C,Imm⟩,ok⟩:=d
    cases ok
    · simp only[doP,doR,hx,tr];rfl
    · have o:isOp op:=o rfl
      have i:=i rfl
      have p:=post_same (C:=C) (B:=B) (Imm:=Imm) k hc hst i.a o
      have pv:Q8z op=Q3o op:=priv_eq (by have:=isOp_le o;omega) (by have:=isOp_le o;omega)
      have kn:(!Qag c)=(iand .u32 c.B6.a0 1==0):=by
        show(!(!(iand .u32 c.B6.a0 1==0)))=_
        exact Bool.not_not _
      simp only[doP,doR,hx,tr,pv,kn,p]
      cases Q3o op
      · rfl
      · cases iand .u32 c.B6.a0 1==0<;>rfl
  · simp only[doP,doR,hx,cond_true,tr]
end Go.Proofs.YtpcbkbalabgnlaaGreat
namespace Go.Proofs.YtpcbkbalabgnlaaGreat
open Go Go.GD
set_option maxRecDepth 100000
theorem ge_not{a b:Int}:decide (a≥b)=!decide (a<b):=by
 by_cases h:a<b
 · rw[decide_eq_true h,decide_eq_false (by omega)];rfl
 · rw[decide_eq_false h,decide_eq_true (by omega)];rfl
def bits(g:Int)(l:List Nat)(s:Int):Int:=l.foldl (λ(a:Int) (i:Nat)=>IntKind.wrap .i64 (a+IntKind.wrap .i64 (iand .u32 (ishr .u32 g (i:Int)) 1))) s
theorem given_eq(b:Q06):Qdo b=bits b.C1 [0,1,2,3,4,5,6,7,8,9,10,11,12,13,14,15,16,17,18,19,20,21,22,23,24,25,26,27,28,29,30,31] 0:=by kernel_rfl
theorem bit_eq{g:Int}(hg:U g){i:Nat}(hi:i≤32):IntKind.wrap .i64 (iand .u32 (ishr .u32 g (i:Int)) 1)=g/2^i%2:=by
 rw[and1 (Qu3 hg _),Qp0 i hi]
 have:0≤g/2^i%2∧g/2^i%2<2:=by omega
 exact w64 (by omega) (by omega)
theorem bits_sum{g:Int}(hg:U g)(l:List Nat): ∀s:Int,(∀i∈l,i≤32)→0≤s→s+l.length≤1000→bits g l s=s+(l.map λi=>g/2^i%2).sum:=by
 induction l with
 |nil=>intro s _ _ _;simp [bits]
 | cons i l ih=>
   intro s hl h0 h1
   have h1:s+(l.length+1)≤1000:=by simpa using h1
   have hb:0≤g/2^i%2∧g/2^i%2<2:=by omega
   have e:bits g (i::l) s=bits g l (s+g/2^i%2):=by
     show bits g l (IntKind.wrap .i64 (s+IntKind.wrap .i64 (iand .u32 (ishr .u32 g (i:Int)) 1)))=_
     rw[bit_eq hg (hl i (by simp)),w64 (by omega) (by omega)]
   rw[e,ih _ (λj hj=>hl j (by simp [hj])) (by omega) (by omega)]
   simp;omega
theorem Zkb(n:Q0m)(port:Int):Z0f n port=Qgi n port:=by
 simp only[Z0f,Qr0,Qgi,Qf6,Tree.m]
 cases n.C7<;>cases n.B8<;>rfl
theorem Z0q(t:Q0h):Q4i t=Qcq t:=by
 simp only[Q4i,Qkx,Qcq,Qhv,Tree.m]
 cases t.D7<;>cases t.D6<;>rfl
theorem Z8m(n:Q0m)(p:Int):Q69 n p=Qgr n p:=by
 simp only[Q69,Qjk,Qgr,Qkr,Tree.m]
 cases n.C7<;>cases n.B8<;>rfl
theorem Z7d(d:Q0c)(p:Int):Q1i d p=Qeq d p:=by
  simp only[Q1i,Q6g,Q9t,Q7q,Qeq,Qiz,Tree.m,letv,ge_not]
  cases decide (d.Blocks>64)
  · by_cases s:d.B9=0∨d.B9=1∨d.B9=2∨d.B9=3
    · rcases s with s|s|s|s<;>rw[s]
      · rfl
      · by_cases c1:d.D8=1
        · rw[c1];cases decide (d.B7<d.Blocks)<;>cases decide (IntKind.wrap .i64 d.B2<p)<;>cases decide (d.C3=[])<;>rfl
        · by_cases c2:d.D8=2
          · rw[c2];cases decide (d.B7<d.Blocks)<;>cases decide (IntKind.wrap .i64 d.B2<p)<;>cases(d.C3.length:Int)==128<;>rfl
          · rw[show(d.D8==1)=false by simpa using c1,show(d.D8==2)=false by simpa using c2]
            cases decide (d.B7<d.Blocks)<;>cases decide (IntKind.wrap .i64 d.B2<p)<;>rfl
      · rfl
      · rfl
    · rw[show(d.B9==0)=false by simp;omega,show(d.B9==1)=false by simp;omega,show(d.B9==2)=false by simp;omega,show(d.B9==3)=false by simp;omega]
      by_cases n:d.B9<0
      · rw[decide_eq_true n];rfl
      · rw[decide_eq_false n,decide_eq_true (show d.B9>3 by omega)];rfl
  · rfl
theorem con_same(c:Q0b):Q9a c=Q5w c:=by
 show(!decide (c.D1=[]))=decide ((c.D1.length:Int)>0)
 cases c.D1 with
 |nil=>rfl
 |cons a l=>rw[decide_eq_false (by simp),decide_eq_true (by simp)];rfl
theorem len_nil(k:List UInt8):decide (k=[])=((k.length:Int)==0):=by
 cases k with
 |nil=>rfl
 | cons a l=>
   rw[decide_eq_false (by simp)]
   exact(beq_eq_false_iff_ne.2 (by simp;omega)).symm
theorem Zht(c:Q0b)(port:Int):Qo8 c port=Q5l c port:=by
 simp only[Qo8,Q9e,Q5l,Q3w,Tree.m,len_nil]
 cases port==0
 · rfl
 · cases(c.D1.length:Int)==0<;>rfl
theorem arm_same(t:Q0h)(v:Int):Qk5 t v=Qqe v:=by
 simp only[Qk5,Qkp,Qqe,Qtn,Tree.m]
 cases h:v==0
 · rw[show(v !=0)=true by simp only[bne,h];rfl];rfl
 · rw[show(v !=0)=false by simp only[bne,h];rfl,eq_of_beq h];rfl
section
variable {P:Nat} {m:List Int} (h:Q10 P m)
include h
theorem Z2y(f:Int):Q9c m f=Q25 m f:=by
 have a:=Q40 h
 have b:=Qe9 h
 simp only[Q9c,Qd4,Q25,Qgk,Tree.m,letv,a,b]
theorem Z46(f:Int):Qal m f=Q25 m f:=by
 have a:=Q40 h
 have b:=Qe9 h
 simp only[Qal,Qeh,Q25,Qgk,Tree.m,letv,a,b]
theorem Zb5(d:Q0c)(port:Int)(v:Int)(at0:Int):Qwn d m port v at0=Qew d m port v at0:=by
  have pg:=Z2y h
  have pa:=Z9q h
  have rq: ∀d a,Qik d a=Qih d a:=λ_ _=>rfl
  simp only[Qwn,Qa9,Qt3,Q6s,Qew,Q8p,Tree.m,letv,pg,pa,rq]
  cases port==4
  · cases port==5
    · cases h6:port==6
      · rw[show(port !=6)=true by simp only[bne,h6];rfl];rfl
      · rw [show(port !=6)=false by simp only[bne,h6];rfl]
        by_cases v1:v=1
        · subst v1
          cases hs:d.B9==0
          · rw[show(d.B9 !=0)=true by simp only[bne,hs];rfl];rfl
          · rw[show(d.B9 !=0)=false by simp only[bne,hs];rfl];rfl
        · by_cases v2:v=2
          · subst v2
            cases hs:d.B9==0
            · rw[show(d.B9 !=0)=true by simp only[bne,hs];rfl];rfl
            · rw[show(d.B9 !=0)=false by simp only[bne,hs];rfl];rfl
          · rw[show(v==1)=false by simpa using v1,show(v==2)=false by simpa using v2]
            cases v==0
            · rfl
            · have:Q99 d=(bif d.B9==2 then true else d.B9==3):=rfl
              rw[this]
              cases d.B9==2<;>cases d.B9==3<;>rfl
    · rfl
  · rfl
theorem Zdg(n:Q0m)(port:Int)(v:Int)(at0:Int):Z5e n m port v at0=Qhk n m port v at0:=by
  have pg:=Z46 h
  have pa:=Z9q h
  simp only[Z5e,Qd5,Z5l,Qa7,Qhk,Qae,Tree.m,letv,pg,pa]
  have g1:decide (n.F0≥1)=!decide (n.F0<1):=ge_not
  have g2:decide (n.F0≤128)=!decide (n.F0>128):=by
    by_cases h:n.F0>128
    · rw[decide_eq_true h,decide_eq_false (by omega)];rfl
    · rw[decide_eq_false h,decide_eq_true (by omega)];rfl
  rw[g1,g2]
  cases port==7
  · cases port==8
    · cases h9:port==9
      · rw[show(port !=9)=true by simp only[bne,h9];rfl];rfl
      · rw [show(port !=9)=false by simp only[bne,h9];rfl]
        by_cases v1:v=1
        · subst v1
          cases decide (n.F0<1)<;>cases decide (n.F0>128)<;>cases Q25 m n.B4<;>rfl
        · by_cases v2:v=2
          · subst v2;rfl
          · rw[show(v==1)=false by simpa using v1,show(v==2)=false by simpa using v2]
            cases v==0<;>rfl
    · rfl
  · rfl
theorem Z7q{d:Q0c}(hd:Q95 d)(e:Q09):Qg1 d m e=((Q8c d m e).1,(Q8c d m e).2.2,(Q8c d m e).2.1):=by
  have hcl:Q02 m=m:=rfl
  have pg:=Z2y h d.B2
  have lp:decide ((e.C6.length:Int)>0)=!decide (e.C6=[]):=by
    cases e.C6 with
    |nil=>rfl
    |cons a l=>rw[decide_eq_true (by simp),decide_eq_false (by simp)];rfl
  have bad:(e.C6.length:Int)≠128→Q25 m d.B2=true→Q2y m (IntKind.wrap .i64 d.B2) e.C6=(m,false):=λhl hp=>by
    rw[Qkv h hd.opFrame]at hp
    have hp:=of_decide_eq_true hp
    have h1:=hd.opFrame.1
    have h3:=h.p2
    have ew:IntKind.i64.wrap d.B2=d.B2:=w64 (by omega) (by omega)
    simp only[Q2y,Q26,Tree.m,letv,hcl,ew,Z75 h,decide_eq_true (⟨h1,hp⟩:0≤d.B2∧d.B2<P),show((e.C6.length:Int) !=128)=true by simpa using hl]
    rfl
  have good:(e.C6.length:Int)=128→Q25 m d.B2=true→Q2y m (IntKind.wrap .i64 d.B2) e.C6=(Qk9 m (IntKind.wrap .i64 d.B2) e.C6,true):=λhl hp=>by
    rw[Qkv h hd.opFrame]at hp
    have hp:=of_decide_eq_true hp
    have h1:=hd.opFrame.1
    have h3:=h.p2
    have ew:IntKind.i64.wrap d.B2=d.B2:=w64 (by omega) (by omega)
    rw[ew];exact Zbo h h1 hp (by omega)
  simp only[Qg1,Q4o,Q8c,Q6z,Tree.m,letv,hcl,pg,lp]
  cases d.B9 !=1
  · cases e.B5 !=4
    · cases decide (e.N>1)
      · cases e.N==1
        · cases decide (e.C6=[])<;>rfl
        · cases hc:d.D8==1
          · cases decide (e.C6=[])<;>rfl
          · by_cases hl:(e.C6.length:Int)=128
            · rw[show((e.C6.length:Int) !=128)=false by simpa using hl]
              cases hp:Q25 m d.B2
              · rfl
              · rw[good hl hp];rfl
            · rw[show((e.C6.length:Int) !=128)=true by simpa using hl]
              cases hp:Q25 m d.B2
              · rfl
              · rw[bad hl hp];rfl
      · rfl
    · rfl
  · rfl
theorem Z9n{n:Q0m}(hn:Qie n)(frame:List UInt8):Qko n m frame=((Q8i n m frame).1,(Q8i n m frame).2.2,(Q8i n m frame).2.1):=by
  have hcl:Q02 m=m:=rfl
  have pg:=Z46 h n.C0
  simp only[Qko,Q6q,Q8i,Q6v,Tree.m,letv,hcl,pg]
  cases !n.C7
  · cases decide ((frame.length:Int)<1)
    · cases hf:decide ((frame.length:Int)>128)
      · cases hp:Q25 m n.C0
        · rfl
        · rw[Qkv h hn.buffer]at hp
          have hp:=of_decide_eq_true hp
          have h1:=hn.buffer.1
          have h3:=h.p2
          have ew:IntKind.i64.wrap n.C0=n.C0:=w64 (by omega) (by omega)
          have hf:=of_decide_eq_false hf
          obtain⟨b1,b2⟩:=(Tree.pp (mpage_b h h1 hp)).2
          change isPg m n.C0 (Q64 m n.C0).1 at b1
          have tk:List.take (Int.toNat ((Q64 m n.C0).1.length:Int)-Int.toNat (frame.length:Int)) (List.drop (Int.toNat (frame.length:Int)) (Q64 m n.C0).1)=(Q64 m n.C0).1.drop frame.length:=by
            rw[Int.toNat_natCast,Int.toNat_natCast]
            exact List.take_of_length_le (by simp)
          rw[ew,tk,Zbj h h1 hp (by omega) b1]
          rfl
      · rfl
    · rfl
  · rfl
end
end Go.Proofs.YtpcbkbalabgnlaaGreat
namespace Go.Proofs.YtpcbkbalabgnlaaGreat
open Go Go.GD
set_option maxRecDepth 100000
def ptab:List UInt8:=(List.range 256).map λn=>UInt8.ofNat (n%2+n/2%2+n/4%2+n/8%2+n/16%2+n/32%2+n/64%2+n/128%2)
def pt(n:Int):Int:=((UInt8.toNat (ptab.getD n.toNat 0):Nat):Int)
theorem pop_form(x:Int):Q70 x=IntKind.wrap .i64 (IntKind.wrap .u8 (IntKind.wrap .u8 (IntKind.wrap .u8 (pt (ishr .u32 x 24)+pt (iand .u32 (ishr .u32 x 16) 255))+pt (iand .u32 (ishr .u32 x 8) 255))+pt (iand .u32 x 255))):=by kernel_rfl
theorem pt8{a:Int}(h0:0≤a)(h1:a<256):pt a=a%2+a/2%2+a/4%2+a/8%2+a/16%2+a/32%2+a/64%2+a/128%2:=
 eq_of_beq (Qrb (λa=>pt a==a%2+a/2%2+a/4%2+a/8%2+a/16%2+a/32%2+a/64%2+a/128%2) 256 (by kernel_rfl) h0 h1)
theorem given_sum{g:Int}(hg:U g):bits g [0,1,2,3,4,5,6,7,8,9,10,11,12,13,14,15,16,17,18,19,20,21,22,23,24,25,26,27,28,29,30,31] 0=pt (g%256)+pt (g/256%256)+pt (g/65536%256)+pt (g/16777216):=by
 rw[bits_sum hg _ 0 (by decide) (by decide) (by decide),pt8 (by omega) (by omega),pt8 (by omega) (by omega),pt8 (by omega) (by omega),pt8 (by have:=hg.1;omega) (by have:=hg.2;omega)]
 obtain⟨g0,g1⟩:=hg
 simp only[List.map_cons,List.map_nil,List.sum_cons,List.sum_nil]
 have e: ∀i j:Nat,∀k:Int,i<8→k=2^j→g/2^(i+j)%2=(g/k%256)/2^i%2:=λi j k hi hk=>by
   subst hk
   rw[Nat.add_comm,Int.pow_add,←Int.ediv_ediv_of_nonneg (Int.le_of_lt (Int.pow_pos (by decide)))]
   generalize g/2^j=x
   have:i=0∨i=1∨i=2∨i=3∨i=4∨i=5∨i=6∨i=7:=by omega
   rcases this with rfl|rfl|rfl|rfl|rfl|rfl|rfl|rfl<;>simp<;>omega
 have e0: ∀i:Nat,i<8→g/2^i%2=(g%256)/2^i%2:=λi hi=>by have:=e i 0 1 hi rfl;simpa using this
 have e24:g/16777216%256=g/16777216:=by omega
 rw[e0 0 (by decide),e0 1 (by decide),e0 2 (by decide),e0 3 (by decide),e0 4 (by decide),e0 5 (by decide),e0 6 (by decide),e0 7 (by decide)]
 rw[e 0 8 256 (by decide) (by decide),e 1 8 256 (by decide) (by decide),e 2 8 256 (by decide) (by decide),e 3 8 256 (by decide) (by decide),e 4 8 256 (by decide) (by decide),e 5 8 256 (by decide) (by decide),e 6 8 256 (by decide) (by decide),e 7 8 256 (by decide) (by decide)]
 rw[e 0 16 65536 (by decide) (by decide),e 1 16 65536 (by decide) (by decide),e 2 16 65536 (by decide) (by decide),e 3 16 65536 (by decide) (by decide),e 4 16 65536 (by decide) (by decide),e 5 16 65536 (by decide) (by decide),e 6 16 65536 (by decide) (by decide),e 7 16 65536 (by decide) (by decide)]
 rw[e 0 24 16777216 (by decide) (by decide),e 1 24 16777216 (by decide) (by decide),e 2 24 16777216 (by decide) (by decide),e 3 24 16777216 (by decide) (by decide),e 4 24 16777216 (by decide) (by decide),e 5 24 16777216 (by decide) (by decide),e 6 24 16777216 (by decide) (by decide),e 7 24 16777216 (by decide) (by decide),e24]
 generalize g%256=a
 generalize g/256%256=b
 generalize g/65536%256=c
 generalize g/16777216=d
 simp only[show(2:Int)^0=1 from rfl,show(2:Int)^1=2 from rfl,show(2:Int)^2=4 from rfl,show(2:Int)^3=8 from rfl,show(2:Int)^4=16 from rfl,show(2:Int)^5=32 from rfl,show(2:Int)^6=64 from rfl,show(2:Int)^7=128 from rfl,Int.ediv_one]
 omega
theorem pt_le{a:Int}(h0:0≤a)(h1:a<256):0≤pt a∧pt a≤8:=by rw[pt8 h0 h1];omega
theorem Z4b{b:Q06}(hg:U b.C1):Qd0 b=Qdo b∧0≤Qdo b∧Qdo b≤32:=by
 obtain⟨s8,s16,s24⟩:=shr_c b.C1
 have u8:U (ishr .u32 b.C1 8):=Qu3 hg _
 have u16:U (ishr .u32 b.C1 16):=Qu3 hg _
 have e:Qd0 b=Q70 b.C1:=rfl
 rw[e,pop_form,given_eq,given_sum hg,m255 u8,m255 u16,m255 hg,s8,s16,s24]
 obtain⟨g0,g1⟩:=hg
 have p0:=pt_le (a:=b.C1%256) (by omega) (by omega)
 have p1:=pt_le (a:=b.C1/256%256) (by omega) (by omega)
 have p2:=pt_le (a:=b.C1/65536%256) (by omega) (by omega)
 have p3:=pt_le (a:=b.C1/16777216) (by omega) (by omega)
 have w8: ∀x,IntKind.wrap .u8 x=x%256:=λx=>IntKind.wrap_u8 x
 rw[w8,w8,w8,IntKind.wrap_i64]
 omega
theorem Z8s{b:Q06}(h:okB b):Q7l b=Q47 b:=by
 obtain⟨e,l0,l1⟩:=Z4b h.2
 obtain⟨t0,t1⟩:=h.1
 simp only[Q7l,Q2k,Q47,Q9g,Tree.m,letv,e]
 rw[IntKind.wrap_u32,IntKind.wrap_u64,IntKind.wrap_u64,Int.emod_eq_of_lt l0 (by omega),Int.emod_eq_of_lt l0 (by omega),Int.emod_eq_of_lt t0 (by omega)]
theorem Zjc{b:Q06}(h:okB b)(port:Int):Qnw b port=Q5k b port:=by
 simp only[Qnw,Q6x,Q5k,Q6a,Tree.m,letv,(Z4b h.2).1]
theorem bit_pow(g:Int)(z:Nat):g%2^(z+1)=g%2^z+2^z*(g/2^z%2):=by
 have hp:(0:Int)<2^z:=Int.pow_pos (by decide)
 have h1:=Int.mul_ediv_add_emod g (2^z)
 have h2:=Int.mul_ediv_add_emod (g/2^z) 2
 have h3:(g/2^z)/2=g/2^(z+1):=by rw[Int.pow_succ,Int.ediv_ediv_of_nonneg (Int.le_of_lt hp)]
 have h4:=Int.mul_ediv_add_emod g (2^(z+1))
 rw[h3]at h2
 have h5:(2:Int)^(z+1)*(g/2^(z+1))=2^z*(2*(g/2^(z+1))):=by rw[Int.pow_succ,Int.mul_assoc]
 have h6:(2:Int)^z*(g/2^z)=2^z*(2*(g/2^(z+1)))+2^z*(g/2^z%2):=by rw[←Int.mul_add,h2]
 omega
theorem rbal_w{b:Q06}(hg:U b.C1){P:Nat}(hP:P≤32):(Q5r b P).w (λr=>r=decide (b.C1<2^P)):=by
 unfold Q5r
 have fin: ∀v:Int,0≤v→v≤32→IntKind.wrap .u64 v=(v.toNat:Int):=λv h0 h1=>by rw[IntKind.wrap_u64];omega
 refine w_lp (inv:=λz:Int=>0≤z∧z≤32∧b.C1%2^z.toNat<2^P) (μ:=Q6m b P) ⟨by decide,by decide,by have:(0:Int)<2^P:=Int.pow_pos (by decide);simpa using this⟩ (Nat.lt_succ_self _) λz ⟨z0,z1,z2⟩=> ?_
 refine w_br (λhb=> ?_) (λhb=> ?_)
 · have hb:=of_decide_eq_true hb
   have ew:IntKind.i64.wrap (z+1)=z+1:=w64 (by omega) (by omega)
   have bt:iand .u32 (ishr .u32 b.C1 (IntKind.wrap .u64 z)) 1=b.C1/2^z.toNat%2:=by
     rw[fin z z0 z1,and1 (Qu3 hg _),Qp0 _ (by omega)]
   have bp:=bit_pow b.C1 z.toNat
   have zt:(z+1).toNat=z.toNat+1:=by omega
   refine w_cn (decide_eq_true (by rw[IntKind.wrap_u64];omega)) ?_
   rw[bt]
   refine w_br (λe=>w_br (λhp=> ?_) (λhp=>w_nx ?_)) (λe=>w_nx ?_)
   · have e:=eq_of_beq e
     have hp:=of_decide_eq_true hp
     show false=_
     refine(decide_eq_false λhlt=> ?_).symm
     have hle:(2:Int)^P≤2^z.toNat:=by exact_mod_cast Nat.pow_le_pow_right (show 0<2 by decide) (show P≤z.toNat by omega)
     have:b.C1/2^z.toNat=0:=Int.ediv_eq_zero_of_lt hg.1 (by omega)
     rw[this]at e;cases e
   · have e:=eq_of_beq e
     have hp:=of_decide_eq_false hp
     show(0≤IntKind.i64.wrap (z+1)∧IntKind.i64.wrap (z+1)≤32∧b.C1%2^(IntKind.i64.wrap (z+1)).toNat<2^P)∧(32-IntKind.i64.wrap (z+1)).toNat<(32-z).toNat
     rw[ew,zt]
     have hle:(2:Int)^(z.toNat+1)≤2^P:=by exact_mod_cast Nat.pow_le_pow_right (show 0<2 by decide) (show z.toNat+1≤P by omega)
     have:=Int.emod_lt_of_pos b.C1 (show(0:Int)<2^(z.toNat+1) from Int.pow_pos (by decide))
     exact⟨⟨by omega,by omega,by omega⟩,by omega⟩
   · have e: ¬b.C1/2^z.toNat%2=1:=by simpa using e
     have e:b.C1/2^z.toNat%2=0:=by omega
     rw[e]at bp
     show(0≤IntKind.i64.wrap (z+1)∧IntKind.i64.wrap (z+1)≤32∧b.C1%2^(IntKind.i64.wrap (z+1)).toNat<2^P)∧(32-IntKind.i64.wrap (z+1)).toNat<(32-z).toNat
     rw[ew,zt,bp]
     exact⟨⟨by omega,by omega,by omega⟩,by omega⟩
 · have hb:=of_decide_eq_false hb
   have:z=32:=by omega
   subst this
   show true=_
   refine(decide_eq_true ?_).symm
   have h2:b.C1%2^(32:Int).toNat=b.C1:=Int.emod_eq_of_lt hg.1 hg.2
   rwa [h2]at z2
theorem Zem{b:Q06}(hg:U b.C1){P:Nat}(hP:P≤32):Q2r b P=Q9i b P:=by
 have r:=(Tree.pp (rbal_w hg hP)).2
 change Q9i b P=_ at r
 rw[r,Bool.eq_iff_iff,Qz8 hg,decide_eq_true_eq]
end Go.Proofs.YtpcbkbalabgnlaaGreat
namespace Go.Proofs.YtpcbkbalabgnlaaGreat
open Go Go.GD
set_option maxRecDepth 100000
theorem zeros:strings_Repeat [(0:UInt8)] 128=List.replicate 128 0:=by kernel_rfl
theorem give_b{P:Nat}{m:List Int}(hm:Q10 P m){b:Q06}{port:Int}{v:Int}(hv:U v)(hp:v<P)(h10:port=10)(hb:(iand .u32 (ishr .u32 b.C1 v) 1==0)=true):(Q5 b m port v).w (λr=>r.1={C9:=b.C9,C1:=ior .u32 b.C1 (ishl .u32 1 v)}∧Q10 P r.2∧ ∀k:Nat,byt r.2 k=if v*128≤k∧(k:Int)<v*128+128 then 0 else byt m k):=by
 have hv0:decide (0≤v)=true:=decide_eq_true hv.1
 have h2:=hm.p2
 have pg:Q25 m v=true:=by rw[Qkv hm hv];exact decide_eq_true hp
 obtain⟨v1,v2⟩:=hv
 subst h10
 unfold Q5
 refine w_br (λ_=>w_lv λx0 hx=>w_br (λ_=>w_cn hv0 (w_br (λ_=>w_cn hv0 ?_) (λh=>by rw[hb]at h;cases h))) (λh=>by rw[hx,pg]at h;cases h)) (λh=>by cases h)
 refine w_lp (inv:=λz=>0≤z.1∧z.1≤32∧Q10 P z.2∧ ∀k:Nat,byt z.2 k=if v*128≤k∧(k:Int)<v*128+4*z.1 then 0 else byt m k) (μ:=Qhs b m 10 v) ⟨show(0:Int)≤0 by decide,show(0:Int)≤32 by decide,hm,λk=>by rw[if_neg];show¬(_∧_<_+4*(0:Int));omega⟩ (Nat.lt_succ_self _) (λz hz=> ?_)
 obtain⟨z1,z2,z3,z4⟩:=hz
 have hl:=z3.len
 refine w_br (λh=> ?_) (λh=>⟨rfl,z3,λk=> ?_⟩)
 · have h:=of_decide_eq_true h
   have e:IntKind.wrap IntKind.i64 (IntKind.wrap IntKind.i64 (IntKind.wrap IntKind.i64 v*32)+z.1)=v*32+z.1:=by rw[IntKind.wrap_i64,IntKind.wrap_i64,IntKind.wrap_i64];omega
   refine w_cn (by rw[e];simp [Nat.blt];omega) (w_nx ?_)
   have ew:IntKind.i64.wrap (z.1+1)=z.1+1:=by rw[IntKind.wrap_i64];omega
   show(0≤IntKind.i64.wrap (z.1+1)∧IntKind.i64.wrap (z.1+1)≤32∧Q10 P (List.set _ _ _)∧ ∀k:Nat,byt (List.set z.2 (Int.toNat (IntKind.wrap IntKind.i64 (IntKind.wrap IntKind.i64 (IntKind.wrap IntKind.i64 v*32)+z.1))) 0) k=if v*128≤(k:Int)∧(k:Int)<v*128+4*IntKind.i64.wrap (z.1+1) then 0 else _)∧(32-IntKind.i64.wrap (z.1+1)).toNat<(32-z.1).toNat
   rw[ew,e]
   refine⟨⟨by omega,by omega,⟨by simp [hl],z3.p1,z3.p2,Z1b z3.u U_0 _⟩,λk=> ?_⟩,by omega⟩
   rw[Zdz (by omega)]
   by_cases hc:k/4=(v*32+z.1).toNat
   · rw[if_pos hc,if_pos (by omega)]
     have:k%4=0∨k%4=1∨k%4=2∨k%4=3:=by omega
     rcases this with h|h|h|h<;>rw[h]<;>rfl
   · rw[if_neg hc,z4 k]
     by_cases hd:v*128≤(k:Int)∧(k:Int)<v*128+4*z.1
     · rw[if_pos hd,if_pos (by omega)]
     · rw[if_neg hd,if_neg (by omega)]
 · have h:=of_decide_eq_false h
   show byt z.2 k=_
   rw[z4 k,show z.1=32 by omega];rfl
theorem bitv{g v:Int}(hg:U g)(v0:0≤v)(v1:v<32):(iand .u32 g (ishl .u32 1 v)==0)=(iand .u32 (ishr .u32 g v) 1==0):=by
 obtain⟨z,rfl⟩: ∃z:Nat,v=z:=⟨v.toNat,by omega⟩
 obtain⟨n,rfl⟩: ∃n:Nat,g=n:=⟨g.toNat,by have:=hg.1;omega⟩
 have hz:z<32:=by omega
 have hlt:(2:Nat)^z<4294967296:=by have:=Nat.pow_lt_pow_right (show 1<2 by omega) hz;simpa using this
 rw[and1 (Qu3 hg _),Qp0 z (by omega),shl_one v0 v1,Int.toNat_natCast]
 have hc:((2:Int)^z)=((2^z:Nat):Int):=by simp
 generalize hq:2^z=q at*
 rw[hc,Zdx hg ⟨by omega,by omega⟩,Int.toNat_natCast,Int.toNat_natCast,←hq]
 have e1:(n&&&2^z)=0↔n/2^z%2=0:=by
   have t:n.testBit z=decide (n/2^z%2=1):=Nat.testBit_eq_decide_div_mod_eq
   constructor
   · intro h
     have h2:(n&&&2^z).testBit z=false:=by rw[h];exact Nat.zero_testBit z
     rw[Nat.testBit_and,Nat.testBit_two_pow_self,Bool.and_true,t]at h2
     have:=of_decide_eq_false h2
     omega
   · intro h
     have t0:n.testBit z=false:=by rw[t];exact decide_eq_false (by omega)
     apply Nat.eq_of_testBit_eq
     intro i
     rw[Nat.testBit_and,Nat.testBit_two_pow,Nat.zero_testBit]
     by_cases hi:z=i
     · subst hi;rw[t0];rfl
     · rw[decide_eq_false hi,Bool.and_false]
 rw[Bool.eq_iff_iff,beq_iff_eq,beq_iff_eq]
 constructor
 · intro h;have:=e1.1 (by omega);omega
 · intro h;have:=e1.2 (by omega);omega
theorem Zez{P:Nat}{m:List Int}(h:Q10 P m){b:Q06}(hb:okB b)(port:Int){v:Int}(hv:U v):Q8b b m port v=Q6t b m port v:=by
  have hcl:Q02 m=m:=rfl
  have hp:=Q40 h
  have h2:=h.p2
  have ew:IntKind.i64.wrap v=v:=w64 (by have:=hv.1;omega) (by have:=hv.2;omega)
  have pe:=Qkv h hv
  by_cases h32:v<32
  · have bv :=bitv hb.2 hv.1 h32
    by_cases h10:port=10
    · by_cases hP:v<P
      · cases hz:iand .u32 (ishr .u32 b.C1 v) 1==0
        · simp only[Q8b,Q2n,Q6t,Q5,Tree.m,letv,hcl,hp,ew,pe,bv,hz,h10,decide_eq_true hP,decide_eq_false (show¬v≥32 by omega)]
          rfl
        · obtain⟨g1,g2,g3⟩:=(Tree.pp (give_b h hv hP h10 hz)).2
          change(Q6t b m port v).1=_ at g1
          change Q10 P (Q6t b m port v).2 at g2
          change∀k:Nat,byt (Q6t b m port v).2 k=_ at g3
          obtain⟨s1,s2,s3⟩:=(Tree.pp (Qyn h hv.1 hP (s:=List.replicate 128 0) (by simp))).2
          have em:(Q2y m v (List.replicate 128 0)).1=(Q6t b m port v).2:=by
            refine Zed (s2.len.trans g2.len.symm) s2.u g2.u λk=> ?_
            rw[g3 k]
            refine(s3 k).trans ?_
            by_cases hk:v*128≤(k:Int)∧(k:Int)<v*128+128
            · rw[if_pos hk,if_pos hk]
              have:(List.replicate 128 (0:UInt8)).getD ((k:Int)-v*128).toNat 0=0:=by
                rw[List.getD_eq_getElem?_getD,List.getElem?_replicate]
                split<;>rfl
              rw[this];rfl
            · rw[if_neg hk,if_neg hk]
          have el:Q8b b m port v=({C9:=b.C9,C1:=ior .u32 b.C1 (ishl .u32 1 v)},(Q2y m v (List.replicate 128 0)).1):=by
            simp only[Q8b,Q2n,Tree.m,letv,hcl,hp,ew,bv,hz,h10,decide_eq_true hP,decide_eq_false (show¬v≥32 by omega),zeros]
            rfl
          rw[el,em,←g1]
      · simp only[Q8b,Q2n,Q6t,Q5,Tree.m,letv,hcl,hp,ew,pe,h10,decide_eq_false hP,decide_eq_false (show¬v≥32 by omega)]
        rfl
    · simp only[Q8b,Q2n,Q6t,Q5,Tree.m,letv,hcl,decide_eq_true h32,decide_eq_false (show¬v≥32 by omega),show(port==10)=false by simpa using h10]
      cases port==11<;>rfl
  · simp only[Q8b,Q2n,Q6t,Q5,Tree.m,letv,hcl,pe,decide_eq_false h32,decide_eq_true (show v≥32 by omega),decide_eq_false (show¬v<P by omega)]
    cases port==10<;>cases port==11<;>rfl
end Go.Proofs.YtpcbkbalabgnlaaGreat
namespace Go.Proofs.YtpcbkbalabgnlaaGreat
open Go Go.GD
set_option maxRecDepth 100000
structure okV(m:Q00):Prop where
 cpu:Q2s m.B3
 mem: ∀w∈m.Mem,U w
 disk:Q95 m.B1
 nic:Qie m.C5
 bal:okB m.A1
 cnt:0≤m.A2
theorem Qmu(m:List Int)(hm: ∀w∈m,U w):Q0r m=Q44 m∧(Q0r m=0∨ ∃P:Nat,1≤P∧Q10 P m):=by
 refine⟨rfl,?_⟩
 simp only[Q0r,Q8x,Tree.m]
 cases h1:Int.tmod (m.length:Int) 32 !=0
 · cases h2:decide ((m.length:Int)>1024)
   · have h1:Int.tmod (m.length:Int) 32=0:=by simpa using h1
     have h2:=of_decide_eq_false h2
     rw[Int.tmod_eq_emod_of_nonneg (by omega)]at h1
     by_cases h0:m.length=0
     · left;rw[h0];rfl
     · right;exact⟨m.length/32,by omega,⟨by omega,by omega,by omega,hm⟩⟩
   · left;rfl
 · left;rfl
theorem rcnd{a x:Bool}:(bif !a then false else x)=true↔a=true∧x=true:=by cases a<;>simp
theorem rmay_iff(m:Q00):Q7e m=true↔ ¬(Q44 m.Mem<1)∧Q7c m.B3∧Qi1 m.A3=true∧Qcq m.B0=true∧Qeq m.B1 (Q44 m.Mem)=true∧Qgr m.C5 (Q44 m.Mem)=true∧Q9i m.A1 (Q44 m.Mem)=true∧m.A2≤1152921504606846976∧ ¬(m.A6=true∧m.A9=true):=by
 simp only[Q7e,Qta,Tree.m,letv]
 rw[cnd2,cnd2,cnd2,cnd2,cnd2,cnd2,rcnd,rcnd,rcnd,rcnd,rcnd]
 simp only[decide_eq_false_iff_not,Int.not_lt,bne_eq_false_iff_eq,gt_iff_lt]
 have l:((bif decide (m.A2≤1152921504606846976) then(bif m.A6 then !m.A9 else true) else false)=true)↔m.A2≤1152921504606846976∧ ¬(m.A6=true∧m.A9=true):=by
   by_cases hc:m.A2≤1152921504606846976
   · rw[decide_eq_true hc]
     cases m.A6<;>cases m.A9<;>simp [hc]
   · rw[decide_eq_false hc];simp [hc]
 rw[l]
 constructor
 · rintro⟨a1,a2,a3,a4,a5,a6,a7⟩
   exact⟨by omega,⟨a2,a3,a4,a5,a6⟩,a7⟩
 · rintro⟨a1,⟨a2,a3,a4,a5,a6⟩,a7⟩
   exact⟨by omega,a2,a3,a4,a5,a6,a7⟩
theorem Z5d{m:Q00}(h:okV m):Q1e m=Q7e m:=by
 rw[Bool.eq_iff_iff,Qn6,rmay_iff,dev_eq]
 obtain⟨e,c⟩:=Qmu m.Mem h.mem
 simp only[Bool.and_eq_true,←e]
 rcases c with c|⟨P,hP,hm⟩
 · constructor
   · rintro⟨a,_⟩;exact absurd c a
   · rintro⟨a,_⟩;omega
 · rw[Q40 hm,Z0q,Z7d,Z8m,Zem h.bal.2 hm.p2]
   constructor
   · rintro⟨a1,a2,a3,a4,a5,a6,a7,a8,a9⟩;exact⟨by omega,a2,a5,a6,a7,a8,a9,a3,a4⟩
   · rintro⟨a1,a2,a5,a6,a7,a8,a9,a3,a4⟩;exact⟨by omega,a2,a3,a4,a5,a6,a7,a8,a9⟩
def Z6b(a b c d e:Bool):Int:=ior .u32 (ior .u32 (ior .u32 (ior .u32 (Q9w a 0) (Q9w b 1)) (Q9w c 2)) (Q9w d 3)) (Q9w e 4)
theorem mlines(m:Q00):Qcx m=Z6b (Qg5 m.B0) (Q9a m.A3) (Q99 m.B1) (Qld m.C5) (Q7l m.A1):=by
 unfold Qcx Q3t
 simp only[Tree.m,letv]
 generalize Qg5 m.B0=a
 generalize Q9a m.A3=b
 generalize Q99 m.B1=c
 generalize Qld m.C5=d
 generalize Q7l m.A1=e
 cases a<;>cases b<;>cases c<;>cases d<;>cases e<;>kernel_rfl
theorem Zjq(a b c d e:Bool):0≤Z6b a b c d e∧Z6b a b c d e<32:=by
 cases a<;>cases b<;>cases c<;>cases d<;>cases e<;>decide
theorem rlines(m:Q00):Qgd m=Z6b (Qao m.B0) (Q5w m.A3) (Qbj m.B1) (Qd2 m.C5) (Q47 m.A1):=rfl
section
variable {m:Q00} (h:okV m)
include h
theorem Zif:Qcx m=Qgd m:=by
 rw[mlines,rlines,con_same,Z8s h.bal];rfl
theorem Quz:Q63 m=Q3a m:=by
 have e:=Zif h
 simp only[Q63,Q1x,Q3a,Q9,Tree.m,letv,e]
theorem Zaj:Q6r m=Qcj m:=by
 have e:=Quz h
 simp only[Q6r,Q2z,Qcj,Qdm,Tree.m,letv,e]
theorem Qr5:Q2x m=!Q13 m:=by
 have e1:=Z5d h
 have e2:=Zaj h
 have e3:decide (m.A2≥1152921504606846976)=!decide (m.A2<1152921504606846976):=ge_not
 simp only[Q2x,Q3i,Q13,Qei,Tree.m,letv,e1,e2,e3]
 cases Q7e m<;>cases m.A9<;>cases Qcj m<;>cases decide (m.A2<1152921504606846976)<;>rfl
theorem Z4c:0≤Q3a m∧Q3a m<32:=by
 have e:Q3a m=iand .u32 (Qgd m) m.B3.B6.a7:=rfl
 have l:=Zjq (Qao m.B0) (Q5w m.A3) (Qbj m.B1) (Qd2 m.C5) (Q47 m.A1)
 rw[←rlines]at l
 rw[e,Zdx ⟨l.1,by omega⟩ h.cpu.a7]
 have:=Nat.and_le_left (n:=(Qgd m).toNat) (m:=m.B3.B6.a7.toNat)
 omega
def low(l:Int):Int:=if l%2=1 then 0 else if l/2%2=1 then 1 else if l/4%2=1 then 2 else if l/8%2=1 then 3 else 4
end
theorem cases32{l:Int}(h0:0≤l)(h1:l<32):l=0∨l=1∨l=2∨l=3∨l=4∨l=5∨l=6∨l=7∨l=8∨l=9∨l=10∨l=11∨l=12∨l=13∨l=14∨l=15∨l=16∨l=17∨l=18∨l=19∨l=20∨l=21∨l=22∨l=23∨l=24∨l=25∨l=26∨l=27∨l=28∨l=29∨l=30∨l=31:=by omega
def intr(m:Q00)(l:Int):Q03:=bif iand .u32 m.B3.B6.a0 2==0 then m.B3 else bif l==0 then m.B3 else Q33 m.B3 (IntKind.wrap .i64 (16+low l)) 0
theorem rintr{m:Q00}(h:okV m):Q0k m=intr m (Q3a m):=by
 obtain⟨l0,l1⟩:=Z4c h
 unfold Q0k Q4s
 simp only[Tree.m,letv]
 revert l0 l1
 generalize Q3a m=l
 intro l0 l1
 unfold intr
 cases iand .u32 m.B3.B6.a0 2==0
 · rcases cases32 l0 l1 with rfl|rfl|rfl|rfl|rfl|rfl|rfl|rfl|rfl|rfl|rfl|rfl|rfl|rfl|rfl|rfl|rfl|rfl|rfl|rfl|rfl|rfl|rfl|rfl|rfl|rfl|rfl|rfl|rfl|rfl|rfl|rfl<;>kernel_rfl
 · rfl
def beg(m:Q00)(c:Q03):Q00:={B3:=c,Mem:=m.Mem,A3:=m.A3,B0:=m.B0,B1:=m.B1,C5:=m.C5,A1:=m.A1,A2:=m.A2,A6:=false,A9:=m.A9}
theorem Z2z{m:Q00}(h:okV m)(hst:m.B3.B6.a0≤31):Q0t m=beg m (Q0k m):=by
 obtain⟨l0,l1⟩:=Z4c h
 have tr: ∀k b,Q4w m.B3 k b=Q33 m.B3 k b:=Qml h.cpu.a0.1 hst
 have e:Q63 (beg m m.B3)=Q3a m:=Quz (m:=beg m m.B3) ⟨h.cpu,h.mem,h.disk,h.nic,h.bal,h.cnt⟩
 rw[rintr h]
 unfold Q0t Q2h
 simp only[Tree.m,letv]
 rw[show Q63 {B3:=m.B3,Mem:=m.Mem,A3:=m.A3,B0:=m.B0,B1:=m.B1,C5:=m.C5,A1:=m.A1,A2:=m.A2,A6:=false,A9:=m.A9}=Q3a m from e]
 revert l0 l1
 generalize Q3a m=l
 intro l0 l1
 unfold intr
 simp only[←tr]
 cases iand .u32 m.B3.B6.a0 2==0
 · rcases cases32 l0 l1 with rfl|rfl|rfl|rfl|rfl|rfl|rfl|rfl|rfl|rfl|rfl|rfl|rfl|rfl|rfl|rfl|rfl|rfl|rfl|rfl|rfl|rfl|rfl|rfl|rfl|rfl|rfl|rfl|rfl|rfl|rfl|rfl<;>(show _=_;kernel_rfl)
 · rfl
end Go.Proofs.YtpcbkbalabgnlaaGreat
namespace Go.Proofs.YtpcbkbalabgnlaaGreat
open Go Go.GD
set_option maxRecDepth 100000
theorem ports{p:Int}:p=0∨p=1∨p=2∨p=3∨p=4∨p=5∨p=6∨p=7∨p=8∨p=9∨p=10∨p=11∨p<0∨12≤p:=by omega
theorem in_same{m:Q00}(hb:okB m.A1)(port clock:Int):Q1g m port clock=((Qd8 m port clock).2,(Qd8 m port clock).1):=by
 have e1:=Zht m.A3
 have e2: ∀p,Qu0 m.B1 p=Qgs m.B1 p:=λ_=>rfl
 have e3:=Zkb m.C5
 have e4:=Zjc hb
 have e5:Qwz m.B0=Qel m.B0:=rfl
 simp only[Q1g,Q2b,Qd8,Qk4,Tree.m,letv,e1,e2,e3,e4,e5]
 rcases ports (p:=port) with rfl|rfl|rfl|rfl|rfl|rfl|rfl|rfl|rfl|rfl|rfl|rfl|h|h
 all_goals first|rfl|skip
 · have n: ∀k:Int,0≤k→(port==k)=false:=λk hk=>beq_eq_false_iff_ne.2 (by omega)
   have c:Q5l m.A3 port=(m.A3,0):=by
     simp only[Q5l,Q3w,Tree.m,n 0 (by decide),n 1 (by decide),cond_false]
   simp only[n 0 (by decide),n 1 (by decide),n 2 (by decide),n 3 (by decide),n 4 (by decide),n 5 (by decide),n 6 (by decide),n 7 (by decide),n 8 (by decide),n 9 (by decide),n 10 (by decide),n 11 (by decide),cond_false,decide_eq_true (show port≤1 by omega),cond_true,c]
 · have n: ∀k:Int,k<12→(port==k)=false:=λk hk=>beq_eq_false_iff_ne.2 (by omega)
   have c:Q5k m.A1 port=0:=by
     simp only[Q5k,Q6a,Tree.m,n 10 (by decide),n 11 (by decide),cond_false]
   simp only[n 0 (by decide),n 1 (by decide),n 2 (by decide),n 3 (by decide),n 4 (by decide),n 5 (by decide),n 6 (by decide),n 7 (by decide),n 8 (by decide),n 9 (by decide),n 10 (by decide),n 11 (by decide),cond_false,decide_eq_false (show¬port≤1 by omega),decide_eq_false (show¬port≤6 by omega),decide_eq_false (show¬port≤9 by omega),c]
theorem out_same{P:Nat}{m:Q00}(hm:Q10 P m.Mem)(hb:okB m.A1)(port:Int){v:Int}(hv:U v):Q2m m port v m.A2=((Qac m port v).2,(Qac m port v).1):=by
 have e1:=Zb5 hm m.B1
 have e2:=Zdg hm m.C5
 have e3:=Zez hm hb port hv
 have e4:=arm_same m.B0 v
 simp only[Q2m,Q22,Qac,Qe3,Tree.m,letv,e1,e2,e3,e4]
 rcases ports (p:=port) with rfl|rfl|rfl|rfl|rfl|rfl|rfl|rfl|rfl|rfl|rfl|rfl|h|h
 all_goals first|rfl|skip
 · have n: ∀k:Int,0≤k→(port==k)=false:=λk hk=>beq_eq_false_iff_ne.2 (by omega)
   simp only[n 0 (by decide),n 1 (by decide),n 2 (by decide),n 3 (by decide),n 4 (by decide),n 5 (by decide),n 6 (by decide),n 7 (by decide),n 8 (by decide),n 9 (by decide),n 10 (by decide),n 11 (by decide),cond_false,decide_eq_true (show port≤2 by omega),cond_true]
 · have n: ∀k:Int,k<12→(port==k)=false:=λk hk=>beq_eq_false_iff_ne.2 (by omega)
   have c:Q6t m.A1 m.Mem port v=(m.A1,m.Mem):=by
     simp only[Q6t,Q5,Tree.m,n 10 (by decide),n 11 (by decide),cond_false]
   simp only[n 0 (by decide),n 1 (by decide),n 2 (by decide),n 3 (by decide),n 4 (by decide),n 5 (by decide),n 6 (by decide),n 7 (by decide),n 8 (by decide),n 9 (by decide),n 10 (by decide),n 11 (by decide),cond_false,decide_eq_false (show¬port≤2 by omega),decide_eq_false (show¬port≤6 by omega),decide_eq_false (show¬port≤9 by omega),c]
def tick(n:Q00)(c:Q03)(w h:Bool):Q00:={B3:=c,Mem:=n.Mem,A3:=n.A3,B0:=n.B0,B1:=n.B1,C5:=n.C5,A1:=n.A1,A2:=IntKind.wrap .u64 (n.A2+1),A6:=w,A9:=h}
def withX(m:Q00)(c:Q03)(mem:List Int):Q00:={B3:=c,Mem:=mem,A3:=m.A3,B0:=m.B0,B1:=m.B1,C5:=m.C5,A1:=m.A1,A2:=m.A2,A6:=false,A9:=m.A9}
def finP(n:Q00)(e:Q11)(clock at0:Int):Q00×List Q07:=
 bif e.B5==1 then
   (bif e.D9 !=0 then(tick (Q1g n e.D0 clock).1 {X:=A16.of 0 (List.set (A16.l (Q1g n e.D0 clock).1.B3.X) e.D9.toNat (Q1g n e.D0 clock).2),Pc:=(Q1g n e.D0 clock).1.B3.Pc,B6:=(Q1g n e.D0 clock).1.B3.B6} (Q1g n e.D0 clock).1.A6 (Q1g n e.D0 clock).1.A9,[])
   else(tick (Q1g n e.D0 clock).1 (Q1g n e.D0 clock).1.B3 (Q1g n e.D0 clock).1.A6 (Q1g n e.D0 clock).1.A9,[]))
 else bif e.B5==2 then(tick (Q2m n e.D0 e.Value at0).1 (Q2m n e.D0 e.Value at0).1.B3 (Q2m n e.D0 e.Value at0).1.A6 (Q2m n e.D0 e.Value at0).1.A9,(Q2m n e.D0 e.Value at0).2)
 else bif e.B5==3 then(tick n n.B3 true n.A9,[]) else bif e.B5==4 then(tick n n.B3 n.A6 true,[]) else(tick n n.B3 n.A6 n.A9,[])
def finR(n:Q00)(e:Q11)(clock:Int):List Q07×Q00:=
 bif e.B5==1 then([],tick (Qd8 n e.D0 clock).2 (Q1r (Qd8 n e.D0 clock).2.B3 e.D9 (Qd8 n e.D0 clock).1) (Qd8 n e.D0 clock).2.A6 (Qd8 n e.D0 clock).2.A9)
 else bif e.B5==2 then((Qac n e.D0 e.Value).1,tick (Qac n e.D0 e.Value).2 (Qac n e.D0 e.Value).2.B3 (Qac n e.D0 e.Value).2.A6 (Qac n e.D0 e.Value).2.A9)
 else bif e.B5==3 then([],tick n n.B3 true n.A9) else bif e.B5==4 then([],tick n n.B3 n.A6 true) else([],tick n n.B3 n.A6 n.A9)
theorem adv_eq(m:Q00)(clock:Int):Q0o m clock=finR (withX m (Q8e (Q0k m) m.Mem).1 (Q8e (Q0k m) m.Mem).2.2) (Q8e (Q0k m) m.Mem).2.1 clock:=by kernel_rfl
theorem Zgs(m:Q00)(clock:Int):Q3b m clock=bif !Q2x m then(m,[]) else finP {B3:=(Q84 (Q0t m).B3 (Q0t m).Mem).1,Mem:=(Q84 (Q0t m).B3 (Q0t m).Mem).2.1,A3:=(Q0t m).A3,B0:=(Q0t m).B0,B1:=(Q0t m).B1,C5:=(Q0t m).C5,A1:=(Q0t m).A1,A2:=(Q0t m).A2,A6:=(Q0t m).A6,A9:=(Q0t m).A9} (Q84 (Q0t m).B3 (Q0t m).Mem).2.2 clock m.A2:=by kernel_rfl
theorem copy_eq(m:List Int):Qs3 m=m:=by
 simp [Qs3,Qe2,Tree.m]
theorem Z9t(m:Q00):Qnk m=m:=by
 simp only[Qnk,Qgj,Tree.m,letv,copy_eq]
def Z8z(m:Q00)(clock:Int):Q00×List Q07:=bif Q13 m then(m,[]) else((Q0o m clock).2,(Q0o m clock).1)
theorem Z69(m:Q00)(clock:Int):Z8z m clock=bif Q13 m then(m,[]) else((Q0o m clock).2,(Q0o m clock).1):=rfl
theorem fin_same{P:Nat}{n:Q00}(hm:Q10 P n.Mem)(hb:okB n.A1){e:Q11}(hr:0≤e.D9∧e.D9<16)(hv:U e.Value)(clock:Int):finP n e clock n.A2=((finR n e clock).2,(finR n e clock).1):=by
 unfold finP finR
 rw[in_same hb e.D0 clock,out_same hm hb e.D0 hv]
 cases e.B5==1
 · cases e.B5==2
   · cases e.B5==3
     · cases e.B5==4<;>rfl
     · rfl
   · rfl
 · generalize Qd8 n e.D0 clock=r
   have s:=Qwx r.2.B3 hr r.1
   show(bif e.D9 !=0 then _ else _)=(tick r.2 (Q1r r.2.B3 e.D9 r.1) r.2.A6 r.2.A9,[])
   rw[←s]
   simp only[Qb0,Q8n,Tree.m]
   cases e.D9 !=0<;>rfl
theorem Zce{m:Q00}(h:okV m)(clock:Int):Q3b m clock=Z8z m clock:=by
 rw[Zgs,Z69,Qr5 h]
 cases hs:Q13 m
 · have hr:Q2x m=true:=by rw[Qr5 h,hs];rfl
   obtain⟨hm,hh,hct⟩:=Qx hr
   obtain⟨g1,g2,g3,g4,g5⟩:=(Qn6 m).1 hm
   rcases(Qmu m.Mem h.mem).2 with c|⟨P,hP,hmem⟩
   · exact absurd c g1
   have okm:okS P m:=⟨h.cpu,hmem,h.disk,h.nic,h.bal.1,h.bal.2⟩
   obtain⟨b1,b2,b3,_⟩:=(Tree.pp (Qz0 okm g2)).2
   change Q7c (Q0t m).B3 at b1
   change okS P (Q0t m) at b2
   change(Q0t m).Mem=m.Mem at b3
   have be:=Z2z h g2.st
   have b1':Q7c (Q0k m):=by have:=b1;rw[be]at this;exact this
   have b2':Q2s (Q0k m):=by have:=b2.cpu;rw[be]at this;exact this
   have ex:=Zc1 hmem b2' b1'.st
   have er:=(Tree.pp (Zg5 b2' hmem)).2
   change 0≤(Q84 (Q0k m) m.Mem).2.2.D9∧(Q84 (Q0k m) m.Mem).2.2.D9<16 at er
   obtain⟨d1,d2,d3⟩:=(Tree.pp (do_w b2' hmem)).2
   change U (Q8e (Q0k m) m.Mem).2.1.Value at d2
   change Q10 P (Q8e (Q0k m) m.Mem).2.2 at d3
   rw[ex]at er
   rw[adv_eq,be]
   show finP {B3:=(Q84 (Q0k m) m.Mem).1,Mem:=(Q84 (Q0k m) m.Mem).2.1,A3:=m.A3,B0:=m.B0,B1:=m.B1,C5:=m.C5,A1:=m.A1,A2:=m.A2,A6:=false,A9:=m.A9} (Q84 (Q0k m) m.Mem).2.2 clock m.A2=_
   rw[ex]
   exact fin_same (n:=withX m (Q8e (Q0k m) m.Mem).1 (Q8e (Q0k m) m.Mem).2.2) d3 h.bal er d2 clock
 · rfl
end Go.Proofs.YtpcbkbalabgnlaaGreat
namespace Go.Proofs.YtpcbkbalabgnlaaGreat
open Go Go.GD
set_option maxRecDepth 100000
theorem Z39{m:Q00}(h:okV m)(e:Q09):Q88 m e=Qke m e:=by
 have hcl:Q02 m.Mem=m.Mem:=rfl
 have mm:=Z5d h
 have t1:Qk8 m.B0=Qkc m.B0:=rfl
 have t2: ∀b,Qmj m.A3 b=Qk2 m.A3 b:=λ_=>rfl
 simp only[Q88,Q32,Qke,Qin,Q0w,Q6n,Tree.m,letv,Z9t,hcl,t1,t2]
 rw[show Q1e {B3:=m.B3,Mem:=m.Mem,A3:=m.A3,B0:=m.B0,B1:=m.B1,C5:=m.C5,A1:=m.A1,A2:=m.A2,A6:=m.A6,A9:=m.A9}=Q7e m from mm]
 cases hM:Q7e m
 · rfl
 have hM':Q1e m=true:=mm.trans hM
 rcases(Qmu m.Mem h.mem).2 with c|⟨P,hP,hmem⟩
 · exact absurd c ((Qn6 m).1 hM').1
 have cs:=Z7q hmem h.disk e
 have rs:=Z9n hmem h.nic e.C6
 clear mm hM hM' hcl h
 obtain⟨c,mem,con,ti,d,n,b,ct,w,hl⟩:=m
 cases hl
 · by_cases k2:e.B5=2
   · rw[k2];cases e.N==0<;>cases decide (e.C6=[])<;>rfl
   by_cases k3:e.B5=3
   · rw[k3];cases decide (e.N≤255)<;>cases decide (e.C6=[])<;>rfl
   by_cases k4:e.B5=4
   · rw[k4,cs];rfl
   by_cases k5:e.B5=5
   · rw[k5,rs];cases e.N==0<;>rfl
   by_cases k6:e.B5=6
   · rw[k6];cases decide (e.C6=[])<;>rfl
   · rw[show(e.B5==2)=false by simpa using k2,show(e.B5==3)=false by simpa using k3,show(e.B5==4)=false by simpa using k4,show(e.B5==5)=false by simpa using k5,show(e.B5==6)=false by simpa using k6]
     rfl
 · rfl
end Go.Proofs.YtpcbkbalabgnlaaGreat
namespace Go.Proofs.YtpcbkbalabgnlaaGreat
open Go Go.GD
attribute [local irreducible] Q1v
set_option maxRecDepth 100000
theorem few_two{l acts:List Int}{x0:Bool}(hx0:x0=Qqg l acts)(hb:(!x0)=false):l.length≤40∧acts.length≤30:=by
 have hb:x0=true:=by simpa using hb
 rw[hb]at hx0
 simp only[Qqg,Qsf,Tree.m]at hx0
 cases h1:decide ((l.length:Int)≤40)<;>rw[h1]at hx0
 · cases hx0
 · have:=of_decide_eq_true hx0.symm
   have:=of_decide_eq_true h1
   omega
section
variable {m:Q00} (h:okV m) (hl:m.Mem.length≤1024)
include h
theorem may_P(hm:Q1e m=true): ∃P,okS P m∧okM P m:=by
 rcases(Qmu m.Mem h.mem).2 with c|⟨P,hP,hmem⟩
 · exact absurd c ((Qn6 m).1 hm).1
 · exact⟨P,⟨h.cpu,hmem,h.disk,h.nic,h.bal.1,h.bal.2⟩,⟨h.cpu,hmem,h.disk,h.nic,h.bal,h.cnt⟩⟩
include hl
theorem stepV_pre{clock:Int}(hk:U clock):Q35 m clock∧(Q3b m clock).2.length≤1∧(Q3b m clock).1.Mem.length≤1024:=by
 cases hr:Q2x m
 · have e:Q3b m clock=(m,[]):=by rw[Zgs,hr];rfl
   rw[e]
   refine⟨?_,Nat.zero_le _,hl⟩
   have hcl:Q02 m.Mem=m.Mem:=rfl
   show(Q31 m clock).p
   unfold Tree.p Q31
   refine w_an (by show m.Mem.length≤35184372088832;omega) (w_lv λl hl=> ?_)
   rw[hcl]at hl;subst hl
   refine w_an (Tree.pp (Zev (m:=⟨_,_,_,_,_,_,m.A1,_,_,_⟩) h.bal.2)).1 (w_lv λx1 hx1=>w_br (λ_=>trivial) (λhb=> ?_))
   have:x1=false:=hx1.trans hr
   rw[this]at hb;cases hb
 · obtain⟨P,s,_⟩:=may_P h (Qx hr).1
   have g:=Tree.pp (step_w0 s h.cnt hk)
   have ml:=g.2.2.ok.mem.len
   have mp:=g.2.2.ok.mem.p2
   exact⟨g.1,g.2.1,by show(Q31 m clock).m.1.Mem.length≤1024;omega⟩
omit h hl in
theorem mapply_w{P:Nat}(h:okM P m){e:Q09}(he:U e.N):(Q6n m e).w (λx=>okM P x.2):=by
 have k:=h
 obtain⟨h1,h2,h3,h4,h5,h7⟩:=h
 unfold Q6n
 repeat'(first
   |exact k
   |exact⟨h1,h2,h3,h4,⟨he,h5.2⟩,h7⟩
   |exact w_lv λ_ _=>⟨h1,h2,h3,h4,h5,h7⟩
   |exact Q0e (type_w _ _) λ_ _=>⟨h1,h2,h3,h4,h5,h7⟩
   |exact Q0e (finish_w h2 h3 _) λx hx=>⟨h1,hx.2,hx.1,h4,h5,h7⟩
   |exact Q0e (accept_w h2 h4 _) λx hx=>⟨h1,hx.2,h3,hx.1,h5,h7⟩
   |refine w_br (λ_=> ?_) (λ_=> ?_))
theorem Zi0{e:Q09}(he:U e.N):Qai m e:=by
 cases hm:Q1e m
 · have hcl:Q02 m.Mem=m.Mem:=rfl
   show(Q32 m e).p
   unfold Tree.p Q32
   refine w_an (by show m.Mem.length≤35184372088832;omega) (w_lv λl hl=> ?_)
   rw[hcl]at hl;subst hl
   refine w_an (Tree.pp (Zhd (m:=⟨_,_,_,_,_,_,m.A1,_,_,_⟩) h.bal.2)).1 (w_lv λx1 hx1=>w_br (λ_=>trivial) (λhb=> ?_))
   have:x1=false:=hx1.trans hm
   rw[this]at hb;cases hb
 · obtain⟨P,s,o⟩:=may_P h hm
   exact(Tree.pp (Zhj o he)).1
end
end Go.Proofs.YtpcbkbalabgnlaaGreat
namespace Go.Proofs.YtpcbkbalabgnlaaGreat
open Go Go.GD
attribute [local irreducible] Q1v
set_option maxRecDepth 100000
def Tree.V{β:Type}(t:Tree β)(W:β→Prop):Prop:=W t.m
section
variable {α β:Type} {W:β→Prop} {c:Bool} {t e:Tree β}
theorem v_lf{x:β}(h:W x):Tree.V (.lf x) W:=h
theorem v_nx{f:Prop}{x:β}{hf:f}(h:W x):Tree.V (.nx f x hf) W:=h
theorem v_br(h:c=true→Tree.V t W)(g:c=false→Tree.V e W):Tree.V (.br c t e) W:=by
 cases c
 · exact g rfl
 · exact h rfl
theorem v_cn(g:Tree.V t W):Tree.V (.cn c t) W:=g
theorem v_an{p:Prop}(g:Tree.V t W):Tree.V (.an p t) W:=g
theorem v_lv{x:α}{k:α→Tree β}(h: ∀y,y=x→Tree.V (k y) W):Tree.V (.lv x k) W:=h x rfl
theorem v_lp{d:Inhabited β}{n:Nat}{f:Prop}{x:α}{k:α→Tree (α⊕β)}{hf:f}{inv:α→Prop}{μ:α→Nat}(h:inv x)(hn:μ x<n)(g: ∀y,inv y→Tree.V (k y) (Sum.elim (λz=>inv z∧μ z<μ y) W)):Tree.V (.lp d n f x k hf) W:=by
 refine run_ind (P:=inv) (R:=W) (μ:=μ) (λa ha=> ?_) n x h hn
 have:=g a ha
 unfold Tree.V at this
 revert this
 cases(k a).m with
 |inl z=>exact λh=>h
 |inr b=>exact λh=>h
end
def Z12(r:Q01)(m:Q00):Q01:={A0:=m,A7:=r.A7,C4:=r.C4,A4:=r.A4}
theorem inR_eq(r:Q01)(port clock:Int):Z07 r port clock=((Qd8 r.A0 port clock).1,Z12 r (Qd8 r.A0 port clock).2):=by
 simp only[Z07,Z09,Qd8,Qk4,Tree.m,letv]
 cases decide (port≤1)<;>cases port==2<;>cases port==3<;>cases decide (port≤6)<;>cases decide (port≤9)<;>rfl
theorem outR_eq(r:Q01)(port v:Int):Qtv r port v=((Qac r.A0 port v).1,Z12 r (Qac r.A0 port v).2):=by
 simp only[Qtv,Qmt,Qac,Qe3,Tree.m,letv]
 cases port==0<;>cases decide (port≤2)<;>cases port==3<;>cases decide (port≤6)<;>cases decide (port≤9)<;>rfl
theorem cond_R{r:Q01}{c:Bool}{x y:Bool×Q01}{x' y':Bool×Q00}(hx:x=(x'.1,Z12 r x'.2))(hy:y=(y'.1,Z12 r y'.2)):cond c x y=((cond c x' y').1,Z12 r (cond c x' y').2):=by cases c<;>assumption
theorem applyR_eq(r:Q01)(e:Q09):Qma r e=((Q0w r.A0 e).1,Z12 r (Q0w r.A0 e).2):=by
 simp only[Qma,Qj1,Q0w,Q6n,Tree.m,letv]
 repeat'(first|rfl|refine cond_R ?_ ?_)
theorem Z6d(r:Q01)(clock:Int):Q8r r clock=((Q0o r.A0 clock).1,Z12 r (Q0o r.A0 clock).2):=by
 simp only[Q8r,Qfm,Q0o,Q8w,Tree.m,letv,inR_eq,outR_eq,Z12]
 cases(Q8e (Q0k r.A0) r.A0.Mem).2.1.B5==1<;>cases(Q8e (Q0k r.A0) r.A0.Mem).2.1.B5==2<;>cases(Q8e (Q0k r.A0) r.A0.Mem).2.1.B5==3<;>cases(Q8e (Q0k r.A0) r.A0.Mem).2.1.B5==4<;>rfl
def Q2p(r:Q01)(e:Q09):Q01:=
 bif(Q0w r.A0 e).1 then{A0:=(Q0w r.A0 e).2,A7:=r.A7,C4:=r.C4++[{At:=(Q0w r.A0 e).2.A2,D3:=e}],A4:=r.A4} else Z12 r (Q0w r.A0 e).2
theorem Zh9(r:Q01)(e:Q09):Ql2 r e=Q2p r e:=by
 have a:Ql1 r e=((Q0w r.A0 e).1,Z12 r (Q0w r.A0 e).2):=by
   simp only[Ql1,Qi4,Tree.m,letv,applyR_eq]
 simp only[Ql2,Qkn,Tree.m,letv,a,Q2p]
 cases(Q0w r.A0 e).1<;>rfl
def Q2f(r:Q01):Q01:=bif Qd3 r.A0.B0 r.A7 then Q2p r {B5:=2,N:=0,C6:=[]} else r
def Z7a(r:Q01):Q01:=bif Q3n r.A0 then{A0:=r.A0,A7:=r.A7,C4:=r.C4++[{At:=r.A0.A2,D3:={B5:=1,N:=r.A7,C6:=[]}}],A4:=r.A4} else r
def Qmh(r:Q01):Q01:={A0:=(Q0o r.A0 r.A7).2,A7:=IntKind.wrap .u32 (r.A7+1),C4:=(Z7a r).C4,A4:=r.A4}
def recF:Nat→Q01→List Q07→Q01×List Q07
 |0,r,o=>(r,o)
 |n+1,r,o=>bif Q13 (Q2f r).A0 then(Q2f r,o) else recF n (Qmh (Q2f r)) (o++(Q0o (Q2f r).A0 (Q2f r).A7).1)
def noQ(r:Q01):Q01:={A0:=r.A0,A7:=r.A7,C4:=r.C4,A4:=[]}
def advF(r:Q01)(steps clock:Int):Q01×List Q07:=
 bif !Q7e r.A0 then(r,[]) else recF (Q0l steps).toNat (noQ (r.A4.foldl Q2p {A0:=r.A0,A7:=if clock>r.A7 then clock else r.A7,C4:=r.C4,A4:=r.A4})) []
theorem Qio(r:Q01)(e:Q09):(Q2p r e).A4=r.A4:=by
 unfold Q2p;cases(Q0w r.A0 e).1<;>rfl
theorem Zhk(r:Q01):Qqt r=r:=by
 simp only[Qqt,Qpi,Tree.m,letv,Z9t]
theorem Z6n(r:Q01)(steps clock:Int)(hq:r.A4.length≤1000000):Qfv r steps clock=advF r steps clock:=by
  show Tree.V (Qcz r steps clock) (λx=>x=advF r steps clock)
  obtain⟨lim0,lim⟩:=Qnb steps
  unfold Qcz
  refine v_an (v_lv λx0 e0=>v_lv λx1 e1=> ?_)
  rw[Zhk]at e0
  subst e0
  refine v_br (λhb=>v_lf ?_) λhb=> ?_
  · unfold advF;rw[←e1,hb];rfl
  generalize hr0:({A0:=x0.A0,A7:=if clock>x0.A7 then clock else x0.A7,C4:=x0.C4,A4:=x0.A4}:Q01)=r0
  have hA:advF x0 steps clock=recF (Q0l steps).toNat (noQ (x0.A4.foldl Q2p r0)) []:=by
    unfold advF;rw[←e1,hb,hr0];rfl
  have hQ:r0.A4=x0.A4:=by rw[←hr0]
  refine v_lp (inv:=λz:Int×Q01=>0≤z.1∧z.1≤x0.A4.length∧z.2.A4=x0.A4∧(x0.A4.drop z.1.toNat).foldl Q2p z.2=x0.A4.foldl Q2p r0) (μ:=Qhd x0 steps clock) ⟨Int.le_refl 0,by show(0:Int)≤_;omega,hQ,rfl⟩ (Nat.lt_succ_self _) λz ⟨z0,z1,z2,z3⟩=> ?_
  refine v_br (λhb=> ?_) (λhb=> ?_)
  · have hb:=of_decide_eq_true hb
    rw[z2]at hb
    refine v_cn (v_an (v_lv λx2 e2=>v_nx ?_))
    have ew:IntKind.i64.wrap (z.1+1)=z.1+1:=by rw[IntKind.wrap_i64];omega
    rw[Zh9]at e2
    have q2:x2.A4=x0.A4:=by rw[e2,Qio,z2]
    have hlt:z.1.toNat<x0.A4.length:=by omega
    have ed:z.2.A4.getD z.1.toNat (RK.dflt RK.apiEvent)=x0.A4[z.1.toNat]:=by rw[z2,List.getD_eq_getElem?_getD,List.getElem?_eq_getElem hlt];rfl
    show(0≤IntKind.i64.wrap (z.1+1)∧IntKind.i64.wrap (z.1+1)≤x0.A4.length∧x2.A4=x0.A4∧(x0.A4.drop (IntKind.i64.wrap (z.1+1)).toNat).foldl Q2p x2=_)∧(x2.A4.length-IntKind.i64.wrap (z.1+1)).toNat<(z.2.A4.length-z.1).toNat
    rw[ew,q2,z2]
    refine⟨⟨by omega,by omega,rfl,?_⟩,by omega⟩
    rw[←z3,List.drop_eq_getElem_cons hlt,List.foldl_cons,show(z.1+1).toNat=z.1.toNat+1 by omega,e2,ed]
  · have hb:=of_decide_eq_false hb
    rw[z2]at hb
    obtain⟨zi,zr⟩:=z
    have hb: ¬zi<x0.A4.length:=hb
    have ze:zr=x0.A4.foldl Q2p r0:=by
      rw[←z3,List.drop_eq_nil_of_le (by show x0.A4.length≤zi.toNat;omega)];rfl
    rw[←ze]at hA
    refine v_lp (inv:=λy:Int×Q01×List Q07=>0≤y.1∧y.1≤Q0l steps∧recF (Q0l steps-y.1).toNat y.2.1 y.2.2=advF x0 steps clock) (μ:=Q8a x0 steps clock (zi,zr)) ⟨Int.le_refl 0,by show(0:Int)≤_;omega,by rw[hA];show recF (Q0l steps-0).toNat _ _=_;rw[Int.sub_zero];rfl⟩ (Nat.lt_succ_self _) λy ⟨y0,y1,y2⟩=> ?_
    obtain⟨yi,yr,yo⟩:=y
    have mu: ∀q,yi<4000→Q8a x0 steps clock (zi,zr) (IntKind.wrap .i64 (yi+1),q)<Q8a x0 steps clock (zi,zr) (yi,yr,yo):=λq h=>by
      show(4000-IntKind.wrap .i64 (yi+1)).toNat<(4000-yi).toNat
      have y0:0≤yi:=y0
      rw[IntKind.wrap_i64];omega
    have y0:0≤yi:=y0
    refine v_lv λx3 e3=>v_br (λhb=> ?_) (λhb=> ?_)
    · have hb:yi<x3:=of_decide_eq_true hb
      rw[e3]at hb
      have mu:=λq=>mu q (by omega)
      have ew:IntKind.i64.wrap (yi+1)=yi+1:=by rw[IntKind.wrap_i64];omega
      have en:(Q0l steps-yi).toNat=(Q0l steps-(yi+1)).toNat+1:=by omega
      change recF (Q0l steps-yi).toNat yr yo=_ at y2
      rw[en]at y2
      refine v_lv λx4 e4=>v_br (λhd=>v_an (v_lv λx5 e5=> ?_)) (λhd=> ?_)
      · have e5:x5=Q2f yr:=by rw[e5,Zh9];unfold Q2f;rw[←e4,hd];rfl
        refine v_an (v_lv λx6 e6=>v_br (λhs=>v_lf ?_) λhs=>v_an (v_lv λx7 e7=>v_br (λhr=>v_cn (v_an (v_lv λx8 e8=>v_cn (v_nx ?_)))) λhr=>v_an (v_lv λx9 e9=>v_cn (v_nx ?_))))
        · show(_,yo)=_
          rw[←y2];unfold recF
          rw[←e5,←e6,hs];rfl
        · rw[Z6d]at e8
          refine⟨⟨by show 0≤IntKind.wrap .i64 (yi+1);rw[ew];omega,by show IntKind.wrap .i64 (yi+1)≤_;rw[ew];omega,?_⟩,mu _⟩
          show recF (Q0l steps-IntKind.wrap .i64 (yi+1)).toNat _ _=_
          rw[ew,←y2,e8]
          conv=>rhs;unfold recF
          rw[←e5,←e6,hs]
          unfold Qmh Z7a
          rw[←e7,hr];rfl
        · rw[Z6d]at e9
          refine⟨⟨by show 0≤IntKind.wrap .i64 (yi+1);rw[ew];omega,by show IntKind.wrap .i64 (yi+1)≤_;rw[ew];omega,?_⟩,mu _⟩
          show recF (Q0l steps-IntKind.wrap .i64 (yi+1)).toNat _ _=_
          rw[ew,←y2,e9]
          conv=>rhs;unfold recF
          rw[←e5,←e6,hs]
          unfold Qmh Z7a
          rw[←e7,hr];rfl
      · have e5:yr=Q2f yr:=by
          have e4:x4=Qd3 yr.A0.B0 yr.A7:=e4
          unfold Q2f;rw[←e4,hd];rfl
        refine v_an (v_lv λx6 e6=>v_br (λhs=>v_lf ?_) λhs=>v_an (v_lv λx7 e7=>v_br (λhr=>v_cn (v_an (v_lv λx8 e8=>v_cn (v_nx ?_)))) λhr=>v_an (v_lv λx9 e9=>v_cn (v_nx ?_))))
        · show(_,yo)=_
          rw[←y2];unfold recF
          rw[←e5,←e6,hs];rfl
        · rw[Z6d]at e8
          refine⟨⟨by show 0≤IntKind.wrap .i64 (yi+1);rw[ew];omega,by show IntKind.wrap .i64 (yi+1)≤_;rw[ew];omega,?_⟩,mu _⟩
          show recF (Q0l steps-IntKind.wrap .i64 (yi+1)).toNat _ _=_
          rw[ew,←y2,e8]
          conv=>rhs;unfold recF
          rw[←e5,←e6,hs]
          unfold Qmh Z7a
          rw[←e7,hr];rfl
        · rw[Z6d]at e9
          refine⟨⟨by show 0≤IntKind.wrap .i64 (yi+1);rw[ew];omega,by show IntKind.wrap .i64 (yi+1)≤_;rw[ew];omega,?_⟩,mu _⟩
          show recF (Q0l steps-IntKind.wrap .i64 (yi+1)).toNat _ _=_
          rw[ew,←y2,e9]
          conv=>rhs;unfold recF
          rw[←e5,←e6,hs]
          unfold Qmh Z7a
          rw[←e7,hr];rfl
    · have hb: ¬yi<x3:=of_decide_eq_false hb
      rw[e3]at hb
      refine v_lf ?_
      show(yr,yo)=_
      change recF (Q0l steps-yi).toNat yr yo=_ at y2
      rw[←y2,show(Q0l steps-yi).toNat=0 by omega];rfl
end Go.Proofs.YtpcbkbalabgnlaaGreat
namespace Go.Proofs.YtpcbkbalabgnlaaGreat
open Go Go.GD
attribute [local irreducible] Q1v
set_option maxRecDepth 100000
structure good(P:Nat)(m:Q00):Prop where
 ok:okM P m
 may:Q1e m=true
section
variable {P:Nat} {m:Q00} (h:good P m)
include h
theorem good.v:okV m:=⟨h.ok.cpu,h.ok.mem.u,h.ok.disk,h.ok.nic,h.ok.target,h.ok.cnt⟩
theorem good.s:okS P m:=⟨h.ok.cpu,h.ok.mem,h.ok.disk,h.ok.nic,h.ok.target.1,h.ok.target.2⟩
theorem good.rmay:Q7e m=true:=(Z5d h.v).symm.trans h.may
theorem Zgj{e:Q09}(he:U e.N):good P (Q0w m e).2∧(Q0w m e).2.A2=m.A2:=by
 have o:okM P (Q0w m e).2:=Tree.post _ (mapply_w h.ok he)
 have a:=(Tree.pp (Zhj h.ok he)).2
 change(Q1e m=true→Q1e (Q88 m e).1=true)∧(Q88 m e).1.A2=m.A2∧_ at a
 have e1:Qke m e=((Q0w m e).2,(Q0w m e).1):=by
   simp only[Qke,Qin,Tree.m,letv,Z9t,h.rmay];rfl
 rw[Z39 h.v e,e1]at a
 exact⟨⟨o,a.1 h.may⟩,a.2.1⟩
theorem Z8v:Q13 m=false↔m.A9=false∧Qcj m=false∧m.A2<1152921504606846976:=by
 simp only[Q13,Qei,Tree.m,letv,h.rmay]
 cases m.A9<;>cases Qcj m<;>simp
theorem Qnr(hs:Q13 m=false){clock:Int}(hc:U clock):good P (Q0o m clock).2∧(Q0o m clock).2.A2=m.A2+1∧(Q0o m clock).1.length≤1:=by
 have o:=Tree.post _ (Z3 h.ok hc)
 change(Q0o m clock).1.length≤1∧okM P (Q0o m clock).2∧(Q0o m clock).2.A2=IntKind.wrap .u64 (m.A2+1) at o
 have s:=(Tree.pp (step_w0 h.s h.ok.cnt hc)).2
 change _∧Good P m (Q3b m clock).1 at s
 have e:Q3b m clock=((Q0o m clock).2,(Q0o m clock).1):=by rw[Zce h.v,Z69,hs];rfl
 rw[e]at s
 have hct:=((Z8v h).1 hs).2.2
 have h0:=h.ok.cnt
 refine⟨⟨o.2.1,s.2.may h.may⟩,?_,o.1⟩
 rw[o.2.2,IntKind.wrap_u64];omega
end
structure Qa1(P:Nat)(k:Int)(r:Q01):Prop where
 m:good P r.A0
 clock:U r.A7
 cnt:r.A0.A2≤k
theorem Ql6{P:Nat}{k:Int}{r:Q01}(h:Qa1 P k r){e:Q09}(he:U e.N):Qa1 P k (Q2p r e)∧(Q2p r e).A0.A2=r.A0.A2:=by
 obtain⟨a,b⟩:=Zgj h.m he
 have hc:=h.cnt
 unfold Q2p
 cases(Q0w r.A0 e).1
 · exact⟨⟨a,h.clock,by show(Q0w r.A0 e).2.A2≤k;omega⟩,b⟩
 · exact⟨⟨a,h.clock,by show(Q0w r.A0 e).2.A2≤k;omega⟩,b⟩
theorem Qo{P:Nat}{k:Int}{r:Q01}(h:Qa1 P k r):Qa1 P k (Q2f r)∧(Q2f r).A0.A2=r.A0.A2:=by
 unfold Q2f
 cases Qd3 r.A0.B0 r.A7
 · exact⟨h,rfl⟩
 · exact Ql6 h U_0
theorem Qnl{P:Nat}{k:Int}{r:Q01}(h:Qa1 P k r)(hs:Q13 r.A0=false):Qa1 P (k+1) (Qmh r):=by
 obtain⟨a,b,_⟩:=Qnr h.m hs h.clock
 have hc:=h.cnt
 exact⟨a,Q0p _,by show(Q0o r.A0 r.A7).2.A2≤k+1;omega⟩
theorem recF_keep{P:Nat}(n:Nat): ∀{k:Int} {r:Q01} {o:List Q07},Qa1 P k r→Qa1 P (k+n) (recF n r o).1:=by
 induction n with
 |zero=>intro k r o h;exact⟨h.m,h.clock,by have:=h.cnt;show r.A0.A2≤k+(0:Nat);omega⟩
 | succ n ih=>
   intro k r o h
   obtain⟨f,fc⟩:=Qo h
   unfold recF
   cases hs:Q13 (Q2f r).A0
   · have t:=ih (o:=o++(Q0o (Q2f r).A0 (Q2f r).A7).1) (Qnl f hs)
     exact⟨t.m,t.clock,by have:=t.cnt;show(recF n _ _).1.A0.A2≤_;omega⟩
   · exact⟨f.m,f.clock,by have:=f.cnt;show(Q2f r).A0.A2≤_;omega⟩
theorem Z45{P:Nat}{k:Int}(l:List Q09): ∀{r:Q01},Qa1 P k r→(∀q∈l,U q.N)→Qa1 P k (l.foldl Q2p r)∧(l.foldl Q2p r).A4=r.A4:=by
 induction l with
 |nil=>intro r h _;exact⟨h,rfl⟩
 | cons e l ih=>
   intro r h hu
   obtain⟨a,b⟩:=ih (Ql6 h (hu e (by simp))).1 (λq hq=>hu q (by simp [hq]))
   exact⟨a,b.trans (Qio r e)⟩
theorem Zjt(n:Nat): ∀(r:Q01) (o:List Q07),(recF n r o).1.A4=r.A4:=by
 induction n with
 |zero=>intro r o;rfl
 | succ n ih=>
   intro r o
   have f:(Q2f r).A4=r.A4:=by
     unfold Q2f;cases Qd3 r.A0.B0 r.A7
     · rfl
     · exact Qio _ _
   unfold recF
   cases Q13 (Q2f r).A0
   · exact(ih _ _).trans f
   · exact f
def okQ(l:List Q09):Prop:=l.length≤16∧ ∀q∈l,U q.N
theorem advF_keep{P:Nat}{k:Int}{r:Q01}(h:Qa1 P k r)(hq:okQ r.A4)(steps:Int){clock:Int}(hc:U clock):Qa1 P (k+4000) (advF r steps clock).1∧okQ (advF r steps clock).1.A4:=by
 obtain⟨l0,l1⟩:=Qnb steps
 unfold advF
 rw[h.m.rmay]
 have hcl:U (if clock>r.A7 then clock else r.A7):=by split<;>first|exact hc|exact h.clock
 obtain⟨a,b⟩:=Z45 r.A4 (r:={A0:=r.A0,A7:=if clock>r.A7 then clock else r.A7,C4:=r.C4,A4:=r.A4}) ⟨h.m,hcl,h.cnt⟩ hq.2
 have c:=recF_keep (Q0l steps).toNat (o:=[]) (r:=noQ (r.A4.foldl Q2p {A0:=r.A0,A7:=if clock>r.A7 then clock else r.A7,C4:=r.C4,A4:=r.A4})) ⟨a.m,a.clock,a.cnt⟩
 refine⟨⟨c.m,c.clock,?_⟩,?_⟩
 · have:=c.cnt
   show(recF _ _ _).1.A0.A2≤_
   omega
 · show okQ (recF _ _ _).1.A4
   rw[Zjt];exact⟨Nat.zero_le _,λq hq=>by cases hq⟩
theorem Zd0(n:Int):U (Q8y n).N:=Tree.post _ (event_w n)
theorem Qht(r:Q01)(e:Q09):Q2w r e=bif !Q37 e then(r,false) else bif e.B5==1 then(r,false) else bif decide ((r.A4.length:Int)≥16) then(r,false) else({A0:=r.A0,A7:=r.A7,C4:=r.C4,A4:=r.A4++[e]},true):=by
 simp only[Q2w,Qj6,Tree.m,letv,Zhk]
theorem Zde{P:Nat}{k:Int}{r:Q01}(h:Qa1 P k r)(hq:okQ r.A4){e:Q09}(he:U e.N):Qa1 P k (Q2w r e).1∧okQ (Q2w r e).1.A4:=by
  rw[Qht]
  cases Q37 e
  · exact⟨h,hq⟩
  · cases e.B5==1
    · cases hl:decide ((r.A4.length:Int)≥16)
      · have hl:=of_decide_eq_false hl
        refine⟨⟨h.m,h.clock,h.cnt⟩,?_,λq hm=> ?_⟩
        · show(r.A4++[e]).length≤16
          rw[List.length_append,List.length_singleton];omega
        · have hm:q∈r.A4++[e]:=hm
          rcases List.mem_append.1 hm with hm|hm
          · exact hq.2 q hm
          · rw[List.mem_singleton.1 hm];exact he
      · exact⟨h,hq⟩
    · exact⟨h,hq⟩
theorem Z79{r:Q01}{n:Int}(h:(Int.tmod (Q4x n 3) 3==0)=true):Q7x r n=((Q2w r (Q8y n)).1,[]):=by
 show Tree.V (Qh6 r n) (λx=>x=((Q2w r (Q8y n)).1,[]))
 unfold Qh6
 refine v_lv λx0 e0=>v_br (λ_=>v_an (v_lv λx1 e1=>v_an (v_lv λx2 e2=>v_lf ?_))) (λhb=> ?_)
 · rw[e2,e1]
 · rw[e0,h]at hb;cases hb
theorem Z57{r:Q01}{n:Int}(h:(Int.tmod (Q4x n 3) 3==0)=false):Q7x r n=Qfv r (Q46 (ishr .i64 (Q4x n 3) 4) 12) (IntKind.wrap .u32 (iand .i64 (ishr .i64 (Q4x n 3) 12) 255)):=by
 show Tree.V (Qh6 r n) (λx=>x=Qfv r (Q46 (ishr .i64 (Q4x n 3) 4) 12) (IntKind.wrap .u32 (iand .i64 (ishr .i64 (Q4x n 3) 12) 255)))
 unfold Qh6
 refine v_lv λx0 e0=>v_br (λhb=> ?_) (λ_=>v_an (v_lv λx1 e1=>v_an (v_lv λx2 e2=>v_lf ?_)))
 · rw[e0,h]at hb;cases hb
 · rw[e2,e1,e0]
def Qpq(s:Q01×List Q07)(n:Int):Q01×List Q07:=((Q7x s.1 n).1,s.2++(Q7x s.1 n).2)
theorem Qyy(s:Q01×List Q07)(n:Int):Qpq s n=((Q7x s.1 n).1,s.2++(Q7x s.1 n).2):=by unfold Qpq;rfl
end Go.Proofs.YtpcbkbalabgnlaaGreat
namespace Go.Proofs.YtpcbkbalabgnlaaGreat
open Go Go.GD
attribute [local irreducible] Q1v
set_option maxRecDepth 100000
theorem Zgv{i:List Int}(hu: ∀w∈i,U w)(hl:i.length≤256):good 8 (Q1q 8 4 i).1∧(Q1q 8 4 i).1.A2=0:=by
 obtain⟨a,b⟩:=(Tree.pp (new_w i hu hl)).2
 change okM 8 (Q1q 8 4 i).1 at a
 refine⟨⟨a,?_⟩,b⟩
 have e:(Q1q 8 4 i).2=true:=by
   have w:IntKind.i64.wrap (8*32)=256:=by decide
   simp only[Q1q,Q7i,Tree.m,w,letv,decide_eq_false (show¬((i.length:Int)>256) by omega)]
   rfl
 obtain⟨a1,a2,a3,a4,a5,a6⟩:=new_ok 8 4 i e
 exact(may_of _ 8 4 a1 a2 a3 a4 a5 _ a6).1
theorem runN_good{m:Q00}(h:good 8 m)(hc:m.A2≤87):Tree.V (Qa0 m [] 87) (λx=>x.2.2.2=0→good 8 x.1∧x.1.A2≤87):=by
 have z: ∀{k:Int} {p:Prop},k≠0→k=0→p:=λa b=>absurd b a
 unfold Qa0
 refine v_lv λx0 _=>v_br (λ_=>v_lf (z (by decide))) λ_=>v_br (λ_=>v_lf (z (by decide))) λ_=>v_br (λ_=>v_lf (z (by decide))) λ_=>v_an (v_lv λx1 _=>v_br (λ_=>v_lf (z (by decide))) λ_=>v_an (v_lv λx2 hx=> ?_))
 rw[Z9t]at hx
 refine v_lp (inv:=λv:Q00×List Q07=>good 8 v.1∧v.1.A2≤87) (μ:=Qfr m [] 87) ⟨by rw[hx];exact h,by rw[hx];exact hc⟩ (Nat.lt_succ_self _) λv0 ⟨a1,a3⟩=> ?_
 have a2:=a1.ok.cnt
 refine v_br (λhb=>v_br (λhm=> ?_) (λ_=>v_lf λ_=>⟨a1,a3⟩)) (λ_=>v_lf λ_=>⟨a1,a3⟩)
 have hb:=of_decide_eq_true hb
 have hm:=of_decide_eq_true hm
 refine v_lp (inv:=λ_=>True) (μ:=Qfh m [] 87 v0) trivial (Nat.lt_succ_self _) λv1 _=> ?_
 refine v_br (λ_=>v_lf λ_=>⟨a1,a3⟩) λhh=>v_an (v_lv λx3 h3=>v_br (λ_=>v_lf λ_=>⟨a1,a3⟩) λhi=>v_an (v_lv λx4 _=>v_br (λ_=>v_lf (z (by decide))) λ_=>v_an (v_lv λx5 h5=>v_cn (v_nx ?_))))
 obtain⟨b1,b2,_⟩:=Qnr a1 ((Z8v a1).2 ⟨hh,h3.symm.trans hi,hm⟩) (clock:=0) U_0
 rw[←h5]at b1 b2
 show(good 8 x5.2∧x5.2.A2≤87)∧(87-x5.2.A2).toNat<(87-v0.1.A2).toNat
 exact⟨⟨b1,by omega⟩,by omega⟩
theorem Z9v(kind:Int)(l:List Int)(hl:l.length*8≤reachBytes)(h40:l.length≤40):good 8 (Qiu kind l)∧(Qiu kind l).A2≤87:=by
  show Tree.V (Q78 kind l) (λm=>good 8 m∧m.A2≤87)
  have code:=(Tree.pp (code_w l hl)).2
  change((Qme l).length:Int)=l.length∧ ∀w∈Qme l,U w at code
  obtain⟨b1,b2⟩:=code
  unfold Q78
  refine v_an (v_lv λx0 hx0=>v_br (λ_=>v_an (v_lv λx1 e1=> ?_)) (λhk=> ?_))
  · have eb:x1.1=boot:=by rw[e1];rfl
    obtain⟨q1,q2⟩:boot.length≤160∧ ∀w∈boot,U w:=asm_ok
    refine v_lp (inv:=λv:List Int=>v.length≤160∧v=boot++List.replicate (v.length-boot.length) 0) (μ:=Qco kind l) ⟨by rw[eb];exact q1,by rw[eb];simp⟩ (Nat.lt_succ_self _) λv0 ⟨a1,a2⟩=> ?_
    have a3:boot.length≤v0.length:=by rw[a2,List.length_append];omega
    refine v_br (λhb=> ?_) (λhb=> ?_)
    · have hb:=of_decide_eq_true hb
      refine v_cn (v_nx ?_)
      show(_∧_)∧(_:Nat)<_
      refine⟨⟨by rw[List.length_append,List.length_singleton];omega,?_⟩,by show 160-(v0++[0]).length<160-v0.length;rw[List.length_append,List.length_singleton];omega⟩
      show v0++[0]=boot++List.replicate ((v0++[0]).length-boot.length) 0
      rw[List.length_append,List.length_singleton,show v0.length+1-boot.length=(v0.length-boot.length)+1 by omega,List.replicate_succ',←List.append_assoc,←a2]
    · have hb:=of_decide_eq_false hb
      have hv:v0=Qix:=by
        unfold Qix
        rw[show(160:Nat)=v0.length by omega]
        exact a2
      subst hv
      have hp:=pad_len
      have hu0: ∀w∈Qix,U w:=λw hw=>(List.mem_append.1 hw).elim (q2 w) (U_all _ w)
      refine v_an (v_lv λx2 e2=>v_cn ?_)
      rw[←e2]at b1 b2
      have hu: ∀w∈Qix++x2,U w:=λw hw=>(List.mem_append.1 hw).elim (hu0 w) (b2 w)
      have hlen:(Qix++x2).length≤256:=by rw[List.length_append];omega
      refine v_br (λhb=> ?_) (λhb=> ?_)
      · have hb:=of_decide_eq_true hb;omega
      · obtain⟨c1,c2⟩:=Zgv hu hlen
        refine v_an (v_lv λx3 h3=> ?_)
        rw[←h3]at c1 c2
        have rn:=runN_good c1 (by omega)
        refine v_br (λ_=>v_an (v_lv λx4 hx=>v_lf ?_)) (λ_=>v_lf ⟨c1,by omega⟩)
        have e:x3=Q1q 8 4 (Qix++(x2++List.replicate (96-x2.length) 0)):=by
          rw[h3]
          have hl2:(x2++List.replicate (96-x2.length) (0:Int)).length=96:=by rw[List.length_append,List.length_replicate];omega
          refine new_mem _ _ hlen (by rw[List.length_append,hl2];omega) ?_
          rw[List.length_append,List.length_append,hl2,hp,List.append_assoc,List.append_assoc,List.append_assoc,show 256-(160+96)=0 by omega,show 256-(160+x2.length)=96-x2.length by omega]
          simp
        have h0:x4.2.2.2=0:=by
          rw[hx,e]
          exact run_ok _ (by rw[List.length_append,List.length_replicate];omega)
        exact(by rw[hx];exact rn:x4.2.2.2=0→good 8 x4.1∧x4.1.A2≤87) h0
  · have hk:=of_decide_eq_false hk
    refine v_an (v_lv λx2 e2=>v_cn ?_)
    rw[←e2]at b1 b2
    refine v_br (λhb=> ?_) (λhb=> ?_)
    · have hb:=of_decide_eq_true hb;omega
    · obtain⟨c1,c2⟩:=Zgv b2 (by omega)
      refine v_an (v_lv λx3 h3=> ?_)
      rw[←h3]at c1 c2
      exact v_br (λh=>absurd (eq_of_beq h) (by omega)) (λ_=>v_lf ⟨c1,by omega⟩)
end Go.Proofs.YtpcbkbalabgnlaaGreat
namespace Go.Proofs.YtpcbkbalabgnlaaGreat
open Go Go.GD
set_option maxRecDepth 100000
set_option synthInstance.maxHeartbeats 2000000
set_option synthInstance.maxSize 100000
noncomputable section
instance Qw0 (s:(List Int)):Ck (Q04 s):=let d:Decidable (Q04 s):=(by delta Q04;infer_instance);⟨@decide _ d,@of_decide_eq_true _ d⟩
instance Zkm (m:(List Int)) (addr:Int) (size:Int):Ck (Q5s m addr size):=ckT (t:=Q3 m addr size) (by delta Q3;infer_instance)
instance bits_mask_ck (n:Int):Ck (Qab n):=ckT (t:=Q9b n) (by delta Q9b;infer_instance)
instance bits_Field_ck (w:Int) (low:Int) (n:Int):Ck (Q3h w low n):=ckT (t:=Q80 w low n) (by delta Q80;infer_instance)
instance Zku (w:Int) (low:Int) (n:Int) (v:Int):Ck (Q7n w low n v):=ckT (t:=Q4j w low n v) (by delta Q4j;infer_instance)
instance memory_Store_ck (m:(List Int)) (addr:Int) (size:Int) (v:Int):Ck (Q52 m addr size v):=ckT (t:=Q4b m addr size v) (by delta Q4b;infer_instance)
instance Zfn (x:Int) (n:Int):Ck (Q45 x n):=ckT (t:=Q3e x n) (by delta Q3e;infer_instance)
instance isa_Decode_ck (w:Int):Ck (Qb3 w):=ckT (t:=Q6w w) (by delta Q6w;infer_instance)
instance bits_Divide_ck (a:Int) (b:Int):Ck (Q7t a b):=ckT (t:=Q5a a b) (by delta Q5a;infer_instance)
instance cpu_Alu_ck (op:Int) (a:Int) (b:Int):Ck (Qdi op a b):=ckT (t:=Qer op a b) (by delta Qer;infer_instance)
instance memory_Load_ck (m:(List Int)) (addr:Int) (size:Int):Ck (Q2j m addr size):=ckT (t:=Q5h m addr size) (by delta Q5h;infer_instance)
instance Zic (pte:Int):Ck (Q4v pte):=ckT (t:=Q3x pte) (by delta Q3x;infer_instance)
instance paging_Walk_ck (m:(List Int)) (root:Int) (va:Int) (access:Int):Ck (Q7o m root va access):=ckT (t:=Q5i m root va access) (by delta Q5i;infer_instance)
instance paging_Touch_ck (m:(List Int)) (entry:Int) (access:Int):Ck (Q6f m entry access):=ckT (t:=Q4c m entry access) (by delta Q4c;infer_instance)
instance cpu_Resolve_ck (c:Q03) (m:(List Int)) (va:Int) (size:Int) (access:Int):Ck (Q5z c m va size access):=ckT (t:=Q5c c m va size access) (by delta Q5c;infer_instance)
instance cpu_Fetch_ck (c:Q03) (m:(List Int)):Ck (Qcm c m):=ckT (t:=Q9d c m) (by delta Q9d;infer_instance)
instance cpu_set_ck (c:Q03) (register:Int) (v:Int):Ck (Q54 c register v):=ckT (t:=Q8n c register v) (by delta Q8n;infer_instance)
instance cpu_load_ck (c:Q03) (m:(List Int)) (i:Q0g):Ck (Qev c m i):=ckT (t:=Q8u c m i) (by delta Q8u;infer_instance)
instance cpu_store_ck (c:Q03) (m:(List Int)) (i:Q0g):Ck (Qcp c m i):=ckT (t:=Q79 c m i) (by delta Q79;infer_instance)
instance cpu_Write_ck (c:Q03) (csr:Int) (v:Int):Ck (Qcc c csr v):=ckT (t:=Q76 c csr v) (by delta Q76;infer_instance)
instance cpu_execute_ck (c:Q03) (i:Q0g):Ck (Q9o c i):=ckT (t:=Q36 c i) (by delta Q36;infer_instance)
instance cpu_Exec_ck (c:Q03) (m:(List Int)):Ck (Qc3 c m):=ckT (t:=Q6h c m) (by delta Q6h;infer_instance)
instance Zgy (x:Int):Ck (Q5x x):=ckT (t:=Q1y x) (by delta Q1y;infer_instance)
instance balloon_May_ck (b:Q06) (pages:Int):Ck (Q7p b pages):=ckT (t:=Q3l b pages) (by delta Q3l;infer_instance)
instance Z9s (m:Q00):Ck (Q1s m):=ckT (t:=Q1h m) (by delta Q1h;infer_instance)
instance machine_May_ck (m:Q00):Ck (Q3j m):=ckT (t:=Q4f m) (by delta Q4f;infer_instance)
instance Z43 (x:Int):Ck (Q30 x):=ckT (t:=Q1o x) (by delta Q1o;infer_instance)
instance Zkh (b:Q06):Ck (Q5p b):=ckT (t:=Q4q b) (by delta Q4q;infer_instance)
instance Zfp (b:Q06):Ck (Q5y b):=ckT (t:=Q2k b) (by delta Q2k;infer_instance)
instance Zkj (m:Q00):Ck (Q7r m):=ckT (t:=Q3t m) (by delta Q3t;infer_instance)
instance Zfw (m:Q00):Ck (Q48 m):=ckT (t:=Q1x m) (by delta Q1x;infer_instance)
instance machine_Idle_ck (m:Q00):Ck (Q34 m):=ckT (t:=Q2z m) (by delta Q2z;infer_instance)
instance machine_runs_ck (m:Q00):Ck (Q6c m):=ckT (t:=Q3i m) (by delta Q3i;infer_instance)
instance Zko (m:Q00):Ck (Q5u m):=ckT (t:=Q2h m) (by delta Q2h;infer_instance)
instance balloon_In_ck (b:Q06) (port:Int):Ck (Qb2 b port):=ckT (t:=Q6x b port) (by delta Q6x;infer_instance)
instance Zf0 (m:Q00) (port:Int) (clock:Int):Ck (Q57 m port clock):=ckT (t:=Q2b m port clock) (by delta Q2b;infer_instance)
instance memory_text_ck (words:(List Int)):Ck (Q3p words):=let d:Decidable (Q3p words):=(by delta Q3p;infer_instance);⟨@decide _ d,@of_decide_eq_true _ d⟩
instance memory_Page_ck (m:(List Int)) (frame:Int):Ck (Q60 m frame):=ckT (t:=Q3m m frame) (by delta Q3m;infer_instance)
instance disk_issue_ck (d0:Q0c) (m:(List Int)) (cmd:Int) (at0:Int):Ck (Qb6 d0 m cmd at0):=ckT (t:=Q6s d0 m cmd at0) (by delta Q6s;infer_instance)
instance disk_Out_ck (d0:Q0c) (m:(List Int)) (port:Int) (v:Int) (at0:Int):Ck (Qf d0 m port v at0):=ckT (t:=Qa9 d0 m port v at0) (by delta Qa9;infer_instance)
instance nic_send_ck (n:Q0m) (m:(List Int)) (at0:Int):Ck (Qf1 n m at0):=ckT (t:=Qa7 n m at0) (by delta Qa7;infer_instance)
instance nic_Out_ck (n:Q0m) (m:(List Int)) (port:Int) (v:Int) (at0:Int):Ck (Qib n m port v at0):=ckT (t:=Qd5 n m port v at0) (by delta Qd5;infer_instance)
instance Zjv (m:(List Int)) (frame:Int) (s:(List UInt8)):Ck (Q3r m frame s):=ckT (t:=Q26 m frame s) (by delta Q26;infer_instance)
instance Zj9 (s:(List UInt8)) (count:Int):Ck (Q2v s count):=let d:Decidable (Q2v s count):=(by delta Q2v;infer_instance);⟨@decide _ d,@of_decide_eq_true _ d⟩
instance balloon_Out_ck (b:Q06) (m:(List Int)) (port:Int) (v:Int):Ck (Q9l b m port v):=ckT (t:=Q2n b m port v) (by delta Q2n;infer_instance)
instance Zci (m:Q00) (port:Int) (v:Int) (at0:Int):Ck (Q4m m port v at0):=ckT (t:=Q22 m port v at0) (by delta Q22;infer_instance)
instance machine_Step_ck (m:Q00) (clock:Int):Ck (Q35 m clock):=ckT (t:=Q31 m clock) (by delta Q31;infer_instance)
instance make_Round_ck (n:Int) (k:Int):Ck (Q27 n k):=ckT (t:=Qc5 n k) (by delta Qc5;infer_instance)
instance make_Inst_ck (n:Int):Ck (Q87 n):=ckT (t:=Qbr n) (by delta Qbr;infer_instance)
instance make_Code_ck (l:(List Int)):Ck (Qap l):=ckT (t:=Q9s l) (by delta Q9s;infer_instance)
instance ref1_New_ck (pages:Int):Ck (Q9r pages):=ckT (t:=Qc9 pages) (by delta Qc9;infer_instance)
instance ref7_New_ck (pages:Int) (blocks:Int) (image:(List Int)):Ck (Q6i pages blocks image):=ckT (t:=Q7i pages blocks image) (by delta Q7i;infer_instance)
instance Zj5 (a:(List Int)) (b:(List Int)):Ck (Q4t a b):=let d:Decidable (Q4t a b):=(by delta Q4t;infer_instance);⟨@decide _ d,@of_decide_eq_true _ d⟩
instance ref7_Same_ck (a:Q00) (b:Q00):Ck (Qkt a b):=ckT (t:=Qki a b) (by delta Qki;infer_instance)
instance Za9 (m:Q00):Ck (Q29 m):=ckT (t:=Q28 m) (by delta Q28;infer_instance)
instance console_Type_ck (c:Q0b) (b:Int):Ck (Qfk c b):=ckT (t:=Q73 c b) (by delta Q73;infer_instance)
instance Zki (d0:Q0c) (m:(List Int)) (e:Q09):Ck (Qe0 d0 m e):=ckT (t:=Q4o d0 m e) (by delta Q4o;infer_instance)
instance nic_Receive_ck (n:Q0m) (m:(List Int)) (frame:(List UInt8)):Ck (Qhm n m frame):=ckT (t:=Q6q n m frame) (by delta Q6q;infer_instance)
instance Zkq (m:Q00) (e:Q09):Ck (Qai m e):=ckT (t:=Q32 m e) (by delta Q32;infer_instance)
instance Qpb (s:(List Q0u)):Ck (Q0x s):=let d:Decidable (Q0x s):=(by delta Q0x;infer_instance);⟨@decide _ d,@of_decide_eq_true _ d⟩
instance Qpf (s:(List Q09)):Ck (Q0y s):=let d:Decidable (Q0y s):=(by delta Q0y;infer_instance);⟨@decide _ d,@of_decide_eq_true _ d⟩
instance Zkn (r:Q01):Ck (Q42 r):=ckT (t:=Q61 r) (by delta Q61;infer_instance)
instance record_New_ck (m:Q00):Ck (Qef m):=ckT (t:=Q9u m) (by delta Q9u;infer_instance)
instance Zkr (r:Q01) (e:Q09):Ck (Q7v r e):=ckT (t:=Q6 r e) (by delta Q6;infer_instance)
instance record_Cut_ck (r:Q01):Ck (Qj2 r):=ckT (t:=Qen r) (by delta Qen;infer_instance)
instance Zdu (e:Q09) (fr0:Q01):Ck (Q7d e fr0):=ckT (t:=Q3k e fr0) (by delta Q3k;infer_instance)
instance Zch (e:Q09) (fr0:Q01):Ck (Q9k e fr0):=ckT (t:=Q38 e fr0) (by delta Q38;infer_instance)
instance Zen (e:Q09) (fr0:Q01):Ck (Q7g e fr0):=ckT (t:=Q3u e fr0) (by delta Q3u;infer_instance)
instance Zjm (r:Q01) (steps:Int) (clock:Int):Ck (Q93 r steps clock):=ckT (t:=Q3y r steps clock) (by delta Q3y;infer_instance)
theorem awake_pre:Q7s:=ck (ckT (t:=Qd6) (by delta Qd6;infer_instance)) (by kernel_rfl)
theorem Zhq:Qe1=true:=by kernel_rfl
end
end Go.Proofs.YtpcbkbalabgnlaaGreat
namespace Go.Proofs.YtpcbkbalabgnlaaGreat
open Go Go.GD
attribute [local irreducible] Q1v
set_option maxRecDepth 100000
theorem Zhy(w:Int):IntKind.wrap .i64 (Q1z w).1.Imm=(Q1z w).1.Imm:=by
 show Tree.V (Q6u w) (λr=>IntKind.wrap .i64 r.1.Imm=r.1.Imm)
 have e: ∀x,IntKind.wrap .i64 (IntKind.wrap .i32 x)=IntKind.wrap .i32 x:=λx=>by rw[IntKind.wrap_i64,IntKind.wrap_i32];omega
 unfold Q6u
 refine v_lv λx0 _=> ?_
 have l: ∀i:Q0g,IntKind.wrap .i64 i.Imm=i.Imm→Tree.V (Tree.lv (Q7j i) λx=> .br (!x) (.lf ((⟨0,0,0,0,0⟩:Q0g),false)) (.lf (i,true))) (λr=>IntKind.wrap .i64 r.1.Imm=r.1.Imm):=λi hi=>v_lv λx hx=>v_br (λ_=>v_lf rfl) (λhb=>v_lf hi)
 exact v_br (λ_=>v_lf rfl) (λ_=>v_br (λ_=>l _ rfl) (λ_=>v_br (λ_=>l _ (e _)) (λ_=>v_br (λ_=>l _ (e _)) (λ_=>l _ (e _)))))
def ioP(e:Q11):Bool:=bif e.B5==1 then e.D0==2 else false
def readsC(c:Q03)(m:List Int):Bool:=
 bif iand .u32 c.B6.a0 1==0 then false else bif(Q1b m c.Pc 4).2 then bif(Q1z (Q1b m c.Pc 4).1).2 then bif(Q1z (Q1b m c.Pc 4).1).1.Op==60 then(Q1z (Q1b m c.Pc 4).1).1.Imm==2 else false else false else false
theorem reads_def(m:Q00):Qjf m=readsC (Q0k m) m.Mem:=rfl
theorem sys_io(c:Q03)(i:Q0g):ioP (Qh1 c i).2=(bif i.Op==60 then IntKind.wrap .i64 i.Imm==2 else false):=by
 show Tree.V (Q8h c i) (λr=>ioP r.2=_)
 have no: ∀{k:Int},i.Op=k→k≠60→ ∀e:Q11,e.B5≠1→ioP e=(bif i.Op==60 then IntKind.wrap .i64 i.Imm==2 else false):=λh g e he=>by
   unfold ioP
   rw[h,show(_==(60:Int))=false from beq_false_of_ne g,show(e.B5==1)=false from beq_false_of_ne he];rfl
 have eq: ∀{k:Int},(i.Op==k)=true→i.Op=k:=λh=>eq_of_beq h
 unfold Q8h
 refine v_br (λh=>v_lv λ_ _=>v_lf (no (eq h) (by decide) _ (show(0:Int)≠1 by decide))) λ_=>v_br (λh=>v_lv λ_ _=>v_lf (no (eq h) (by decide) _ (show(0:Int)≠1 by decide))) λ_=>v_br (λh=>v_cn (v_an (v_lv λ_ _=>v_lf (no (eq h) (by decide) _ (show(0:Int)≠1 by decide))))) λ_=>v_br (λh=>v_cn (v_an (v_lv λ_ _=>v_lf (no (eq h) (by decide) _ (show(0:Int)≠1 by decide))))) λ_=>v_br (λh=>v_lf ?_) λh60=> ?_
 · show(bif(1:Int)==1 then IntKind.wrap .i64 i.Imm==2 else false)=_
   rw[h];rfl
 · have n60:i.Op≠60:=λe=>by rw[e]at h60;cases h60
   refine v_br (λh=>v_cn (v_lf (no (eq h) (by decide) _ (by show(2:Int)≠1;decide)))) λ_=>v_br (λh=>v_lf (no (eq h) (by decide) _ (show(3:Int)≠1 by decide))) λ_=>v_br (λh=>v_lf (no (eq h) (by decide) _ (show(5:Int)≠1 by decide))) λ_=>v_br (λh=>v_lf (no (eq h) (by decide) _ (show(4:Int)≠1 by decide))) λ_=>v_lf (no rfl n60 _ (show(0:Int)≠1 by decide))
theorem post_io(c:Q03)(m:List Int)(i:Q0g):ioP (Qid c m i).2.1=(bif i.Op==60 then IntKind.wrap .i64 i.Imm==2 else false):=by
 unfold Qid
 cases h:decide (i.Op≥56)
 · have h:=of_decide_eq_false h
   rw[show(i.Op==60)=false from beq_false_of_ne (by omega)]
   cases decide (i.Op≥40)<;>cases decide (i.Op≥32)<;>cases i.Op==24<;>cases decide (i.Op≤13)<;>rfl
 · exact sys_io c i
theorem do_reads{P:Nat}{m:List Int}(h:Q10 P m){c:Q03}(hc:Q2s c)(hst:c.B6.a0≤31):ioP (Q8e c m).2.1=readsC c m:=by
  rw[do_eq]
  unfold readsC
  cases hk:iand .u32 c.B6.a0 1==0
  · have hp:Qjt c=false:=by
      rw[Z2v hc.a0.1 hst,show Qag c=true from by show(iand .u32 c.B6.a0 1 !=0)=true;rw[bne,hk];rfl]
      rfl
    have wi:=Qgb h hc.pc (size:=4) (.inr rfl)
    have kn:Qdx 1=true:=rfl
    have p0:=hc.pc.1
    have tm:Int.tmod c.Pc (IntKind.wrap .u32 4)=c.Pc%4:=by
      rw[show IntKind.wrap .u32 4=4 from rfl,Int.tmod_eq_emod_of_nonneg p0]
    have rc:Q12 c m c.Pc 4 1=bif c.Pc%4 !=0 then(0,3,m) else bif !Q23 m c.Pc 4 then(0,Q20 1,m) else(c.Pc,0,m):=by
      simp only[Q12,Q7y,Tree.m,letv,kn,hp,tm]
      rfl
    rw[rc]
    cases h4:(c.Pc%4 !=0)
    · cases hw:Q23 m c.Pc 4
      · have l2:(Q1b m c.Pc 4).2=false:=by
          simp only[Q1b,Q49,Tree.m,letv,hw];rfl
        rw[l2]
        show ioP (doR c (0,Q20 1,m) _ _).2.1=false
        unfold doR
        rw[show((0,Q20 1,m):Int×Int×List Int).2.1=Q20 1 from rfl,show(Q20 1 !=0)=true by decide]
        rfl
      · have l2:(Q1b m c.Pc 4).2=true:=by
          simp only[Q1b,Q49,Tree.m,letv,hw];rfl
        rw[l2]
        show ioP (doR c (c.Pc,0,m) (Q1b m c.Pc 4).1 (Q1z (Q1b m c.Pc 4).1)).2.1=_
        have im:=Zhy (Q1b m c.Pc 4).1
        generalize Q1b m c.Pc 4=x at*
        generalize Q1z x.1=d at*
        unfold doR
        cases d.2
        · rfl
        · rw[hk]
          have:=post_io c m d.1
          rw[im]at this
          cases Q3o d.1.Op<;>exact this
    · have hw:Q23 m c.Pc 4=false:=by
        rw[wi]
        refine decide_eq_false λe=> ?_
        rw[e.1]at h4;cases h4
      have l2:(Q1b m c.Pc 4).2=false:=by
        simp only[Q1b,Q49,Tree.m,letv,hw];rfl
      rw[l2];rfl
  · have us : ∀x w d,ioP (doR c x w d).2.1=false:=λx w d=>by
      unfold doR
      cases x.2.1 !=0
      · cases d.2
        · rfl
        · cases hp:Q3o d.1.Op
          · have:=post_io c x.2.2 d.1
            rw[show(d.1.Op==60)=false from beq_false_of_ne λe=>by rw[e]at hp;cases hp]at this
            exact this
          · rw[hk];rfl
      · rfl
    exact us _ _ _
theorem Zk9{m:Q00}(h:okV m):Q7 m=Q3n m:=by
 have rd:Q3n m=bif Q13 m then false else Qjf m:=rfl
 have pd:Q7 m=bif !Q2x m then false else ioP (Q84 (Q0t m).B3 (Q0t m).Mem).2.2:=rfl
 rw[rd,pd,Qr5 h]
 cases hs:Q13 m
 · have hr:Q2x m=true:=by rw[Qr5 h,hs];rfl
   obtain⟨hm,hh,hct⟩:=Qx hr
   obtain⟨g1,g2,g3,g4,g5⟩:=(Qn6 m).1 hm
   rcases(Qmu m.Mem h.mem).2 with c|⟨P,hP,hmem⟩
   · exact absurd c g1
   have okm:okS P m:=⟨h.cpu,hmem,h.disk,h.nic,h.bal.1,h.bal.2⟩
   obtain⟨b1,b2,b3,_⟩:=(Tree.pp (Qz0 okm g2)).2
   change Q7c (Q0t m).B3 at b1
   change okS P (Q0t m) at b2
   have be:=Z2z h g2.st
   have b1':Q7c (Q0k m):=by have:=b1;rw[be]at this;exact this
   have b2':Q2s (Q0k m):=by have:=b2.cpu;rw[be]at this;exact this
   have ex:=Zc1 hmem b2' b1'.st
   rw[be,reads_def,←do_reads hmem b2' b1'.st]
   show ioP (Q84 (Q0k m) m.Mem).2.2=_
   rw[ex];rfl
 · rfl
theorem fin_no(d:Q0c)(m:List Int)(e:Q09):(Q8c d m e).2.1=false→Q8c d m e=(d,false,m):=by
 show Tree.V (Q6z d m e) (λr=>r.2.1=false→r=(d,false,m))
 have no: ∀{p:Prop},true=false→p:=λh=>by cases h
 unfold Q6z
 repeat'(first
   |exact v_lf λ_=>rfl
   |exact v_lf no
   |exact v_an (v_lv λ_ _=>v_lf no)
   |refine v_lv λ_ _=> ?_
   |refine v_an ?_
   |refine v_br (λ_=> ?_) (λ_=> ?_))
theorem acc_no(n:Q0m)(m:List Int)(s:List UInt8):(Q8i n m s).2.1=false→Q8i n m s=(n,false,m):=by
 show Tree.V (Q6v n m s) (λr=>r.2.1=false→r=(n,false,m))
 have no: ∀{p:Prop},true=false→p:=λh=>by cases h
 unfold Q6v
 repeat'(first
   |exact v_lf λ_=>rfl
   |exact v_an (v_lv λ_ _=>v_lf no)
   |refine v_lv λ_ _=> ?_
   |refine v_br (λ_=> ?_) (λ_=> ?_))
theorem fire_no(t:Q0h):(Qkc t).2=false→(Qkc t).1=t:=by
 show Tree.V (Ql8 t) (λr=>r.2=false→r.1=t)
 have no: ∀{p:Prop},true=false→p:=λh=>by cases h
 unfold Ql8
 repeat'(first
   |exact v_lf λ_=>rfl
   |exact v_lf no
   |refine v_br (λ_=> ?_) (λ_=> ?_))
theorem type_no(c:Q0b)(b:Int):(Qk2 c b).2=false→(Qk2 c b).1=c:=by
 show Tree.V (Qbp c b) (λr=>r.2=false→r.1=c)
 have no: ∀{p:Prop},true=false→p:=λh=>by cases h
 unfold Qbp
 exact v_br (λ_=>v_lf λ_=>rfl) (λ_=>v_cn (v_lf no))
theorem app_no(m:Q00)(e:Q09):(Q0w m e).1=false→(Q0w m e).2=m:=by
 show Tree.V (Q6n m e) (λr=>r.1=false→r.2=m)
 have no: ∀{p:Prop},true=false→p:=λh=>by cases h
 unfold Q6n
 repeat'(first
   |exact v_lf λ_=>rfl
   |exact v_lf no
   |exact v_lv λx hx=>v_lf λh=>by rw[hx]at h⊢;rw[fire_no _ h]
   |exact v_an (v_lv λx hx=>v_lf λh=>by rw[hx]at h⊢;rw[fin_no _ _ _ h])
   |exact v_an (v_lv λx hx=>v_lf λh=>by rw[hx]at h⊢;rw[acc_no _ _ _ h])
   |exact v_an (v_lv λx hx=>v_lf λh=>by rw[hx]at h⊢;rw[type_no _ _ h])
   |refine v_br (λ_=> ?_) (λ_=> ?_))
end Go.Proofs.YtpcbkbalabgnlaaGreat
namespace Go.Proofs.YtpcbkbalabgnlaaGreat
open Go Go.GD
attribute [local irreducible] Q1v
set_option maxRecDepth 100000
theorem midle_w{m:Q00}(h:U m.A1.C1):Q34 m:=by
 show(Q2z m).p
 unfold Tree.p Q2z
 refine w_br (λ_=>w_an ?_ (w_lv λ_ _=>trivial)) (λ_=>trivial)
 show(Q1x m).p
 unfold Tree.p Q1x
 exact Q0e (Zg1 h) λ_ _=>trivial
theorem reads_w0{P:Nat}{m:Q00}(h:okS P m):(Q28 m).w (λ_=>True):=by
 unfold Q28
 exact Q0e (Zev h.given) λ_ _=>w_br (λ_=>trivial) (λ_=>Q0e (beginP_w h) λx1 h1=>Q0e (execP_w h1.cpu h1.mem) λx2 _=>w_br (λ_=>trivial) (λ_=>trivial))
theorem Zj3{e:Q09}(h:U e.N):Qeg e=Q37 e:=by
 obtain⟨h0,h1⟩:=h
 have d: ∀b:Bool,(bif e.N==1 then(bif decide (e.C6=[]) then true else b) else(bif e.N==0 then decide (e.C6=[]) else false))=(bif decide (e.N≤1) then(bif decide (e.C6=[]) then true else(bif e.N==1 then b else false)) else false):=λb=>by
   rcases(by omega:e.N=0∨e.N=1∨2≤e.N) with k|k|k
   · rw[k];cases decide (e.C6=[])<;>rfl
   · rw[k];cases decide (e.C6=[])<;>rfl
   · rw[show(e.N==1)=false from beq_false_of_ne (by omega),show(e.N==0)=false from beq_false_of_ne (by omega),decide_eq_false (show¬e.N≤1 by omega)];rfl
 simp only[Qeg,Qfp,Q37,Qkj,Tree.m,d]
theorem Qy(r:Q01):Qah r=r:=rfl
theorem Quc{r:Q01}(hm:r.A0.Mem.length≤1024)(hl:r.C4.length≤1000000)(hq:r.A4.length≤1000000):Q42 r:=by
 show(Q61 r).p
 unfold Tree.p Q61
 exact w_an (by show r.A0.Mem.length≤35184372088832;omega) (w_lv λ_ _=>w_an (by show r.C4.length≤3518437208883;omega) (w_lv λ_ _=>w_an (by show r.A4.length≤3518437208883;omega) (w_lv λ_ _=>trivial)))
section
variable {P:Nat} {m:Q00} (h:good P m)
include h
theorem good.len:m.Mem.length≤1024:=by have:=h.ok.mem.len;have:=h.ok.mem.p2;omega
theorem good.app(e:Q09):Q88 m e=((Q0w m e).2,(Q0w m e).1):=by
 rw[Z39 h.v]
 simp only[Qke,Qin,Tree.m,letv,Z9t,h.rmay];rfl
theorem good.step(hs:Q13 m=false)(clock:Int):Q3b m clock=((Q0o m clock).2,(Q0o m clock).1):=by
 rw[Zce h.v,Z69,hs];rfl
theorem good.idle:Q6r m=Qcj m:=Zaj h.v
end
theorem rlog_w(e:Q09){r:Q01}(hl:r.C4.length≤1000000):(Q3k e r).w (λx=>x={A0:=r.A0,A7:=r.A7,C4:=r.C4++[{At:=r.A0.A2,D3:=e}],A4:=r.A4}):=by
 unfold Q3k
 exact w_cn (decide_eq_true (by omega)) rfl
theorem rlogR_w(e:Q09){r:Q01}(hl:r.C4.length≤1000000):(Q38 e r).w (λx=>x={A0:=r.A0,A7:=r.A7,C4:=r.C4++[{At:=r.A0.A2,D3:=e}],A4:=r.A4}):=by
 unfold Q38
 exact w_cn (decide_eq_true (by omega)) rfl
theorem Zgo{P:Nat}{r:Q01}(h:good P r.A0){e:Q09}(he:U e.N)(hl:r.C4.length≤1000000):(Q3u e r).w (λx=>x=Q2p r e):=by
 unfold Q3u
 refine w_an (Zi0 h.v h.len he) (w_lv λx0 e0=> ?_)
 rw[h.app]at e0
 refine w_br (λhb=>Q0e (rlogR_w e (r:=⟨x0.1,r.A7,r.C4,r.A4⟩) hl) λx1 e1=> ?_) (λhb=> ?_)
 · have hb:(Q0w r.A0 e).1=true:=by rw[e0]at hb;exact hb
   show x1=_
   unfold Q2p
   rw[e1,hb,e0];rfl
 · have hb:(Q0w r.A0 e).1=false:=by rw[e0]at hb;exact hb
   show r=_
   unfold Q2p
   rw[hb,app_no _ _ hb];rfl
theorem Qtb(r:Q01)(e:Q09):(Q2p r e).C4.length≤r.C4.length+1:=by
 unfold Q2p
 cases(Q0w r.A0 e).1
 · exact Nat.le_succ _
 · show(r.C4++[_]).length≤_
   rw[List.length_append,List.length_singleton];omega
theorem Z8x(r:Q01):(Q2f r).C4.length≤r.C4.length+1:=by
 unfold Q2f
 cases Qd3 r.A0.B0 r.A7
 · exact Nat.le_succ _
 · exact Qtb _ _
theorem readF_log(r:Q01):(Z7a r).C4.length≤r.C4.length+1:=by
 unfold Z7a
 cases Q3n r.A0
 · exact Nat.le_succ _
 · show(r.C4++[_]).length≤_
   rw[List.length_append,List.length_singleton];omega
theorem Ziv{P:Nat}{m:Q00}(h:good P m):Q13 m=bif m.A9 then true else bif Q6r m then true else m.A2==1152921504606846976:=by
 have hc:=((Qn6 m).1 h.may).2.2.1
 have e:decide (m.A2≥1152921504606846976)=(m.A2==1152921504606846976):=by
   by_cases g:m.A2=1152921504606846976
   · rw[g];rfl
   · rw[show(m.A2==1152921504606846976)=false from beq_false_of_ne g,decide_eq_false (by omega)]
 rw[h.idle,←e]
 simp only[Q13,Qei,Tree.m,letv,h.rmay];rfl
theorem Z8t{r:Q01}(hr:Q3n r.A0=true):Qmh r={A0:=(Q0o r.A0 r.A7).2,A7:=IntKind.wrap .u32 (r.A7+1),C4:=r.C4++[{At:=r.A0.A2,D3:={B5:=1,N:=r.A7,C6:=[]}}],A4:=r.A4}:=by
 unfold Qmh Z7a;rw[hr];rfl
theorem tick_no{r:Q01}(hr:Q3n r.A0=false):Qmh r={A0:=(Q0o r.A0 r.A7).2,A7:=IntKind.wrap .u32 (r.A7+1),C4:=r.C4,A4:=r.A4}:=by
 unfold Qmh Z7a;rw[hr];rfl
theorem Zag(r:Q01):(Qmh r).C4.length≤r.C4.length+1:=readF_log r
theorem Ziq{n:Nat}{r:Q01}{o:List Q07}(hs:Q13 (Q2f r).A0=true):recF (n+1) r o=(Q2f r,o):=by
 conv=>lhs;unfold recF
 rw[hs];rfl
theorem recF_go{n:Nat}{r:Q01}{o:List Q07}(hs:Q13 (Q2f r).A0=false):recF (n+1) r o=recF n (Qmh (Q2f r)) (o++(Q0o (Q2f r).A0 (Q2f r).A7).1):=by
 conv=>lhs;unfold recF
 rw[hs];rfl
theorem advF_may{r:Q01}(h:Q7e r.A0=true)(steps clock:Int):advF r steps clock=recF (Q0l steps).toNat (noQ (r.A4.foldl Q2p {A0:=r.A0,A7:=if clock>r.A7 then clock else r.A7,C4:=r.C4,A4:=r.A4})) []:=by
 unfold advF;rw[h];rfl
theorem radv_w{P:Nat}{k:Int}{r:Q01}(h:Qa1 P k r)(steps:Int){clock:Int}(hc:U clock)(hl:r.C4.length≤900000)(hq:r.A4.length≤1000)(hu: ∀q∈r.A4,U q.N):
    (Q3y r steps clock).w (λx=>x=advF r steps clock):=by
  obtain⟨lim0,lim1⟩:=Qnb steps
  have lim:(if 4000<(if 0>steps then 0 else steps) then 4000 else(if 0>steps then 0 else steps))=Q0l steps:=rfl
  have hA:=advF_may h.m.rmay steps clock
  unfold Q3y
  refine w_an (Quc h.m.len (by omega) (by omega)) (w_lv λx0 e0=> ?_)
  rw[Qy]at e0
  subst e0
  refine w_an (Tree.pp (Zhd h.m.ok.target.2)).1 (w_lv λx1 e1=>w_br (λhb=>by rw[e1,h.m.may]at hb;cases hb) λhb=> ?_)
  have hcl:U (if clock>x0.A7 then clock else x0.A7):=by split<;>first|exact hc|exact h.clock
  generalize hr0:({A0:=x0.A0,A7:=if clock>x0.A7 then clock else x0.A7,C4:=x0.C4,A4:=x0.A4}:Q01)=r0 at*
  have hQ:r0.A4=x0.A4:=by rw[←hr0]
  have hL:r0.C4=x0.C4:=by rw[←hr0]
  have g0:Qa1 P k r0:=by rw[←hr0];exact⟨h.m,hcl,h.cnt⟩
  refine w_lp (inv:=λz:Int×Q01=>0≤z.1∧z.1≤x0.A4.length∧z.2.A4=x0.A4∧Qa1 P k z.2∧(z.2.C4.length:Int)≤x0.C4.length+z.1∧(x0.A4.drop z.1.toNat).foldl Q2p z.2=x0.A4.foldl Q2p r0) (μ:=Qft x0 steps clock) ⟨Int.le_refl 0,by show(0:Int)≤_;omega,hQ,g0,by rw[hL];omega,rfl⟩ (Nat.lt_succ_self _) λz ⟨z0,z1,z2,z3,z4,z5⟩=> ?_
  refine w_br (λhb=> ?_) (λhb=> ?_)
  · have hb:=of_decide_eq_true hb
    have hlt:z.1.toNat<x0.A4.length:=by omega
    have ed:x0.A4.getD z.1.toNat (RK.dflt RK.apiEvent)=x0.A4[z.1.toNat]:=by rw[List.getD_eq_getElem?_getD,List.getElem?_eq_getElem hlt];rfl
    have hm:x0.A4.getD z.1.toNat (RK.dflt RK.apiEvent)∈x0.A4:=by rw[ed];exact List.getElem_mem hlt
    refine w_cn (by simp [Nat.blt];omega) (Q0e (Zgo z3.m (hu _ hm) (by omega)) λx2 e2=>w_nx ?_)
    have ew:IntKind.i64.wrap (z.1+1)=z.1+1:=by rw[IntKind.wrap_i64];omega
    have q2:x2.A4=x0.A4:=by rw[e2,Qio,z2]
    have l2:=Qtb z.2 (x0.A4.getD z.1.toNat (RK.dflt RK.apiEvent))
    rw[←e2]at l2
    have g2:=(Ql6 z3 (hu _ hm)).1
    rw[←e2]at g2
    show(0≤IntKind.i64.wrap (z.1+1)∧IntKind.i64.wrap (z.1+1)≤x0.A4.length∧x2.A4=x0.A4∧Qa1 P k x2∧(x2.C4.length:Int)≤x0.C4.length+IntKind.i64.wrap (z.1+1)∧(x0.A4.drop (IntKind.i64.wrap (z.1+1)).toNat).foldl Q2p x2=_)∧(x2.A4.length-IntKind.i64.wrap (z.1+1)).toNat<(z.2.A4.length-z.1).toNat
    rw[ew,q2,z2]
    refine⟨⟨by omega,by omega,rfl,g2,by omega,?_⟩,by omega⟩
    rw[←z5,List.drop_eq_getElem_cons hlt,List.foldl_cons,show(z.1+1).toNat=z.1.toNat+1 by omega,e2,ed]
  · have hb:=of_decide_eq_false hb
    obtain⟨zi,zr⟩:=z
    have hb: ¬zi<x0.A4.length:=hb
    have ze:zr=x0.A4.foldl Q2p r0:=by
      rw[←z5,List.drop_eq_nil_of_le (by show x0.A4.length≤zi.toNat;omega)];rfl
    rw[←ze]at hA
    have z3:Qa1 P k zr:=z3
    have z4:(zr.C4.length:Int)≤x0.C4.length+zi:=z4
    have z1:zi≤x0.A4.length:=z1
    refine w_lp (inv:=λy:Int×Q01×List Q07=>0≤y.1∧y.1≤Q0l steps∧Qa1 P (k+y.1) y.2.1∧(y.2.1.C4.length:Int)≤zr.C4.length+2*y.1∧(y.2.2.length:Int)≤y.1∧recF (Q0l steps-y.1).toNat y.2.1 y.2.2=advF x0 steps clock) (μ:=Q7f x0 steps clock (zi,zr)) ⟨Int.le_refl 0,by show(0:Int)≤_;omega,⟨z3.m,z3.clock,by have:=z3.cnt;show zr.A0.A2≤k+0;omega⟩,by show(zr.C4.length:Int)≤_+2*0;omega,Int.le_refl 0,by rw[hA];show recF (Q0l steps-0).toNat _ _=_;rw[Int.sub_zero];rfl⟩ (Nat.lt_succ_self _) λy ⟨y0,y1,y2,y3,y4,y5⟩=> ?_
    obtain⟨yi,yr,yo⟩:=y
    have y0:0≤yi:=y0
    have y1:yi≤Q0l steps:=y1
    have y2:Qa1 P (k+yi) yr:=y2
    have y3:(yr.C4.length:Int)≤zr.C4.length+2*yi:=y3
    have y4:(yo.length:Int)≤yi:=y4
    change recF (Q0l steps-yi).toNat yr yo=_ at y5
    refine w_br (λhb=> ?_) (λhb=> ?_)
    · have hb:yi<Q0l steps:=of_decide_eq_true hb
      have ew:IntKind.i64.wrap (yi+1)=yi+1:=by rw[IntKind.wrap_i64];omega
      have en:(Q0l steps-yi).toNat=(Q0l steps-(yi+1)).toNat+1:=by omega
      rw[en]at y5
      obtain⟨gf,gc⟩:=Qo y2
      have lf:=Z8x yr
      have mu: ∀q,Q7f x0 steps clock (zi,zr) (IntKind.wrap .i64 (yi+1),q)<Q7f x0 steps clock (zi,zr) (yi,yr,yo):=λq=>by
        show(4000-IntKind.wrap .i64 (yi+1)).toNat<(4000-yi).toNat
        rw[ew];omega
      have nxt: ∀(x:Q01) (o:List Q07),Q13 (Q2f yr).A0=false→x=Qmh (Q2f yr)→o=yo++(Q0o (Q2f yr).A0 (Q2f yr).A7).1→(0≤IntKind.wrap .i64 (yi+1)∧IntKind.wrap .i64 (yi+1)≤Q0l steps∧Qa1 P (k+IntKind.wrap .i64 (yi+1)) x∧(x.C4.length:Int)≤zr.C4.length+2*IntKind.wrap .i64 (yi+1)∧(o.length:Int)≤IntKind.wrap .i64 (yi+1)∧recF (Q0l steps-IntKind.wrap .i64 (yi+1)).toNat x o=advF x0 steps clock):=λx o hs hx ho=>by
        have t:=Qnl gf hs
        have lt:=Zag (Q2f yr)
        obtain⟨_,_,a3⟩:=Qnr gf.m hs gf.clock
        rw[ew,hx,ho]
        refine⟨by omega,by omega,⟨t.m,t.clock,by have:=t.cnt;omega⟩,by omega,by rw[List.length_append];omega,?_⟩
        rw[←y5,recF_go hs]
      have stk: ∀(x:Q01),Q13 (Q2f yr).A0=true→x=Q2f yr→(x,yo)=advF x0 steps clock:=λx hs hx=>by
        rw[←y5,Ziq hs,hx]
      have sg:=Ziv gf.m
      have cn: ∀(o:List Q07),Q13 (Q2f yr).A0=false→o=(Q0o (Q2f yr).A0 (Q2f yr).A7).1→decide (40*(yo.length+o.length)≤140737488355328)=true:=λo hs ho=>decide_eq_true (by
        obtain⟨_,_,a3⟩:=Qnr gf.m hs gf.clock
        rw[ho];omega)
      have sp:=(stepV_pre gf.m.v gf.m.len (clock:=(Q2f yr).A7) gf.clock).1
      have ms:=λhs=>gf.m.step hs (Q2f yr).A7
      have rs:=Zk9 gf.m.v
      have rp:Q29 (Q2f yr).A0:=(Tree.pp (reads_w0 gf.m.s)).1
      have ip:Q34 (Q2f yr).A0:=midle_w gf.m.ok.target.2
      have lw:=λe=>rlog_w e (r:=Q2f yr) (by omega)
      have tr:=Z8t (r:=Q2f yr)
      have tn:=tick_no (r:=Q2f yr)
      have fin: ∀f:Q01,f=Q2f yr→Qa1 P (k+yi) yr→f=f:=λ_ _ _=>rfl
      refine w_lv λx3 e3=>w_br (λhd=>Q0e (Zgo y2.m U_0 (by omega)) λx4 e4=> ?_) (λhd=> ?_)
      · have e5:x4=Q2f yr:=by
          have e3:x3=Qd3 yr.A0.B0 yr.A7:=e3
          rw[e4];unfold Q2f;rw[←e3,hd];rfl
        rw[←e5]at nxt stk sg cn sp ms rs rp ip lw tr tn
        refine w_br (λhh=>stk _ (by rw[sg,hh];rfl) rfl) λhh=>w_an ip (w_lv λx5 i5=>w_br (λhi=>stk _ (by rw[sg,hh,←i5,hi];rfl) rfl) λhi=>w_br (λhct=>stk _ (by rw[sg,hh,←i5,hi,hct];rfl) rfl) λhct=> ?_)
        have hs:Q13 x4.A0=false:=by rw[sg,hh,←i5,hi,hct];rfl
        refine w_an rp (w_lv λx6 e6=>w_br (λhr=>Q0e (lw _) λx7 e7=> ?_) (λhr=>w_an sp (w_lv λx9 e9=>w_cn (cn _ hs (by rw[e9,ms hs])) (w_nx ⟨nxt _ _ hs (by rw[e9,ms hs,tn (by rw[←rs,←e6,hr])]) (by rw[e9,ms hs]),mu _⟩))))
        subst e7
        refine w_an sp (w_lv λx8 e8=>w_cn (cn _ hs (by rw[e8];exact congrArg Prod.snd (ms hs))) (w_nx ⟨nxt _ _ hs ?_ ?_,mu _⟩))
        · rw[tr (by rw[←rs,←e6,hr]),e8]
          exact congrArg (λq:Q00×List Q07=>({A0:=q.1,A7:=IntKind.wrap .u32 (x4.A7+1),C4:=x4.C4++[{At:=x4.A0.A2,D3:={B5:=1,N:=x4.A7,C6:=[]}}],A4:=x4.A4}:Q01)) (ms hs)
        · rw[e8];exact congrArg (λq:Q00×List Q07=>yo++q.2) (ms hs)
      · have e5:yr=Q2f yr:=by
          have e3:x3=Qd3 yr.A0.B0 yr.A7:=e3
          unfold Q2f;rw[←e3,hd];rfl
        rw[←e5]at nxt stk sg cn sp ms rs rp ip lw tr tn
        refine w_br (λhh=>stk _ (by rw[sg,hh];rfl) rfl) λhh=>w_an ip (w_lv λx5 i5=>w_br (λhi=>stk _ (by rw[sg,hh,←i5,hi];rfl) rfl) λhi=>w_br (λhct=>stk _ (by rw[sg,hh,←i5,hi,hct];rfl) rfl) λhct=> ?_)
        have hs:Q13 yr.A0=false:=by rw[sg,hh,←i5,hi,hct];rfl
        refine w_an rp (w_lv λx6 e6=>w_br (λhr=>Q0e (lw _) λx7 e7=> ?_) (λhr=>w_an sp (w_lv λx9 e9=>w_cn (cn _ hs (by rw[e9,ms hs])) (w_nx ⟨nxt _ _ hs (by rw[e9,ms hs,tn (by rw[←rs,←e6,hr])]) (by rw[e9,ms hs]),mu _⟩))))
        subst e7
        refine w_an sp (w_lv λx8 e8=>w_cn (cn _ hs (by rw[e8];exact congrArg Prod.snd (ms hs))) (w_nx ⟨nxt _ _ hs ?_ ?_,mu _⟩))
        · rw[tr (by rw[←rs,←e6,hr]),e8]
          exact congrArg (λq:Q00×List Q07=>({A0:=q.1,A7:=IntKind.wrap .u32 (yr.A7+1),C4:=yr.C4++[{At:=yr.A0.A2,D3:={B5:=1,N:=yr.A7,C6:=[]}}],A4:=yr.A4}:Q01)) (ms hs)
        · rw[e8];exact congrArg (λq:Q00×List Q07=>yo++q.2) (ms hs)
    · have hb: ¬yi<Q0l steps:=of_decide_eq_false hb
      show(yr,yo)=_
      rw[←y5,show(Q0l steps-yi).toNat=0 by omega];rfl
end Go.Proofs.YtpcbkbalabgnlaaGreat
namespace Go.Proofs.YtpcbkbalabgnlaaGreat
open Go Go.GD
attribute [local irreducible] Q1v
set_option maxRecDepth 100000
def Zge:Q09:={B5:=2,N:=0,C6:=[]}
theorem Zb1(r:Q01):Q2f r=bif Qd3 r.A0.B0 r.A7 then Q2p r Zge else r:=rfl
theorem Zcr{n:Nat}{r:Q01}{o:List Q07}(hs:Q13 (Q2f r).A0=true):recF (n+1) r o=(Q2f r,o):=by
 conv=>lhs;unfold recF
 rw[hs];rfl
theorem Zdq{n:Nat}{r:Q01}{o:List Q07}(hs:Q13 (Q2f r).A0=false):recF (n+1) r o=recF n (Qmh (Q2f r)) (o++(Q0o (Q2f r).A0 (Q2f r).A7).1):=by
 conv=>lhs;unfold recF
 rw[hs];rfl
theorem Zdi{r:Q01}(h:Q7e r.A0=true)(steps clock:Int):advF r steps clock=recF (Q0l steps).toNat (noQ (r.A4.foldl Q2p {A0:=r.A0,A7:=if clock>r.A7 then clock else r.A7,C4:=r.C4,A4:=r.A4})) []:=by
 unfold advF;rw[h];rfl
theorem Zim{s:Int}(h0:0≤s)(h1:s≤4000):Q0l s=s:=by
 have:Q0l s=(if 4000<(if 0>s then 0 else s) then 4000 else(if 0>s then 0 else s)):=rfl
 rw[this,if_neg (show¬0>s by omega),if_neg (show¬4000<s by omega)]
end Go.Proofs.YtpcbkbalabgnlaaGreat
namespace Go.Proofs.YtpcbkbalabgnlaaGreat
open Go Go.GD
attribute [local irreducible] Q1v
set_option maxRecDepth 100000
structure Qif(P:Nat)(k:Int)(r:Q01):Prop where
 g:Qa1 P k r
 q:okQ r.A4
 l:(r.C4.length:Int)≤3*k
theorem recF_log(n:Nat): ∀(r:Q01) (o:List Q07),(recF n r o).1.C4.length≤r.C4.length+2*n:=by
 induction n with
 |zero=>intro r o;exact Nat.le_refl _
 | succ n ih=>
   intro r o
   have f:=Z8x r
   cases hs:Q13 (Q2f r).A0
   · rw[Zdq hs]
     have:=ih (Qmh (Q2f r)) (o++(Q0o (Q2f r).A0 (Q2f r).A7).1)
     have:=Zag (Q2f r)
     omega
   · rw[Zcr hs]
     show(Q2f r).C4.length≤_
     omega
theorem foldl_log(l:List Q09): ∀r:Q01,(l.foldl Q2p r).C4.length≤r.C4.length+l.length:=by
 induction l with
 |nil=>intro r;exact Nat.le_refl _
 | cons e l ih=>
   intro r
   have:=ih (Q2p r e)
   have:=Qtb r e
   rw[List.foldl_cons,List.length_cons];omega
theorem advF_log(r:Q01)(steps clock:Int):(advF r steps clock).1.C4.length≤r.C4.length+r.A4.length+8000:=by
 obtain⟨l0,l1⟩:=Qnb steps
 cases hm:Q7e r.A0
 · unfold advF;rw[hm]
   show r.C4.length≤_
   omega
 · rw[Zdi hm]
   have a:=recF_log (Q0l steps).toNat (noQ (r.A4.foldl Q2p {A0:=r.A0,A7:=if clock>r.A7 then clock else r.A7,C4:=r.C4,A4:=r.A4})) []
   have b:=foldl_log r.A4 {A0:=r.A0,A7:=if clock>r.A7 then clock else r.A7,C4:=r.C4,A4:=r.A4}
   have b:(noQ (r.A4.foldl Q2p {A0:=r.A0,A7:=if clock>r.A7 then clock else r.A7,C4:=r.C4,A4:=r.A4})).C4.length≤r.C4.length+r.A4.length:=b
   omega
theorem recF_outs{P:Nat}(n:Nat): ∀{k:Int} {r:Q01} (o:List Q07),Qa1 P k r→(recF n r o).2.length≤o.length+n:=by
 induction n with
 |zero=>intro k r o _;exact Nat.le_refl _
 | succ n ih=>
   intro k r o h
   obtain⟨f,_⟩:=Qo h
   cases hs:Q13 (Q2f r).A0
   · rw[Zdq hs]
     have:=ih (o++(Q0o (Q2f r).A0 (Q2f r).A7).1) (Qnl f hs)
     obtain⟨_,_,a3⟩:=Qnr f.m hs f.clock
     rw[List.length_append]at this
     omega
   · rw[Zcr hs]
     show o.length≤_
     omega
theorem Zig{P:Nat}{k:Int}{r:Q01}(h:Qa1 P k r)(hq:okQ r.A4){clock:Int}(hc:U clock):Qa1 P k (noQ (r.A4.foldl Q2p {A0:=r.A0,A7:=if clock>r.A7 then clock else r.A7,C4:=r.C4,A4:=r.A4})):=by
 have hcl:U (if clock>r.A7 then clock else r.A7):=by split<;>first|exact hc|exact h.clock
 obtain⟨a,b⟩:=Z45 r.A4 (r:={A0:=r.A0,A7:=if clock>r.A7 then clock else r.A7,C4:=r.C4,A4:=r.A4}) ⟨h.m,hcl,h.cnt⟩ hq.2
 exact⟨a.m,a.clock,a.cnt⟩
theorem advF_outs{P:Nat}{k:Int}{r:Q01}(h:Qa1 P k r)(hq:okQ r.A4)(steps:Int){clock:Int}(hc:U clock):(advF r steps clock).2.length≤4000:=by
 obtain⟨l0,l1⟩:=Qnb steps
 rw[Zdi h.m.rmay]
 have:=recF_outs (Q0l steps).toNat [] (Zig h hq hc)
 have e:([]:List Q07).length=0:=rfl
 omega
theorem advP{P:Nat}{k:Int}{r:Q01}(h:Qif P k r)(steps:Int){clock:Int}(hc:U clock):Qif P (k+4000) (advF r steps clock).1:=by
 obtain⟨a,b⟩:=advF_keep h.g h.q steps hc
 have c:=advF_log r steps clock
 have d:=h.q.1
 have e:=h.l
 exact⟨a,b,by omega⟩
theorem arriveP{P:Nat}{k:Int}{r:Q01}(h:Qif P k r){e:Q09}(he:U e.N):Qif P k (Q2w r e).1:=by
 obtain⟨a,b⟩:=Zde h.g h.q he
 refine⟨a,b,?_⟩
 have:=h.l
 rw[Qht]
 cases Q37 e<;>cases e.B5==1<;>cases decide ((r.A4.length:Int)≥16)<;>exact this
theorem Qif.more{P:Nat}{k j:Int}{r:Q01}(h:Qif P k r)(hj:k≤j):Qif P j r:=
 ⟨⟨h.g.m,h.g.clock,by have:=h.g.cnt;omega⟩,h.q,by have:=h.l;omega⟩
theorem more_P{P:Nat}{k:Int}{A:Q01×Bool}(h:Qif P k A.1):Qif P (k+4000) (A.1,([]:List Q07)).1:=h.more (by omega)
theorem mstepP{P:Nat}{k:Int}{r:Q01}(h:Qif P k r)(n:Int):Qif P (k+4000) (Q7x r n).1:=by
 cases hm:Int.tmod (Q4x n 3) 3==0
 · rw[Z57 hm,Z6n _ _ _ (by have:=h.q.1;omega)]
   exact advP h _ (Q0p _)
 · rw[Z79 hm]
   exact more_P (arriveP h (Zd0 n))
theorem fst_mk{α β:Type}(a:α)(b:β):(a,b).1=a:=rfl
theorem Zbv(s:Q01×List Q07)(n:Int):(Qpq s n).1=(Q7x s.1 n).1:=(congrArg Prod.fst (Qyy s n)).trans (fst_mk _ _)
theorem newP{P:Nat}{m:Q00}(h:good P m)(hc:m.A2≤87):Qif P 87 {A0:=m,A7:=0,C4:=[],A4:=[]}:=
 ⟨⟨h,U_0,hc⟩,⟨Nat.zero_le _,λq hq=>by cases hq⟩,by show((0:Nat):Int)≤_;omega⟩
theorem few_lens{l acts:List Int}{x0:Bool}(hx0:x0=Qqg l acts)(hb:(!x0)=false):l.length≤40∧acts.length≤30:=few_two hx0 hb
theorem rnew_w{m:Q00}(h:m.Mem.length≤1024):(Q9u m).w (λx=>x={A0:=m,A7:=0,C4:=[],A4:=[]}):=by
 unfold Q9u
 refine w_an (Quc (r:=⟨m,0,[],[]⟩) h (Nat.zero_le _) (Nat.zero_le _)) (w_lv λx hx=> ?_)
 show x=_
 rw[hx,Qy]
theorem rarrive_w{r:Q01}(hm:r.A0.Mem.length≤1024)(hl:r.C4.length≤1000000)(hq:r.A4.length≤1000000){e:Q09}(he:U e.N):(Q6 r e).w (λx=>x=Q2w r e):=by
 have hv:=Zj3 he
 unfold Q6
 refine w_an (Quc hm hl hq) (w_lv λx0 h0=>w_lv λx1 h1=> ?_)
 rw[Qy]at h0
 subst h0
 rw[h1,hv]
 refine w_br (λhb=> ?_) λhb=>w_br (λhk=> ?_) λhk=>w_br (λhl=> ?_) λhl=>w_cn (decide_eq_true (by omega)) ?_
 · show(x0,false)=_;rw[Qht,hb];rfl
 · show(x0,false)=_;rw[Qht,hb,hk];rfl
 · show(x0,false)=_;rw[Qht,hb,hk,hl];rfl
 · show(_,true)=_;rw[Qht,hb,hk,hl];rfl
theorem advP_w{P:Nat}{k:Int}{r:Q01}(h:Qif P k r)(hk:k≤250000)(steps:Int){clock:Int}(hc:U clock):(Q3y r steps clock).w (λx=>x=advF r steps clock∧Qif P (k+4000) x.1∧x.2.length≤4000):=
 Tree.mono _ (λx hx=>by rw[hx];exact⟨rfl,advP h steps hc,advF_outs h.g h.q steps hc⟩) (radv_w h.g steps hc (by have:=h.l;omega) (by have:=h.q.1;omega) h.q.2)
theorem aw21{W:Bool→Prop}(h:W true):(Tree.an Q7s (.lv Qe1 λx=> .lf x)).w W:=w_an awake_pre (w_lv λx e=>by show W x;rw[e,Zhq];exact h)
end Go.Proofs.YtpcbkbalabgnlaaGreat
namespace Go.Proofs.YtpcbkbalabgnlaaGreat
open Go Go.GD
attribute [local irreducible] Q1v
set_option maxRecDepth 100000
theorem and255i(a:Int):0≤iand .i64 a 255∧iand .i64 a 255≤255:=by
 unfold iand
 rw[IntKind.wrap_i64]
 have:(BitVec.ofInt IntKind.i64.bits a&&&BitVec.ofInt IntKind.i64.bits 255).toNat≤255:=by
   show(BitVec.ofInt 64 a&&&BitVec.ofInt 64 255).toNat≤255
   rw[BitVec.toNat_and]
   exact Nat.le_trans Nat.and_le_right (by decide)
 omega
theorem Zcp(a:Int):0≤IntKind.wrap .u32 (iand .i64 a 255)∧IntKind.wrap .u32 (iand .i64 a 255)≤255:=by
 have:=and255i a
 rw[IntKind.wrap_u32];omega
theorem Zhe(n k:Int)(h0:0≤k)(h1:k≤1000):(Qq9 n k).length=k.toNat:=by
 show Tree.V (Qdp n k) (λs=>s.length=k.toNat)
 unfold Qdp
 refine v_lp (inv:=λv:Int×List Int=>0≤v.1∧v.1≤k∧v.2.length=v.1.toNat) (μ:=Qd9 n k) ⟨Int.le_refl 0,h0,rfl⟩ (Nat.lt_succ_self _) λv ⟨a,b,c⟩=> ?_
 refine v_br (λhb=> ?_) (λhb=> ?_)
 · have hb:=of_decide_eq_true hb
   have e:IntKind.i64.wrap (v.1+1)=v.1+1:=by rw[IntKind.wrap_i64];omega
   refine v_lv λx _=>v_cn (v_nx ?_)
   show(0≤IntKind.i64.wrap (v.1+1)∧IntKind.i64.wrap (v.1+1)≤k∧(v.2++[_]).length=(IntKind.i64.wrap (v.1+1)).toNat)∧(k-IntKind.i64.wrap (v.1+1)).toNat<(k-v.1).toNat
   rw[e,List.length_append,List.length_singleton]
   exact⟨⟨by omega,by omega,by omega⟩,by omega⟩
 · have hb:=of_decide_eq_false hb
   refine v_lf ?_
   show(bytesOf v.2).length=_
   unfold bytesOf
   rw[List.length_map,c];omega
theorem mix_pos(n k:Int):0≤Q4x n k:=by
 show Tree.V (Qnt n k) (λx=>0≤x)
 unfold Qnt
 refine v_lv λx hx=>v_lf ?_
 have r:0≤x.1∧x.1<18446744073709551616:=by
   rw[hx]
   show 0≤IntKind.wrap .u64 _∧IntKind.wrap .u64 _<_
   rw[IntKind.wrap_u64];omega
 show 0≤IntKind.wrap .i64 (x.1.fdiv 2)
 rw[Int.fdiv_eq_ediv_of_nonneg _ (by decide),IntKind.wrap_i64];omega
def evOK(e:Q09):Prop:=Q37 e=true∧e.B5≠1
theorem Zjz:evOK Zge:=⟨rfl,by decide⟩
theorem Z8y{n:Int}(h:n≤255):Q37 {B5:=3,N:=n,C6:=[]}=true:=by
 show(bif decide (n≤255) then decide (([]:List UInt8)=[]) else false)=true
 rw[decide_eq_true h];rfl
theorem Zi4{s:List UInt8}(h:s.length=128):Q37 {B5:=4,N:=1,C6:=s}=true:=by
 show(bif decide (s=[]) then true else(s.length:Int)==128)=true
 rw[h];cases decide (s=[])<;>rfl
theorem valid_net{s:List UInt8}(h1:1≤s.length)(h2:s.length≤128):Q37 {B5:=5,N:=0,C6:=s}=true:=by
 show(bif decide ((s.length:Int)≥1) then decide ((s.length:Int)≤128) else false)=true
 rw[decide_eq_true (show(s.length:Int)≥1 by omega),decide_eq_true (show(s.length:Int)≤128 by omega)];rfl
theorem event_ok(n:Int):evOK (Q8y n):=by
 show Tree.V (Q9v n) evOK
 unfold Q9v
 refine v_lv λx hx=> ?_
 have x0:0≤x:=by rw[hx];exact mix_pos n 2
 have i2: ∀k:Int,k≠1→ ¬k=1:=λ_ h=>h
 refine v_br (λ_=>v_lf ⟨rfl,by decide⟩) λ_=>v_br (λ_=>v_lf ⟨Z8y (Zcp _).2,by show(3:Int)≠1;decide⟩) λ_=>v_br (λ_=>v_lf ⟨Z8y (Zcp _).2,by show(3:Int)≠1;decide⟩) λ_=>v_br (λ_=>v_lf ⟨rfl,by decide⟩) λ_=>v_br (λ_=>v_an (v_lv λy hy=>v_lf ⟨Zi4 ?_,by show(4:Int)≠1;decide⟩)) λ_=>v_br (λ_=>v_an (v_lv λy hy=>v_lf ⟨?_,by show(5:Int)≠1;decide⟩)) λ_=>v_br (λ_=>v_lf ⟨rfl,by decide⟩) λ_=>v_lf ⟨rfl,by show(6:Int)≠1;decide⟩
 · rw[hy,Zhe _ _ (by decide) (by decide)];rfl
 · have s0:0≤ishr .i64 x 8:=by
     unfold ishr
     exact Int.fdiv_nonneg x0 (Int.le_of_lt (Int.pow_pos (by decide)))
   have t1:=Int.tmod_lt_of_pos (ishr .i64 x 8) (b:=40) (by decide)
   have t0:=Int.tmod_nonneg 40 s0
   have e:IntKind.i64.wrap (1+Int.tmod (ishr .i64 x 8) 40)=1+Int.tmod (ishr .i64 x 8) 40:=by rw[IntKind.wrap_i64];omega
   rw[e]at hy
   have:=Zhe x (1+Int.tmod (ishr .i64 x 8) 40) (by omega) (by omega)
   rw[←hy]at this
   exact valid_net (by omega) (by omega)
structure Qkf(c0:Int)(r:Q01):Prop where
 pw:r.C4.Pairwise λa b=>a.At≤b.At∧(a.D3.B5=1→a.At<b.At∧(b.D3.B5=1→a.D3.N≤b.D3.N))
 all: ∀e∈r.C4,c0≤e.At∧e.At≤r.A0.A2∧Q37 e.D3=true∧(e.D3.B5=1→e.At<r.A0.A2∧e.D3.N<r.A7∧0≤e.D3.N)
 q: ∀e∈r.A4,evOK e
 c:c0≤r.A0.A2
theorem Qkf.with{c0:Int}{r x:Q01}(h:Qkf c0 r)(hl:x.C4=r.C4)(hm:x.A0.A2=r.A0.A2)(hc:r.A7≤x.A7)(hq: ∀e∈x.A4,evOK e):Qkf c0 x:=
 ⟨by rw[hl];exact h.pw,by
   rw[hl,hm]
   exact λe he=>⟨(h.all e he).1,(h.all e he).2.1,(h.all e he).2.2.1,λk=>⟨((h.all e he).2.2.2 k).1,by have:=((h.all e he).2.2.2 k).2.1;omega,((h.all e he).2.2.2 k).2.2⟩⟩,hq,by rw[hm];exact h.c⟩
theorem Zbw{P:Nat}{k c0:Int}{r:Q01}(h:Qkf c0 r)(g:Qa1 P k r){e:Q09}(he:evOK e)(hu:U e.N):Qkf c0 (Q2p r e):=by
  obtain⟨a,b⟩:=Zgj g.m hu
  unfold Q2p
  cases(Q0w r.A0 e).1
  · exact h.with rfl b (Int.le_refl _) h.q
  · show Qkf c0 {A0:=(Q0w r.A0 e).2,A7:=r.A7,C4:=r.C4++[{At:=(Q0w r.A0 e).2.A2,D3:=e}],A4:=r.A4}
    rw[b]
    refine⟨List.pairwise_append.2 ⟨h.pw,List.pairwise_singleton _ _,λx hx y hy=> ?_⟩,λx hx=> ?_,h.q,by show c0≤(Q0w r.A0 e).2.A2;rw[b];exact h.c⟩
    · rw[List.mem_singleton.1 hy]
      obtain⟨p1,p2,p3,p4⟩:=h.all x hx
      exact⟨p2,λkx=>⟨(p4 kx).1,λke=>absurd ke he.2⟩⟩
    · show c0≤x.At∧x.At≤(Q0w r.A0 e).2.A2∧_∧(_→x.At<(Q0w r.A0 e).2.A2∧_)
      rw[b]
      rcases List.mem_append.1 hx with hx|hx
      · exact h.all x hx
      · rw[List.mem_singleton.1 hx]
        exact⟨h.c,Int.le_refl _,he.1,λke=>absurd ke he.2⟩
theorem fire_log{P:Nat}{k c0:Int}{r:Q01}(h:Qkf c0 r)(g:Qa1 P k r):Qkf c0 (Q2f r):=by
 rw[Zb1]
 cases Qd3 r.A0.B0 r.A7
 · exact h
 · exact Zbw h g Zjz U_0
theorem tick_log{P:Nat}{k c0:Int}{r:Q01}(h:Qkf c0 r)(g:Qa1 P k r)(hs:Q13 r.A0=false)(hc:r.A7<4294967295):Qkf c0 (Qmh r)∧(Qmh r).A7=r.A7+1:=by
  obtain⟨_,b,_⟩:=Qnr g.m hs g.clock
  have c0':=g.clock.1
  have ec:IntKind.wrap .u32 (r.A7+1)=r.A7+1:=by rw[IntKind.wrap_u32];omega
  have old: ∀x∈r.C4,c0≤x.At∧x.At≤r.A0.A2+1∧Q37 x.D3=true∧(x.D3.B5=1→x.At<r.A0.A2+1∧x.D3.N<r.A7+1∧0≤x.D3.N):=λx hx=>by
    obtain⟨p1,p2,p3,p4⟩:=h.all x hx
    exact⟨p1,by omega,p3,λkx=>⟨by have:=(p4 kx).1;omega,by have:=(p4 kx).2.1;omega,(p4 kx).2.2⟩⟩
  have hcc:=h.c
  cases hr:Q3n r.A0
  · rw[tick_no hr,ec]
    refine⟨⟨h.pw,?_,h.q,by show c0≤(Q0o r.A0 r.A7).2.A2;omega⟩,rfl⟩
    show∀x∈r.C4,c0≤x.At∧x.At≤(Q0o r.A0 r.A7).2.A2∧_∧(_→x.At<(Q0o r.A0 r.A7).2.A2∧_)
    rw[b];exact old
  · rw [Z8t hr,ec]
    refine⟨⟨List.pairwise_append.2 ⟨h.pw,List.pairwise_singleton _ _,λx hx y hy=> ?_⟩,?_,h.q,by show c0≤(Q0o r.A0 r.A7).2.A2;omega⟩,rfl⟩
    · rw[List.mem_singleton.1 hy]
      obtain⟨p1,p2,p3,p4⟩:=h.all x hx
      exact⟨p2,λkx=>⟨(p4 kx).1,λ_=>Int.le_of_lt (p4 kx).2.1⟩⟩
    · show∀x∈r.C4++[_],c0≤x.At∧x.At≤(Q0o r.A0 r.A7).2.A2∧_∧(_→x.At<(Q0o r.A0 r.A7).2.A2∧_)
      rw[b]
      intro x hx
      rcases List.mem_append.1 hx with hx|hx
      · exact old x hx
      · rw[List.mem_singleton.1 hx]
        exact⟨h.c,by show r.A0.A2≤_;omega,rfl,λ_=>⟨by show r.A0.A2<_;omega,by show r.A7<r.A7+1;omega,c0'⟩⟩
theorem Zdn(r:Q01):(Q2f r).A7=r.A7:=by
 rw[Zb1]
 cases Qd3 r.A0.B0 r.A7
 · rfl
 · show(Q2p r Zge).A7=r.A7
   unfold Q2p;cases(Q0w r.A0 Zge).1<;>rfl
theorem Z8f(r:Q01)(e:Q09):(Q2p r e).A7=r.A7:=by
 unfold Q2p;cases(Q0w r.A0 e).1<;>rfl
theorem rec_log{P:Nat}{c0:Int}(n:Nat): ∀{k B:Int} {r:Q01} {o:List Q07},Qkf c0 r→Qa1 P k r→r.A7≤B→B+n<4294967295→Qkf c0 (recF n r o).1∧(recF n r o).1.A7≤B+n:=by
 induction n with
 |zero=>intro k B r o h g hb _;exact⟨h,by show r.A7≤B+(0:Nat);omega⟩
 | succ n ih=>
   intro k B r o h g hb hn
   have f:=fire_log h g
   obtain⟨gf,_⟩:=Qo g
   have fc:=Zdn r
   cases hs:Q13 (Q2f r).A0
   · rw[Zdq hs]
     obtain⟨t1,t2⟩:=tick_log f gf hs (by omega)
     have:=ih (o:=o++(Q0o (Q2f r).A0 (Q2f r).A7).1) t1 (Qnl gf hs) (B:=B+1) (by omega) (by omega)
     exact⟨this.1,by have:=this.2;omega⟩
   · rw[Zcr hs]
     exact⟨f,by show(Q2f r).A7≤_;omega⟩
theorem fold_log{P:Nat}{k c0:Int}(l:List Q09): ∀{r:Q01},Qkf c0 r→Qa1 P k r→(∀e∈l,evOK e∧U e.N)→Qkf c0 (l.foldl Q2p r)∧(l.foldl Q2p r).A7=r.A7∧Qa1 P k (l.foldl Q2p r):=by
 induction l with
 |nil=>intro r h g _;exact⟨h,rfl,g⟩
 | cons e l ih=>
   intro r h g hu
   obtain⟨a,b⟩:=hu e (by simp)
   obtain⟨p,q,s⟩:=ih (Zbw h g a b) (Ql6 g b).1 (λq hq=>hu q (by simp [hq]))
   exact⟨p,q.trans (Z8f r e),s⟩
theorem adv_log{P:Nat}{k c0 B:Int}{r:Q01}(h:Qkf c0 r)(g:Qa1 P k r)(hq:okQ r.A4){steps clock:Int}(hb:r.A7≤B)(hc0:0≤clock)(hc:clock≤B)(hs:0≤steps∧steps<12)(hB:B<1000000000):Qkf c0 (advF r steps clock).1∧(advF r steps clock).1.A7≤B+12:=by
 rw[Zdi g.m.rmay,Zim hs.1 (by omega)]
 have m0:r.A7≤(if clock>r.A7 then clock else r.A7)∧(if clock>r.A7 then clock else r.A7)≤B:=by split<;>omega
 generalize(if clock>r.A7 then clock else r.A7)=cl at*
 have u:U cl:=by have:=g.clock;unfold U at*;omega
 obtain⟨a,b,c⟩:=fold_log r.A4 (r:={A0:=r.A0,A7:=cl,C4:=r.C4,A4:=r.A4}) (h.with rfl rfl m0.1 h.q) ⟨g.m,u,g.cnt⟩ (λe he=>⟨h.q e he,hq.2 e he⟩)
 have b:(r.A4.foldl Q2p {A0:=r.A0,A7:=cl,C4:=r.C4,A4:=r.A4}).A7=cl:=b
 generalize r.A4.foldl Q2p {A0:=r.A0,A7:=cl,C4:=r.C4,A4:=r.A4}=y at*
 have:=rec_log steps.toNat (o:=[]) (r:=noQ y) (B:=B) (a.with rfl rfl (Int.le_refl _) (λe he=>by cases he)) (k:=k) ⟨c.m,c.clock,c.cnt⟩ (by show y.A7≤B;omega) (by omega)
 exact⟨this.1,by have:=this.2;omega⟩
theorem arr_log{c0:Int}{r:Q01}(h:Qkf c0 r){e:Q09}(he:evOK e):Qkf c0 (Q2w r e).1∧(Q2w r e).1.A7=r.A7:=by
  rw[Qht]
  cases Q37 e
  · exact⟨h,rfl⟩
  · cases e.B5==1
    · cases decide ((r.A4.length:Int)≥16)
      · refine⟨h.with rfl rfl (Int.le_refl _) λq hq=> ?_,rfl⟩
        have hq:q∈r.A4++[e]:=hq
        rcases List.mem_append.1 hq with hq|hq
        · exact h.q q hq
        · rw[List.mem_singleton.1 hq];exact he
      · exact⟨h,rfl⟩
    · exact⟨h,rfl⟩
structure logP(c0 k B:Int)(r:Q01):Prop where
 p:Qif 8 k r
 l:Qkf c0 r
 b:r.A7≤B
theorem arr_logP{c0 k B:Int}{A:Q01×Bool}(p:Qif 8 k A.1)(a:Qkf c0 A.1)(b:A.1.A7≤B):logP c0 k B (A.1,([]:List Q07)).1:=⟨p,a,b⟩
theorem Zi5{c0 k B:Int}{r:Q01}(h:logP c0 k B r)(h255:255≤B)(hB:B<1000000000)(n:Int):logP c0 (k+4000) (B+12) (Q7x r n).1:=by
 have p:=mstepP h.p n
 have hb:=h.b
 cases hm:Int.tmod (Q4x n 3) 3==0
 · have rr:=Qxc (n:=ishr .i64 (Q4x n 3) 4) (k:=12) (by decide) (by decide)
   have w:=Zcp (ishr .i64 (Q4x n 3) 12)
   rw[Z57 hm,Z6n _ _ _ (by have:=h.p.q.1;omega)]at p⊢
   obtain⟨a,b⟩:=adv_log h.l h.p.g h.p.q (steps:=Q46 (ishr .i64 (Q4x n 3) 4) 12) (clock:=IntKind.wrap .u32 (iand .i64 (ishr .i64 (Q4x n 3) 12) 255)) hb w.1 (by omega) rr hB
   exact⟨p,a,b⟩
 · have hb':r.A7≤B+12:=by omega
   obtain⟨a,b⟩:=arr_log h.l (event_ok n)
   rw[Z79 hm]
   exact arr_logP (A:=Q2w r (Q8y n)) ((arriveP h.p (Zd0 n)).more (Int.le_add_of_nonneg_right (by decide))) a (Int.le_trans (Int.le_of_eq b) hb')
theorem play_logP{c0:Int}(l:List Int): ∀{k B:Int} {s:Q01×List Q07},logP c0 k B s.1→255≤B→B+12*l.length<1000000000→logP c0 (k+4000*l.length) (B+12*l.length) (l.foldl Qpq s).1:=by
 induction l with
 |nil=>intro k B s h _ _;simpa using h
 | cons n l ih=>
   intro k B s h h1 h2
   have e:((n::l).length:Int)=l.length+1:=by rw[List.length_cons];omega
   rw[e]at h2⊢
   have a:=Zi5 h h1 (by omega) n
   rw[←Zbv]at a
   have:=ih a (by omega) (by omega)
   rw[List.foldl_cons,show k+4000*((l.length:Int)+1)=k+4000+4000*l.length by omega,show B+12*((l.length:Int)+1)=B+12+12*l.length by omega]
   exact this
theorem new_logP{m:Q00}(h:good 8 m)(hc:m.A2≤87):logP m.A2 87 255 {A0:=m,A7:=0,C4:=[],A4:=[]}:=
 ⟨newP h hc,⟨List.Pairwise.nil,(λe he=>by cases he),(λe he=>by cases he),Int.le_refl _⟩,by show(0:Int)≤255;decide⟩
theorem playF_ev0{r:Q01}{o:List Q07}{n:Int}{A:Q01×Bool}(e2:Q7x r n=(A.1,[])):Qpq (r,o) n=(A.1,o):=by
 rw[Qyy]
 show((Q7x r n).1,o++(Q7x r n).2)=(A.1,o)
 rw[e2]
 exact Prod.ext rfl (List.append_nil o)
theorem playF_ev{r:Q01}{o:List Q07}{n:Int}(h:(Int.tmod (Q4x n 3) 3==0)=true):Qpq (r,o) n=((Q2w r (Q8y n)).1,o):=playF_ev0 (A:=Q2w r (Q8y n)) (Z79 h)
theorem played_w{m:Q00}(h:good 8 m)(hc:m.A2≤87)(acts:List Int)(h30:acts.length≤30):(Qbf m acts).w (λx=>x=acts.foldl Qpq ({A0:=m,A7:=0,C4:=[],A4:=[]},[])∧Qif 8 121000 x.1∧(x.2.length:Int)≤4000*acts.length):=by
 generalize hs0:(({A0:=m,A7:=0,C4:=[],A4:=[]},[]):Q01×List Q07)=s0
 have p0:Qif 8 87 s0.1:=by rw[←hs0];exact newP h hc
 have o0:s0.2=[]:=by rw[←hs0]
 unfold Qbf
 refine Q0e (rnew_w h.len) λx0 e0=> ?_
 have e0:(x0,([]:List Q07))=s0:=by rw[←hs0,e0]
 refine w_lp (inv:=λv:Int×Q01×List Q07=>0≤v.1∧v.1≤acts.length∧Qif 8 (87+4000*v.1) v.2.1∧(v.2.2.length:Int)≤4000*v.1∧(acts.drop v.1.toNat).foldl Qpq v.2=acts.foldl Qpq s0) (μ:=Q94 m acts) ⟨Int.le_refl 0,by show(0:Int)≤_;omega,by show Qif 8 (87+4000*0) x0;rw[←e0]at p0;exact p0,Int.le_refl 0,by show acts.foldl Qpq (x0,[])=_;rw[e0]⟩ (Nat.lt_succ_self _) λv ⟨a1,a2,a3,a4,a5⟩=> ?_
 obtain⟨i,r,o⟩:=v
 have a1:0≤i:=a1
 have a2:i≤acts.length:=a2
 have a3:Qif 8 (87+4000*i) r:=a3
 have a4:(o.length:Int)≤4000*i:=a4
 have a5:(acts.drop i.toNat).foldl Qpq (r,o)=acts.foldl Qpq s0:=a5
 refine w_br (λhb=> ?_) (λhb=> ?_)
 · have hb:i<acts.length:=of_decide_eq_true hb
   have ew:IntKind.i64.wrap (i+1)=i+1:=by rw[IntKind.wrap_i64];omega
   have hlt:i.toNat<acts.length:=by omega
   have ed:acts.getD i.toNat 0=acts[i.toNat]:=by rw[List.getD_eq_getElem?_getD,List.getElem?_eq_getElem hlt];rfl
   rw[List.drop_eq_getElem_cons hlt,List.foldl_cons,←ed]at a5
   have cn:(Nat.beq 1 1&&Nat.blt 0 1&&decide (0≤i∧i<((acts.length:Nat):Int)))=true:=by simp [Nat.blt];omega
   have mu: ∀q,Q94 m acts (IntKind.wrap .i64 (i+1),q)<Q94 m acts (i,r,o):=λq=>by
     show(acts.length-IntKind.wrap .i64 (i+1)).toNat<(acts.length-i).toNat
     rw[ew];omega
   have nxt: ∀(x:Q01) (p:List Q07),(x,p)=Qpq (r,o) (acts.getD i.toNat 0)→p.length≤o.length+4000→(0≤IntKind.wrap .i64 (i+1)∧IntKind.wrap .i64 (i+1)≤acts.length∧Qif 8 (87+4000*IntKind.wrap .i64 (i+1)) x∧(p.length:Int)≤4000*IntKind.wrap .i64 (i+1)∧(acts.drop (IntKind.wrap .i64 (i+1)).toNat).foldl Qpq (x,p)=acts.foldl Qpq s0):=λx p hx hp=>by
     have g:=mstepP a3 (acts.getD i.toNat 0)
     have hx1:x=(Q7x r (acts.getD i.toNat 0)).1:=(congrArg Prod.fst hx).trans (Zbv _ _)
     rw[ew,hx]
     refine⟨by omega,by omega,?_,by omega,?_⟩
     · rw[hx1];exact g.more (by omega)
     · rw[←a5,show(i+1).toNat=i.toNat+1 by omega]
   refine w_cn cn (w_lv λx1 e1=>w_br (λhm=>w_cn cn (w_an (Tree.pp (event_w _)).1 (w_lv λx2 e2=>Q0e (rarrive_w a3.g.m.len (by have:=a3.l;show r.C4.length≤_;omega) (by have:=a3.q.1;show r.A4.length≤_;omega) (by rw[e2];exact Zd0 _)) λx3 e3=>w_nx ⟨nxt _ _ (by rw[e1]at hm;have q:=playF_ev (r:=r) (o:=o) hm;rw[←e2,←e3]at q;exact q.symm) (Nat.le_add_right _ _),mu _⟩))) λhm=>w_an (Qi8 (by decide)) (w_lv λx4 e4=>Q0e (advP_w a3 (by omega) x4 (Q0p _)) λx5 ⟨e5,g5,l5⟩=>w_cn (decide_eq_true (by omega)) (w_nx ⟨nxt _ _ ?_ ?_,mu _⟩)))
   · rw[e1]at hm
     rw[Qyy,Z57 hm,Z6n _ _ _ (by have:=a3.q.1;show r.A4.length≤_;omega),←e1,←e4,←e5]
   · show(o++x5.2).length≤o.length+4000
     rw[List.length_append];omega
 · have hb: ¬i<acts.length:=of_decide_eq_false hb
   refine⟨?_,a3.more (by omega),by show(o.length:Int)≤_;omega⟩
   show(r,o)=_
   rw[←a5,List.drop_eq_nil_of_le (by omega)];rfl
end Go.Proofs.YtpcbkbalabgnlaaGreat
namespace Go.Proofs.YtpcbkbalabgnlaaGreat
open Go Go.GD
attribute [local irreducible] Q1v
set_option maxRecDepth 100000
theorem Z5s{l:List Q0u}{i:Nat}(h:i<l.length):l.getD i (RK.dflt RK.apiEntry)=l[i]:=by
 rw[List.getD_eq_getElem?_getD,List.getElem?_eq_getElem h];rfl
theorem ordered_w{s:List Q0u}(hl:s.length≤1000000)(hp:s.Pairwise λa b=>a.At≤b.At∧(a.D3.B5=1→a.At<b.At∧(b.D3.B5=1→a.D3.N≤b.D3.N))):(Q8v s).w (λb=>b=true):=by
 unfold Q8v
 refine w_lp (inv:=λz:Int=>1≤z∧(z≤s.length∨z=1)) (μ:=Q4z s) ⟨Int.le_refl 1, .inr rfl⟩ (Nat.lt_succ_self _) λi ⟨a,b⟩=> ?_
 refine w_br (λhb=> ?_) (λ_=>rfl)
 have hb:=of_decide_eq_true hb
 have ew:IntKind.i64.wrap (i+1)=i+1:=by rw[IntKind.wrap_i64];omega
 have em:IntKind.i64.wrap (i-1)=i-1:=by rw[IntKind.wrap_i64];omega
 have hlt:i.toNat<s.length:=by omega
 have hlt':(i-1).toNat<s.length:=by omega
 have q:=List.pairwise_iff_getElem.1 hp (i-1).toNat i.toNat hlt' hlt (by omega)
 rw[←Z5s hlt,←Z5s hlt']at q
 have nx:(1≤IntKind.i64.wrap (i+1)∧(IntKind.i64.wrap (i+1)≤s.length∨IntKind.i64.wrap (i+1)=1))∧Q4z s (IntKind.i64.wrap (i+1))<Q4z s i:=by
   show _∧(s.length-IntKind.i64.wrap (i+1)).toNat<(s.length-i).toNat
   rw[ew];omega
 refine w_cn (by rw[em];simp [Nat.blt];omega) (w_cn (by simp [Nat.blt];omega) (w_br (λh=> ?_) λ_=>w_br (λh1=>w_br (λh2=> ?_) λ_=>w_nx nx) λ_=>w_nx nx))
 · have h:=of_decide_eq_true h
   rw[em]at h
   have:=q.1;omega
 · rw[em]at h1 h2
   have h1:=eq_of_beq h1
   have:=(q.2 (eq_of_beq h2)).1;omega
theorem ordereds(kind:Int)(l acts:List Int)(hl:l.length*8≤reachBytes):Qce kind l acts∧Qbs kind l acts=true:=by
 have aw:(Tree.an Q7s (.lv Qe1 λx=> .lf x)).w (λr=>r=true):=aw21 rfl
 refine Tree.pp (W:=λr=>r=true) ?_
 unfold Q6l
 refine w_lv λx0 h0=>w_br (λ_=>aw) λhb=> ?_
 obtain⟨f1,f2⟩:=few_lens h0 hb
 obtain⟨a,b⟩:=Z9v kind l hl f1
 refine w_an (Tree.pp (machine_w kind l hl)).1 (w_lv λm hm=> ?_)
 rw[←hm]at a b
 refine Q0e (played_w a b acts f2) λx3 ⟨e3,g3,_⟩=> ?_
 have lp:=play_logP acts (s:=({A0:=m,A7:=0,C4:=[],A4:=[]},[])) (new_logP a b) (Int.le_refl _) (by omega)
 rw[←e3]at lp
 have hall:=lp.l.all
 have hlen:x3.1.C4.length≤1000000:=by have:=g3.l;omega
 have hq:=g3.q.1
 have ord:Qmn x3.1.C4=true:=Tree.post _ (ordered_w hlen lp.l.pw)
 refine w_an (show x3.1.C4.length≤1000000000000 by omega) (w_lv λx4 h4=>w_br (λh=>by rw[h4,ord]at h;cases h) λ_=>w_br (λh=>absurd (of_decide_eq_true h) (by omega)) λ_=> ?_)
 refine w_lp (inv:=λi:Int=>0≤i∧i≤x3.1.C4.length) (μ:=Q4d kind l acts) ⟨Int.le_refl 0,by omega⟩ (Nat.lt_succ_self _) λi ⟨v1,v2⟩=> ?_
 refine w_br (λhb=> ?_) (λhb=>aw)
 have hb:=of_decide_eq_true hb
 have hlt:i.toNat<x3.1.C4.length:=by omega
 have ew:IntKind.i64.wrap (i+1)=i+1:=by rw[IntKind.wrap_i64];omega
 have nx:(0≤IntKind.i64.wrap (i+1)∧IntKind.i64.wrap (i+1)≤x3.1.C4.length)∧Q4d kind l acts (IntKind.i64.wrap (i+1))<Q4d kind l acts i:=by
   show _∧(1000000000000-IntKind.i64.wrap (i+1)).toNat<(1000000000000-i).toNat
   rw[ew];omega
 have hin:x3.1.C4.getD i.toNat (RK.dflt RK.apiEntry)∈x3.1.C4:=by rw[Z5s hlt];exact List.getElem_mem hlt
 obtain⟨q1,q2,q3,q4⟩:=hall _ hin
 generalize x3.1.C4.getD i.toNat (RK.dflt RK.apiEntry)=e at*
 have q1:m.A2≤e.At:=q1
 refine w_cn (by simp [Nat.blt];omega) (w_br (λh=>absurd (of_decide_eq_true h) (by omega)) λ_=>w_br (λh=>absurd (of_decide_eq_true h) (by omega)) λ_=>w_br (λhk=>w_br (λh=> ?_) λ_=>w_lv λx5 e5=>w_br (λh=>by rw[e5,q3]at h;cases h) λ_=>w_nx nx) λ_=>w_lv λx5 e5=>w_br (λh=>by rw[e5,q3]at h;cases h) λ_=>w_nx nx)
 have:=(q4 (eq_of_beq hk)).1
 have:=eq_of_beq h
 omega
end Go.Proofs.YtpcbkbalabgnlaaGreat
